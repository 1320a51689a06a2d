/- Lemmas. -/
import Derived.Test.YtcmpkokndngplaaGreatXCv
import Derived.Test.YtcmpkokndngplaaGreatXDj
set_option maxHeartbeats 64000000
set_option maxRecDepth 20000
set_option linter.unusedVariables false
set_option linter.unusedSimpArgs false
set_option linter.defProp false
open Inhabited renaming default→Jd
open Option renaming some→Hs,none→Hn
open Bool renaming true→Ht,false→Hf
open Go.Proofs.Tryz
open Go Go.PL
open _root_.Array renaming getElem?_eq_some_iff→Kq
open Bool renaming and_eq_true→Je,and_self→Kc,or_eq_true→Kd,not_eq_true'→Ki,true_and→Ku,true_eq_false→KO,eq_iff_iff→K5,and_true→K8
open Classical renaming byContradiction→J9,not_not→Kh
open Int renaming toNat_natCast→Jl,natCast_nonneg→JD
open List renaming mem_cons→Ja,mem_cons_of_mem→Jb,mem_singleton→Jc,length_cons→Jf,length_append→Jg,mem_cons_self→Ji,pairwise_iff_getElem→Jj,length_map→Jk,mem_map→Jm,getD_eq_getElem?_getD→Jn,eq_nil_of_length_eq_zero→Jo,getElem?_cons_zero→Jp,getElem?_cons_succ→Jq,map_cons→Jr,append_nil→Js,mem_append→Jt,length_set→Ju,all_eq_true→Jv,mem_filterMap→Jw,length_filter_le→Jz,not_mem_nil→JA,mem_range→JB,drop_eq_getElem_cons→JC,filterMap→JE,mem_filter→JF,append_assoc→JG,set_getElem_self→JH,getElem_map→JJ,mem_append_left→JK,take_of_length_le→JL,getElem_of_mem→JM,length_take→JN,Pairwise→JO,map_nil→JP,pairwise_append→JQ,mem_of_mem_take→JR,mem_of_mem_drop→JS,nodup_cons→JT,getElem?_append_right→JV,mem_append_right→JX,drop_length→JY,filter_cons_of_pos→JZ,length_drop→J2,filter_filter→J3,pairwise_cons→J4,map_append→J5,length_nil→J6,filter_sublist→Ka,set_cons_zero→Ke,filter_cons_of_neg→Kf,zipWith_cons_cons→Kj,Sublist→Kk,take_append_drop→Kl,range→Km,take_sublist→Ks,nodup_append→Kt,any_eq_true→Kv,drop→Kw,Nodup→Kx,filter_eq_nil_iff→Kz,zipWith→KB,sublist_cons_self→KC,set_append→KD,length_take_le'→KE,take_left→KG,drop_left→KI,zipWith_append→KK,finRange→KL,find?_eq_none→KM,findIdx?_cons→KN,getElem?_drop→KP,filter_congr→KT,getElem?_set→KW,getElem_take→KX,drop_sublist→KY,map_set→KZ,take_zipWith→K0,drop_zipWith→K1,nil_sublist→K3,nil_append→K4,zip_append→K6,drop_zero→K7,set_set→Qa,cons→Qe
open Nat renaming zero_le→Jh,le_trans→JI,sub_self→J8,le_refl→Kg,add_zero→KU,zero_add→K2
open Ne renaming symm→Qd
open Op renaming bytesLess→Ky
open PV renaming ids→Jy,ren→JU,idsL→JW,didsL→J7,nofrL→Kn,nofr→Ko,dids→Kr,mem_didsL→KA,nomapL→KJ,nomap→KQ,givableL→Qb
open Pub renaming vec0→KF,agg2w→K9
namespace Go.Proofs.YtcmpkokndngplaaGreat
open Go.PL.Srt
def svA:Opn:=⟨⟨1,1⟩,Jd,1,[97],1,[112,101,97,114],Jd,0,Hf,[],[]⟩
def ZoA (e:En):(ent e).nomap=true:=by simp only[ent,KQ,KJ,SM,Kc]
def Zsz (f:Fd) (ops:List Opn):(TB f ops).l.length<=ops.length+1:=by
 have a:(ZD f).l.length<=1:=by unfold ZD;simp only;split<;>simp
 have h:=ST ops;unfold TB;split;simp only;omega;simp only;split;omega;split;omega;simp
def G8 (l:List Opn) (c:Str):(Wl l c).length<=l.length:=by
 unfold Wl;have a:=Ta (S4 (Xl l c));have f:=SL l c;have h:(S4 (Xl l c)).length=(Xl l c).length:=by simp[S4]
 omega
def Zny {F:List Fd} {seen:List Opn} {sc:Int} {it:Str}:(Us F seen sc it).length<=F.length/\ ∀e∈Us F seen sc it,e.l.length<=seen.length+1:=by
 refine⟨by unfold Us;rw[Jk];exact Jz _ _,λe a=> ?_⟩;obtain⟨f,_,rfl⟩:=Jm.1 a;have:=Zsz f (Zn seen ⟨it,f.at'⟩);have:=ZbS seen ⟨it,f.at'⟩;omega
def Zl6 {α:Type} {lt:α->α->Bool} (g:Srt.Good lt) {L:List α} (h:Unl lt L) (p:α->Bool):(srt lt L).filter p=srt lt (L.filter p):=by
 symm;exact Zpe g (JO.sublist Ka (ZbQ g h)) ((Wx L).filter p)
def ZaC {m:List Eg} {l:List Opn} (h:(l.map Opn.id).Nodup):Unl Ya (VP m l):=ZiZ (Kx.sublist ((UA m l).map _) h)
def Zol {m:List Eg} {l:List Opn} (h:(l.map Opn.id).Nodup) (c:Str):YO (WH m l) c=srt Ya (l.filter λo=>(o.cart==c)&&((!X0 (Wo m l) o.id)&&US m o)):=by
 unfold YO WH;rw[Zl6 UM (ZaC h)];unfold VP Wo;rw[J3,J3];exact congrArg _ (KT λo _=>Bool.and_assoc _ _ _)
def ZdS {m:List Eg} {l a:List Opn} {cart:Str} {b:Tg} (f:l.length<=400) (i:a.length<=400) (h:YO (WH m l) cart=YO (WH m a) cart):ZF m l cart b=ZF m a cart b:=by
 unfold ZF;rw[if_neg (show ¬400<(l.length:Int)by omega),if_neg (show ¬400<(a.length:Int)by omega),h]
def Zow {l a:List Opn} (h:(l.map Opn.id).Nodup) (s:a.Sublist l):(a.map Opn.id).Nodup:=Kx.sublist (s.map _) h
def ZAT (v:List Int):PV:= .agg (v.map (.int .i64))
def ZA4 (v:List Int) (t:Tg):Bool:=ZdN t&&decide (t.n<=v.getD (t.r-1).toNat 0)
structure Mo where
 id:Tg
 l:List Cg
deriving DecidableEq,Inhabited
def mo (x:Mo):PV:= .agg [.int .i64 x.id.r,.int .i64 x.id.n,.sl .no (x.l.map chg)]
def mos (l:List Mo):PV:= .sl .no (l.map mo)
def vc9 {x:Bool} {M:KH} {g:FuncId} {args args':List PV} {K:KR} {r:PV} (f:Pp g args' r) (h:K.k r M.m) (a:Qb M.m args:=by first|(simp only[go_sem,ref,ent,ZX,doc,Y5,row,Zt,fld,lns,tg,refs,prs,pr,eg,egs,tgs,lg,lgs,Zy,opv,tr,Z1,chg,Zcd,mo,mos,ZAT];done)|exact rfl) (i:PV.giveL M.m args=args':=by first|(simp only[go_sem,ref,ent,ZX,doc,Y5,row,Zt,fld,lns,tg,refs,prs,pr,eg,egs,tgs,lg,lgs,Zy,opv,tr,Z1,chg,Zcd,mo,mos,ZAT];done)|exact rfl):@V8 prog x M (Hs (g,args)) K:=YN f a i h
def Zdl (x:List Mo×Int):PV:= .tup [mos x.1,.int .i64 x.2]
def Zcf:Nat->List Rw->List Rw->List Cg
 |0,_,_=> []
 |_+1,[],[]=> []
 |n+1,p::ps,[]=>Zb4 p::Zcf n ps []
 |n+1,[],q::qs=>FM q::Zcf n [] qs
 |n+1,p::ps,q::qs=>if Zl p.item q.item=Ht then Zb4 p::Zcf n ps (q::qs)else if Zl q.item p.item=Ht then FM q::Zcf n (p::ps) qs else Yo q.item p.l q.l++Zcf n ps qs
theorem Sy:∀(n:Nat) (p q:List Rw),p.length+q.length<n->YG p q=Zcf n p q
 |0,_,_,h=>by omega
 |n+1,[],[],_=>by rw[YG];rfl
 |n+1,p::ps,[],h=>by
  rw[YG,Zcf,Sy n ps [] (by simp at h ⊢;omega)]
 |n+1,[],q::qs,h=>by
  rw[YG,Zcf,Sy n [] qs (by simp at h ⊢;omega)]
 |n+1,p::ps,q::qs,h=>by
  rw[YG,Zcf,Sy n ps (q::qs) (by simp at h ⊢;omega),Sy n (p::ps) qs (by simp at h ⊢;omega),Sy n ps qs (by simp at h ⊢;omega)]
def Zh3 (l:List Fd) (a b:Dc):List Cg×Int:=if Zz l a=Hf\/Zz l b=Hf then([],5)else(Yo [] a.head b.head++Zcf 1000000 a.rows b.rows,0)
def ZqT {l:List Fd} {a b:Dc} (h:a.rows.length+b.rows.length<1000000):W5 l a b=Zh3 l a b:=by
 unfold W5 Zh3;rw[Sy 1000000 _ _ h]
def Zby (m:List Eg) (o:Opn) (cart:Str):Bool:=((o.cart==cart)||decide (0<o.drops.length))&&decide (0<(WH m [o]).length)
def FU (m:List Eg) (F:List Fd) (cart:Str) (b:Tg):List Opn->Dc->List Opn->List Mo->List Mo×Int
 |_,_,[],acc=>(acc,0)
 |ah,was,o::s,acc=>
  if Zby m o cart=Hf then FU m F cart b ah was s acc
  else if(ZF m (ah++ [o]) cart b).2≠0 then([],(ZF m (ah++ [o]) cart b).2)
  else if(W5 F was (ZF m (ah++ [o]) cart b).1).2≠0 then([],(W5 F was (ZF m (ah++ [o]) cart b).1).2)
  else FU m F cart b (ah++ [o]) (ZF m (ah++ [o]) cart b).1 s (if(W5 F was (ZF m (ah++ [o]) cart b).1).1= []then acc else acc++ [⟨o.id,(W5 F was (ZF m (ah++ [o]) cart b).1).1⟩])
def Zcj (m:List Eg) (l:List Opn) (cart:Str) (b:Tg):List Mo×Int:=
 if(ZF m l cart b).2≠0 then([],(ZF m l cart b).2)else if(YC (Ze m) b).2≠0 then([],(YC (Ze m) b).2)
 else if(ZF m [] cart b).2≠0 then([],(ZF m [] cart b).2)else FU m (YC (Ze m) b).1 cart b [] (ZF m [] cart b).1 (Srt.srt Ya l) []
def Zhe (c:Cg) (item:Str) (place:Rf):Bool:=(c.item==item)&&((c.kind==2)||((c.kind==1)&&decide (c.now.at'=place)))
open Go.PL.Srt
def ZhE (a b:Opn):Pp 30 [opv a,opv b] (.int .i64 (ZgB a b)):=by
 have f:=Sl a b;have i:=Sl b a;unfold ZgB;cases h:Ya a b
 ·cases j:Ya b a;all_goals
   rw[h]at f;rw[j]at i;refine ZM func30 rfl ntmps30 results30 ?_;simp only[go_sem,opv];refine vc6 f ?_;simp only[go_sem];refine vc6 i ?_;simp only[go_sem]
 rw[h]at f;refine ZM func30 rfl ntmps30 results30 ?_;simp only[go_sem,opv];refine vc6 f ?_;simp only[go_sem]
def ZoM:SortK opv 30 Ya ZgB where
 len _:=rfl
 atom a:=rfl
 ids a:=by simp[opv,Jy,JW]
 known _:=rfl
 give a m:=by simp[opv,PV.give,PV.giveL]
 givable a m:=by simp[opv,PV.givable,Qb]
 part a:=rfl
 cmp:=ZhE
 cv a b:=by
  unfold ZgB;cases f:Ya a b
  ·cases h:Ya b a<;>simp
  ·simp
 good:=UM
def Ze9 (x:Opn) (l:List Opn) (o:(x::l).length<=100000):
  Eff prog 28 [Z1 (x::l)] noV (.vsl 7 (x::l).length 15) (Zcx 7 (x::l).length 15 59 ((x::l).map opv)):=by
 have f:∀l:List Opn,∀p∈l.map opv,p.ids= []:=λl=>Yt Uv l
 refine Eff.vn [5,7] func28 (by decide) rfl ntmps28 results28 (by simp) (f _) (by simp[Jy,Z1]) (by simp[Jy]) ?_;simp only[go_sem,Z1];have n:∀p∈opv x::l.map opv,∃y,p=opv y:=λp hp=>by
  rcases Ja.1 hp with rfl|hp;exact⟨x,rfl⟩;obtain⟨y,_,rfl⟩:=Jm.1 hp;exact⟨y,rfl⟩
 have a:∀p∈opv x::l.map opv,p.ids= []:=λp hp=>by obtain⟨y,rfl⟩:=n p hp;exact Uv y
 have h:=YP (show l.length+1<=1000000 by simp only[Jf]at o;omega) (show 176<=1000 by omega);refine⟨λp hp=>by obtain⟨y,rfl⟩:=n p hp;exact⟨rfl,rfl⟩,a,λp hp=>by rw[a p hp];simp,h,?_⟩;exact ZaW (r0:= .vsl 7 _ 15) a rfl (.keep _ (by intro i j;simp[Jy]at j;subst j;exact⟨_,Jc.2 rfl,rfl⟩)) rfl rfl
def ZkN (m:List Eg) (o:Opn) (cart:Str) (u:OkM m) (v:OkOp o):Pp 31 [tr (Ze m),opv o,.str cart] (.bool (Zby m o cart)):=by
 have p:=ZkA m [o] u (by simp) (λx w=>by rw[Jc.1 w];exact v) (by simp);have i:=YP (show 1<=1000000 by omega) (show 176<=1000 by omega);have f:Sized 15 [opv o]:=Ww [o];have a:XF [opv o]:=Sv [o];have t:=Ug m [o];generalize s:WH m [o]=L at *;have h:(L.map opv).length=L.length:=Jk _;simp only[Z1,Jr,JP]at p;simp only[opv]at f a;have hd:(o.drops.map tg).length=o.drops.length:=Jk _;unfold Zby;rw[s];cases q:(o.cart==cart);by_cases r:o.drops.length=0;have j:(((o.drops.length:Nat):Int)==0)=true:=by rw[r];rfl
 have n:decide (0<o.drops.length)=false:=by simp[r]
 rw[n];refine ZM func31 rfl ntmps31 results31 ?_;simp only[go_sem,tr,opv,tgs,q,hd,j];rfl;have j:(((o.drops.length:Nat):Int)==0)=false:=by rw[beq_eq_false_iff_ne];omega
 have n:decide (0<o.drops.length)=true:=by simp;omega
 rw[n];refine ZM func31 rfl ntmps31 results31 ?_;simp only[go_sem,tr,opv,tgs,q,hd,j,f,a,i];refine vc7 p ?_;simp only[go_sem,h];simp;refine ZM func31 rfl ntmps31 results31 ?_;simp only[go_sem,tr,opv,tgs,q,f,a,i];refine vc7 p ?_;simp only[go_sem,h];simp
def Zeq {l:List Mo} {k:Nat} (h:k<l.length):(l.map mo).getD k .any=mo (l.getD k Jd):=Xk h
def Zkh (l:List Mo):Sized 3 (l.map mo):=λe a=>by
 obtain⟨t,_,rfl⟩:=Jm.1 a;rfl
def ZqB (l:List Mo):XF (l.map mo):=λe a=>by
 obtain⟨t,_,rfl⟩:=Jm.1 a;rfl
def Zon (x:Mo):(mo x).dids= []:=by simp only[mo,Kr,J7,ZfG,Js]
theorem Zjo (l:List Mo):J7 (l.map mo)= []:=by
 induction l with
 |nil=>rfl
 |cons t l ih=>simp only[Jr,J7,ih,Zon,Js]
def Zrx (l:List Mo):(mos l).dids= []:=by simp only[mos,Kr,Zjo]
def Dm (x:List Mo×Int):(Zdl x).dids= []:=by simp only[Zdl,Kr,J7,Zrx,Js]
def Zaq {m:List Eg} {l:List Opn} {cart:Str} {b:Tg} (s:OkM m):OkDd (ZF m l cart b).1:=by
 have hd:OkDd (Jd:Dc):=⟨Jh _,Jh _,(λe h=>by cases h),(λe h=>by cases h)⟩;unfold ZF;split;exact hd;split;exact hd;split;exact hd;rename_i u _ o;have v:=(Zdq s (a:=b) (show(YC (Ze m) b).2=0 from Kh.1 o)).n;have w:=Du m (YO (WH m l) cart) b;have t:(YO (WH m l) cart).length<=(WH m l).length:=Jz _ _;have q:=Ug m l;have p:=G8 (YO (WH m l) cart) cart;generalize (YC (Ze m) b).1=F at *;generalize WG m (YO (WH m l) cart) b=seen at *;have f:=λsc it=>Zny (F:=F) (seen:=seen) (sc:=sc) (it:=it)
 refine⟨by have:=(f 0 []).1;simp only;omega,by simp only[Jk];omega,λe j=> ?_,λr n=> ?_⟩;have:=(f 0 []).2 e j;omega;simp only[Jm]at n;obtain⟨i,_,rfl⟩:=n;refine⟨by have:=(f 1 i).1;simp only;omega,λe j=> ?_⟩;have:=(f 1 i).2 e j;omega
structure HisS (m:List Eg) (F:List Fd) (cart:Str) (b:Tg) (s:List Opn) (R:List Mo×Int) where
 k:Nat
 ah:List Opn
 was:Dc
 acc:List Mo
 hk:k<=s.length
 ha:ah.Sublist (s.take k)
 hw:OkDd was
 hl:acc.length<=k
 h:FU m F cart b ah was (s.drop k) acc=R
theorem ZmD (m:List Eg) (r:Opn) (q:List Opn) (cart:Str) (b:Tg) (M:OkM m) (hr:RightM m) (hl:(r::q).length<=20) (ho:∀o∈r::q,OkOp o) (hU:((r::q).map Opn.id).Nodup)
  (hv:(ZF m (r::q) cart b).2=0) (hs:(YC (Ze m) b).2=0) (hn:(ZF m [] cart b).2=0):
  Pp 10 [tr (Ze m),Z1 (r::q),.str cart,tg b] (Zdl (FU m (YC (Ze m) b).1 cart b [] (ZF m [] cart b).1 (srt Ya (r::q)) [])):=by
 have B:∀l:List Opn,∀p∈l.map opv,p.ids= []:=λl=>Yt Uv l
 have hV:=VM m (r::q) cart b M hr hl ho hU;have hS:=Y6 m b M;have hN:=VM m [] cart b M hr (by simp) (λo h=>by cases h) (by simp);have hC:=Ze9 r q (by omega);have xa:=S6 ZoM 59 (r::q).length (by omega) (r::q) (ZiZ hU) rfl _ rfl;have hF:=Zdq M (a:=b) hs;have O:=Wx (lt:=Ya) (r::q);have xk:=λi (h0:i.length<=20) (h1:∀o∈i,OkOp o) (h2:(i.map Opn.id).Nodup)=>VM m i cart b M hr h0 h1 h2
 have xj:=λo (h:OkOp o)=>ZkN m o cart M h
 have xi:=λi=>Zaq (m:=m) (l:=i) (cart:=cart) (b:=b) M
 have xp:((srt Ya (r::q)).map Opn.id).Nodup:=(O.map Opn.id).nodup_iff.2 hU;have xf:∀o∈srt Ya (r::q),OkOp o:=λo h=>ho o (O.mem_iff.1 h)
 have xq:(srt Ya (r::q)).length=(r::q).length:=O.length_eq;have S:=xi [];have e1:((ZF m (r::q) cart b).2 !=0)=false:=by simp[hv]
 have e2:((YC (Ze m) b).2 !=0)=false:=by simp[hs]
 have e3:((ZF m [] cart b).2 !=0)=false:=by simp[hn]
 generalize hL:r::q=L at *;generalize srt Ya L=s at *;generalize ZF m L cart b=V at *;generalize hW:ZF m [] cart b=W at *;obtain⟨vd,vc⟩:=V;obtain⟨⟨wh,wr⟩,wc⟩:=W;generalize YC (Ze m) b=X at *;obtain⟨F,xc⟩:=X;simp only at hv hs hn e1 e2 e3 hF S ⊢;subst hv hs hn;generalize f:FU m F cart b [] ⟨wh,wr⟩ s []=R;have xn:s.length<=maxLen:=by rw[Zd];omega
 simp only[Z1,JP]at hN;refine ZS func10 rfl ntmps10 results10 (Dm _) ?_;simp only[go_sem,tr,Z1,tg];refine vc7 hV ?_;simp only[go_sem,Zcg,doc,e1];refine vc5 hS ?_;simp only[go_sem,YX,Zt,e2];refine vc7 hN ?_;simp only[go_sem,Zcg,doc,e3];refine SU 54 hC (B _) (by simp[Jy,Z1]) rfl rfl ?_;simp only[go_sem,JU,id];refine DD 54 xa (by simp[Jy,JW]) (B _) (B _) rfl rfl rfl ?_;simp only[go_sem];have y:(s.map opv).length=L.length:=by rw[Jk,xq]
 refine ZhT 57 54 15 59 (s.map opv) (by rw[y];rfl) (by rw[y];rfl) rfl (B _) ?_;refine YJ 16 102 3 51 rfl rfl ?_;refine YJ 17 71 15 59 rfl rfl ?_;refine ZA (ι:=HisS m F cart b s R) 106 (λx=> [(0,tr (Ze m)),(2,.str cart),(7,.ptr 7 0),(12,Zt F),(14,.ptr 14 0),(16,.sl (.row 102) (x.acc.map mo)),(17,.sl (.row 71) (x.ah.map opv)),(57,Z1 s),(58,.int .i64 (L.length:Int)),(59,.int .i64 (x.k:Int))]) (λx=> [(7,[.int .i64 b.r,.int .i64 b.n],Hf),(14,[.sl .no (x.was.head.map ent),.sl .no (x.was.rows.map row)],Hf)]) (λx=> [(102,.live x.acc.length 3 51),(71,.live x.ah.length 15 59)]) (λx=>s.length-x.k) ⟨0,[],⟨wh,wr⟩,[],Jh _,by simp,S,by simp,by rw[K7];exact f⟩
  ⟨rfl,(Fc10 rfl rfl rfl rfl rfl rfl rfl rfl rfl rfl),Fc2 ⟨rfl,rfl⟩ ⟨rfl,rfl⟩,(Fc2 rfl rfl)⟩ (λx=>⟨Fc10 rfl rfl rfl rfl rfl (by simp[Jy,ZR]) (by simp[Jy,ZR]) rfl rfl rfl,Fc2 rfl rfl⟩) (λx=> ?_)
 clear hV hS hN hC xa f S hW;obtain⟨k,i,xr,t,hk,ha,hw,xt,f⟩:=x;obtain⟨ws,wt⟩:=xr;simp only;by_cases h:(k:Int)<(L.length:Int);have j:k<s.length:=by omega
 have w:(k:Int)<(s.length:Int):=by omega
 have i1:=JD k
 have w1:=Wa j xn;have xo:=xf _ (Zh (d:=Jd) j);have xm:s.drop k=s.getD k Jd::s.drop (k+1):=by rw[JC j,getD_lt j]
 rw[xm]at f;have J:=xj _ xo;have xh:s.take (k+1)=s.take k++ [s.getD k Jd]:=ZQ j;have z:(i++ [s.getD k Jd]).Sublist (s.take (k+1)):=by rw[xh];exact ha.append (.refl _)
 have Q:i.Sublist (s.take (k+1)):=by rw[xh];exact ha.trans (List.sublist_append_left _ _)
 have P:=z.trans (Ks _ _);have n:=xk (i++ [s.getD k Jd]) (JI P.length_le (by omega)) (λo h=>xf o (P.mem h)) (Kx.sublist (P.map _) xp);have u:=xi (i++ [s.getD k Jd]);have xs:i.length<=k:=JI ha.length_le (List.length_take_le _ _);have E:=YP (show i.length+1<=1000000 by omega) (show 176<=1000 by omega);have xe:=YP (show t.length+1<=1000000 by omega) (show 40<=1000 by omega);have G:=Ww i;have C:(i.map opv).length=i.length:=Jk _;have xg:=Zkh t;have xd:(t.map mo).length=t.length:=Jk _;generalize hx:s.getD k Jd=x at *;have A:Sized 15 [opv x]:=Ww [x];have v:XF [opv x]:=Sv [x];simp only[opv]at A v;unfold FU at f;cases hp:Zby m x cart;rw[hp]at J;rw[if_pos hp]at f;simp only[go_sem,Z1,h,w,Z3 j,hx,opv,i1];refine vc7 J ?_;simp only[go_sem,w1];exact⟨⟨k+1,i,⟨ws,wt⟩,t,by omega,Q,hw,by omega,f⟩,nx9 (by omega),⟨rfl,(Fc10 rfl rfl rfl rfl rfl rfl rfl rfl rfl rfl),Fc2 ⟨rfl,rfl⟩ ⟨rfl,rfl⟩,(Fc2 rfl rfl)⟩⟩;rw[hp]at J;rw[if_neg (by rw[hp];simp)]at f;have Z:=ZkF F ⟨ws,wt⟩ (ZF m (i++ [x]) cart b).1 (by rw[Zd];have:=hF.n;omega) hF.c hw u;simp only[Z1,J5,Jr,JP,opv]at n;generalize ZF m (i++ [x]) cart b=Y at *;obtain⟨⟨yh,yr⟩,yc⟩:=Y;simp only at f Z u;by_cases T:yc=0;subst T;rw[if_neg (by simp)]at f;generalize W5 F ⟨ws,wt⟩ ⟨yh,yr⟩=D at *;obtain⟨I,dc⟩:=D;simp only at f Z;by_cases K:dc=0;subst K;rw[if_neg (by simp)]at f;cases I with
 |nil=>
  rw[if_pos rfl]at f;simp only[go_sem,Z1,h,w,Z3 j,hx,opv,i1];refine vc7 J ?_;simp only[go_sem,C,E,G,A,v];refine vc7 (n) ?_;simp only[go_sem,Zcg,doc];refine vc2 Z ?_;simp only[go_sem,Zce,Zcd,w1];exact⟨⟨k+1,i++ [x],⟨yh,yr⟩,t,by omega,z,u,by omega,f⟩,nx9 (by omega),⟨rfl,by simp only;rw[J5];exact(Fc10 rfl rfl rfl rfl rfl rfl rfl rfl rfl rfl),Fc2 ⟨rfl,rfl⟩ ⟨rfl,rfl⟩,by simp only;rw[Jg];exact(Fc2 rfl rfl)⟩⟩
 |cons U I=>
  rw[if_neg (by simp)]at f;have y:Sized 3 [mo ⟨x.id,U::I⟩]:=Zkh [⟨x.id,U::I⟩];have xb:XF [mo ⟨x.id,U::I⟩]:=ZqB [⟨x.id,U::I⟩];have xl:(0:Int)<((U::I).length:Int):=by rw[Jf];omega
  generalize U::I=ds at *;simp only[mo]at y xb;simp only[go_sem,Z1,h,w,Z3 j,hx,opv,i1];refine vc7 J ?_;simp only[go_sem,C,E,G,A,v];refine vc7 (n) ?_;simp only[go_sem,Zcg,doc];refine vc2 Z ?_;simp only[go_sem,Zce,Zcd,xl,xd,xe,xg,y,xb,w1];exact⟨⟨k+1,i++ [x],⟨yh,yr⟩,t++ [⟨x.id,ds⟩],by omega,z,u,by rw[Jg];simp;omega,f⟩,nx9 (by omega),⟨rfl,by simp only;rw[J5,J5];exact(Fc10 rfl rfl rfl rfl rfl rfl rfl rfl rfl rfl),Fc2 ⟨rfl,rfl⟩ ⟨rfl,rfl⟩,by simp only;rw[Jg,Jg];exact(Fc2 rfl rfl)⟩⟩
 have e5:(dc !=0)=true:=by simpa using K
 rw[if_pos K]at f;subst f;simp only[go_sem,Z1,h,w,Z3 j,hx,opv,i1];refine vc7 J ?_;simp only[go_sem,C,E,G,A,v];refine vc7 (n) ?_;simp only[go_sem,Zcg,doc];refine vc2 Z ?_;simp only[go_sem,Zce,Zcd,e5,Zdl,mos];have e4:(yc !=0)=true:=by simpa using T
 rw[if_pos T]at f;subst f;simp only[go_sem,Z1,h,w,Z3 j,hx,opv,i1];refine vc7 J ?_;simp only[go_sem,C,E,G,A,v];refine vc7 (n) ?_;simp only[go_sem,Zcg,doc,e4,Zdl,mos];obtain rfl:k=s.length:=by omega
 rw[JY]at f;unfold FU at f;subst f;simp only[go_sem,Z1,h,Zdl,mos]
def Zfe (m:List Eg) (f:Opn) (a:List Opn) (cart:Str) (b:Tg) (q:OkM m) (s:RightM m) (p:(f::a).length<=20) (r:∀o∈f::a,OkOp o) (n:((f::a).map Opn.id).Nodup):
  Pp 10 [tr (Ze m),Z1 (f::a),.str cart,tg b] (Zdl (Zcj m (f::a) cart b)):=by
 unfold Zcj;by_cases hv:(ZF m (f::a) cart b).2=0;rw[if_neg (by simpa using hv)];by_cases h:(YC (Ze m) b).2=0;rw[if_neg (by simpa using h)];by_cases i:(ZF m [] cart b).2=0;rw[if_neg (by simpa using i)];exact ZmD m f a cart b q s p r n hv h i;exfalso;apply i;unfold ZF at hv ⊢;rw[if_neg (by simp)];split at hv;simp at hv;split at hv;simp at hv;rename_i t;rw[if_neg t,if_neg (by simpa using h)];exfalso;unfold ZF at hv;split at hv;simp at hv;split at hv;simp at hv;exact h hv;rw[if_pos hv];have u:=VM m (f::a) cart b q s p r n;have j:((ZF m (f::a) cart b).2 !=0)=true:=by simpa using hv
 generalize f::a=L at *;generalize ZF m L cart b=V at *;obtain⟨v,vc⟩:=V;simp only at j ⊢;refine ZS func10 rfl ntmps10 results10 (Dm _) ?_;simp only[go_sem,tr,Z1,tg];refine vc7 u ?_;simp only[go_sem,Zcg,doc,j,Zdl,mos]
open Go.RowKit
def ZkU (c:Cg) (item:Str) (place:Rf):Pp 44 [chg c,.str item,ref place] (.bool (Zhe c item place)):=by
 unfold Zhe;cases a:(c.item==item);refine ZM func44 rfl ntmps44 results44 ?_;simp only[go_sem,chg,ref,a];simp;cases f:(c.kind==2);cases h:(c.kind==1);refine ZM func44 rfl ntmps44 results44 ?_;simp only[go_sem,chg,ref,a,f,h];simp;refine ZM func44 rfl ntmps44 results44 ?_;simp only[go_sem,chg,ref,a,f,h,ZB];simp;refine ZM func44 rfl ntmps44 results44 ?_;simp only[go_sem,chg,ref,a,f]
def ZkD (l:List Mo):Pp 43 [mos l] (.fn 87 [.rptr [mos l]]):=by
 have hd:(PV.fn 87 [.rptr [mos l]]).dids= []:=by simp only[Kr,J7,mos,Zjo,Js]
 refine ZS func43 rfl ntmps43 results43 (hd) ?_;simp only[go_sem,mos]
set_option maxRecDepth 100000 in
theorem ZhV (l:List Mo) (Z:l.length<=100000):ZmC prog 87 [.rptr [mos l]] l.reverse (λc=> [.any,mo c]) 2:=by
 refine⟨⟨_,func87,by decide,rfl⟩,λm S w lb x U D=> ?_⟩;obtain⟨v,rfl⟩:∃v,lb= #[v]:=Array.size_eq_one_iff.1 U;have F:=D 0 (by simp);have F:Rep S v (.rptr [mos l]):=F;obtain⟨b,o,vals,rfl,y,E⟩:=(RepS.clean (M:=⟨id,id,id⟩) (q:=λ_=>Hn) F).rptr_inv;have y:=y 0 (by simp);have E:Rep S (vals 0) (.sl .no (l.map mo)):=E 0 (by simp);obtain⟨A,cap,vs,hv,X,Y⟩:=E.cells_at (sz:=3) (λi P=>by
  have Q:i<l.length:=by simpa using P
  rw[Zeq Q];rfl)
 simp only[Jk]at hv X Y;rw[hv]at y;refine⟨λk=> #[.int .i64 ((l.length:Int)-1-(k.val:Int)),.agg ⟨(Km 3).map λj=>vs (l.length-1-k.val) j⟩],λk=>⟨rfl,rfl,λi P=> ?_⟩,?_⟩;have hk:k.val<l.length:=by simpa using k.isLt
 have f:l.length-1-k.val<l.length:=by omega
 have hx:l.reverse[k]=l.getD (l.length-1-k.val) Jd:=by rw[getD_lt f];simp
 rw[hx];match i,P with
 |0,_=>exact .any _
 |1,_=>
  show Rep S (.agg ⟨(Km 3).map λj=>vs (l.length-1-k.val) j⟩) (mo _);have a:=λj B=>Y (l.length-1-k.val) j f B
  rw[Zeq f]at a;refine .agg _ _ (by rfl) λj B=> ?_
  have z:j<3:=B;have e:((Km 3).map λj=>vs (l.length-1-k.val) j).getD j undef=vs (l.length-1-k.val) j:=by
   rw[getD_lt (by simpa using z)];simp
  rw[e];exact a j z
 intro lp J Jx W K hJ xa hY G;have r:StabS S W:=⟨λb o u h=>by
  have a:=x.c b o u h;rw[World.cell?_of_block (K.block _ (Uo a))];exact a,λb es h=>by
  have a:=x.m b es h;rw[K.block _ (Kq.1 a).1];exact a,λb h=>by
  obtain⟨V,t1,a⟩:=x.y b h;exact⟨V,t1,by rw[K.block _ (Kq.1 a).1];exact a⟩⟩
 refine callsIn_of_wp func87 rfl trivial ?_ rfl;simp only[ntmps87,List.size_toArray,Jf,J6,Nat.reduceAdd,Nat.reduceSub,Array.replicate_succ,Array.replicate_zero,List.push_toArray,List.append_toArray,K4,List.cons_append];have L:=r.c _ _ _ y;rw[KU]at L y;have u0:IntKind.i64.wrap ((l.length:Int)-1)=(l.length:Int)-1:=w64 (by omega)
 gi_wp2
 gi_loopw [3] (λi wr=>∃k:Nat,k<=l.length/\i= .int .i64 ((l.length:Int)-1-k)/\StabS S wr/\J ((KL l.reverse.length).take k) wr)
  (λi _=>(intOf i+1).toNat)
 case atStart=>exact⟨0,Jh _,by simp,r,G⟩
 case round=>
  obtain⟨k,hk,rfl,n,s⟩:=hrel;have xb:=n.c _ _ _ y
  by_cases T:k<l.length
  ·obtain⟨b',o',rfl,O⟩:=X (by omega);have f:l.length-1-k<l.length:=by omega
   have t:k<l.reverse.length:=by simpa using T
   have xc:((l.length-1-k:Nat):Int)=(l.length:Int)-1-(k:Int):=by omega
   have i0:(l.length:Int)-1-(k:Int)>=0:=by omega
   have xd:((l.length:Int)-1-(k:Int)).toNat=l.length-1-k:=by omega
   have C:(loadVar 51 ⟨b',o'+(l.length-1-k)*3,Hn⟩).run prog wr= .ok (.agg ⟨(Km 3).map λj=>vs (l.length-1-k) j⟩) wr:=
    ZoX underlying51 rfl rfl λj B=>n.c _ _ _ (O _ j f B)
   obtain⟨fn,tmps,assign,body,hy,I⟩:=hY _ ⟨k,t⟩ wr s (by simp;omega);obtain⟨val,p⟩:∃val,val=Value.agg ⟨(Km 3).map λj=>vs (l.length-1-k) j⟩:=⟨_,rfl⟩;have hy:(Instr.yield lp #[.int .i64 ((l.length:Int)-1-(k:Int)),val]).run prog wr= .ok (.round lp fn tmps assign body) wr:=by rw[p];exact hy
   rw[<-p]at C;clear p
   gi_wp2_with (first|(refine Zjf rfl C ?_)|gi_in)
   refine I.mono ?_
   rintro e W3 (⟨rfl,hJ3,hk3⟩|⟨rfl,hJx3⟩)
   ·have u2:IntKind.i64.wrap ((l.length:Int)-1-(k:Int)-1)=(l.length:Int)-1-((k+1:Nat):Int):=by rw[w64 (by omega)];omega
    gi_wp2
    go_roundw
    case rel=>exact⟨k+1,by omega,rfl,hk3 n,by rw[G2 t];exact hJ3⟩
    case measure=>simp[intOf];omega
   ·gi_wp2
    refine bodyPost_ret (results_none rfl _ _ _) rfl ?_;exact⟨⟨_,rfl⟩,.inr ⟨_,by rw[<-G2 t];exact List.take_prefix _ _,hJx3⟩⟩
  ·obtain rfl:k=l.length:=by omega
   have i0:¬((l.length:Int)-1-(l.length:Int)>=0):=by omega
   gi_wp2
   go_end0
   have e:(KL l.reverse.length).take l.length=KL l.reverse.length:=JL (by simp);rw[e]at s;exact⟨⟨_,rfl⟩,.inl s⟩
def blL:List (Nat×PV):= [(10,.ptr 10 0),(11,.ptr 11 0),(12,.ptr 12 0),(13,.ptr 13 0)]
def blM (item:Str) (place:Rf) (t:Tg):MemT:=⟨[(10,[.str item],Hf),(11,[.int .i64 place.sc,.str place.gr,.str place.nm],Hf),(12,[.int .i64 t.r,.int .i64 t.n],Hf),(13,[.int .i64 0],Hf)],[],[]⟩
def Zkx (item:Str) (place:Rf) (t:Tg) (φ:Nat->Nat):WholeT blL (blM item place t) (T6 [10,11,12,13] φ):=
 ⟨⟨(Fc4 rfl rfl rfl rfl),(Fc4 rfl rfl rfl rfl)⟩,fnl,fnl,fnl,(Fc4 rfl rfl rfl rfl),fnl⟩
def Zoe (pre:List Mo):Tg:=(pre.getLast?.elim Jd Mo.id)
def Zp0 (item:Str) (place:Rf) (x:Mo):Bool:=x.l.any λc=>Zhe c item place
def Zlg {l:List Mo} {p:Mo->Bool} {pre:List Mo} {x:Mo} (h:pre++ [x] <+:l) (a:∀y∈pre,p y=Hf) (f:p x=Ht):l.find? p=Hs x:=by
 obtain⟨r,rfl⟩:=h;rw[JG,List.find?_append,KM.2 (λy i=>by rw[a y i];simp)];simp[f]
def Zcy (m:List Eg) (L:List Opn) (cart:Str) (b:Tg) (item:Str) (place:Rf) (Q:Dc) (S:En) (H:List Mo)
  (Z:Pp 9 [tr (Ze m),Z1 L,.str cart,tg b] (Zcg (Q,0)))
  (F:Pp 42 [doc Q,.str item,ref place] (ZpZ (S,0)))
  (V:Pp 10 [tr (Ze m),Z1 L,.str cart,tg b] (Zdl (H,0)))
  (hl:H.length<=100000) (M:∀x∈H,x.l.length<=1000000):
  Pp 16 [tr (Ze m),Z1 L,.str cart,tg b,.str item,ref place] (tgc ((H.reverse.find? (Zp0 item place)).elim Jd Mo.id,0)):=by
 have G:=ZkD H;have W:=λc=>ZkU c item place
 refine Pure.range (A:=Mo) 6 (Q1:=λs=>s.eval (.tmp 59)= .fn 87 [.rptr [mos H]]/\HasT 77 blL (blM item place Jd) [] s) (pin:= [10,11,12,13]) (mt:=λ_=>blM item place Jd) (mx:=λpre=>blM item place (Zoe pre)) (Y:=λpre=>∀y∈pre,Zp0 item place y=Hf) (X:=λpre=>∃a x,pre=a++ [x]/\(∀y∈a,Zp0 item place y=Hf)/\Zp0 item place x=Ht)
  func16 (by decide) rfl ntmps16 results16 (by simp) (Zsi _) ?_ rfl (λs K=>⟨K.1,K.2,λi C=> ?_⟩) (by simp[Jy,JW,mos]) (ZhV H hl) ?_ ?_ ?_ (λy q=>by cases q) (λ_ φ=>Zkx _ _ _ φ) (λ_ φ=>Zkx _ _ _ φ) ?_ ?_ ?_
 refine Vu ?_;simp only[go_sem,tr,Z1,tg,ref];refine Vu ?_;simp only[go_sem,tr,Z1,tg,ref];refine vc7 Z ?_;simp only[go_sem,Zcg,doc];refine Vu ?_;simp only[go_sem];refine Vu ?_;simp only[go_sem];refine vc1 F ?_;simp only[go_sem,ZpZ,ent];refine Vu ?_;simp only[go_sem,tr,Z1,tg];refine vc7 V ?_;simp only[go_sem,Zdl,mos];refine Vu ?_;simp only[go_sem];refine Zsf (Z4 _ _ _ (show @vC _ ⟨_⟩ ⟨_⟩ _ from ?_));simp only[go_sem];refine vc9 G ?_;simp only[go_sem,mos];exact⟨rfl,⟨⟨rfl,(Fc4 rfl rfl rfl rfl),Fc4 ⟨rfl,rfl⟩ ⟨rfl,rfl⟩ ⟨rfl,rfl⟩ ⟨rfl,rfl⟩,fnl⟩,fnl,fnl,fnl,fnl,fnl,fnl⟩⟩;have h:=λx M=>(K.2.b.h x M).1
 simp only[Ja,JA,or_false]at C;rcases C with rfl|rfl|rfl|rfl;rw[h (10,[.str item],Hf) (by simp[blM])];simp;rw[h (11,[.int .i64 place.sc,.str place.gr,.str place.nm],Hf) (by simp[blM])];simp;rw[h (12,[.int .i64 (Jd:Tg).r,.int .i64 (Jd:Tg).n],Hf) (by simp[blM])];simp;rw[h (13,[.int .i64 0],Hf) (by simp[blM])];simp;intro x v p hp;rcases Ja.1 hp with rfl|hp;rfl;rw[Jc.1 hp];exact List.eq_nil_iff_forall_not_mem.2 λi C=>by have:=Wk _ C;rw[Zon]at this;cases this
 intro t w;have:t=60\/t=61:=by simpa using w
 rcases this with rfl|rfl<;>decide
 intro x v r E;simp only[blL,Ja,JA,or_false]at v;rcases v with rfl|rfl|rfl|rfl;exact⟨10,by simp,by simpa[Jy]using E⟩;exact⟨11,by simp,by simpa[Jy]using E⟩;exact⟨12,by simp,by simpa[Jy]using E⟩;exact⟨13,by simp,by simpa[Jy]using E⟩;intro l φ pre x O xc B;have xa:=M x (List.mem_reverse.1 O);have J:x.l.length<=maxLen:=by rw[Zd];omega
 refine ZaG ?_;change @vR l 0 prog ⟨_⟩ ⟨_⟩ (((mkT 77 blL (blM item place Jd) (T6 [10,11,12,13] φ)).put (Hs 60) .any).put (Hs 61) (mo x));simp only[go_sem,blL,blM,mo];refine ZaG ?_;simp only[go_sem,blL,blM,mo,Zcd];refine Zxb (ι:= { k:Nat // k<=x.l.length/\ ∀j,j<k->Zhe (x.l.getD j Jd) item place=Hf }) (λy=> [(10,.ptr 10 0),(11,.ptr 11 0),(12,.ptr 12 0),(13,.ptr 13 0),(20,.ptr 20 0),(63,.sl .no (x.l.map chg)),(64,.int .i64 (x.l.length:Int)),(65,.int .i64 (y.1:Int))]) (λy=>⟨[(20,[.int .i64 x.id.r,.int .i64 x.id.n,.sl .no (x.l.map chg)],Hf),(10,[.str item],Hf),(11,[.int .i64 place.sc,.str place.gr,.str place.nm],Hf),(12,[.int .i64 0,.int .i64 0],Hf),(13,[.int .i64 0],Hf)],[],[]⟩) (T6 [10,11,12,13] φ) (λy=>x.l.length-y.1) ⟨0,Jh _,λj D=>absurd D (Nat.not_lt_zero j)⟩
  ⟨⟨rfl,(Fc8 rfl rfl rfl rfl rfl rfl rfl rfl),Fc5 ⟨rfl,rfl⟩ ⟨rfl,rfl⟩ ⟨rfl,rfl⟩ ⟨rfl,rfl⟩ ⟨rfl,rfl⟩,fnl⟩,fnl,fnl,fnl,fnl,(Fc4 rfl rfl rfl rfl),fnl⟩ (λy=>⟨⟨(Fc8 rfl rfl rfl rfl rfl rfl rfl rfl),(Fc5 rfl rfl rfl rfl rfl)⟩,fnl,fnl,fnl,(Fc4 rfl rfl rfl rfl),fnl⟩) (λy=> ?_)
 obtain⟨k,hk,z⟩:=y;simp only;by_cases h:(k:Int)<(x.l.length:Int);have o:k<x.l.length:=by omega
 have P:=JD k
 have w1:=Wa o J;have n:=W (x.l.getD k Jd);cases w:Zhe (x.l.getD k Jd) item place;rw[w]at n;simp only[go_sem,blL,blM,h,Zep o,P,chg];refine vc8 n ?_;simp only[go_sem,w1];refine⟨⟨k+1,by omega,λj D=> ?_⟩,nx9 (by omega),⟨⟨rfl,(Fc8 rfl rfl rfl rfl rfl rfl rfl rfl),Fc5 ⟨rfl,rfl⟩ ⟨rfl,rfl⟩ ⟨rfl,rfl⟩ ⟨rfl,rfl⟩ ⟨rfl,rfl⟩,fnl⟩,fnl,fnl,fnl,fnl,(Fc4 rfl rfl rfl rfl),fnl⟩⟩;rcases Nat.lt_or_ge j k with f|xb;exact z j f;obtain rfl:j=k:=by omega
 exact w;rw[w]at n;have I:Zp0 item place x=true:=Kv.2 ⟨_,Zc (d:=Jd) o,w⟩;have f:Zoe (pre++ [x])=x.id:=by simp[Zoe]
 simp only[go_sem,blL,blM,h,Zep o,P,chg];refine vc8 n ?_;simp only[go_sem];refine⟨⟨pre,x,rfl,B,I⟩,⟨⟨rfl,fnl,?_,fnl⟩,fnl,fnl,fnl,fnl,(Fc4 rfl rfl rfl rfl),fnl⟩⟩;rw[f];exact Fc4 ⟨rfl,rfl⟩ ⟨rfl,rfl⟩ ⟨rfl,rfl⟩ ⟨rfl,rfl⟩;have u:Zp0 item place x=false:=by
  unfold Zp0;rw[List.any_eq_false];intro c hc;obtain⟨j,D,rfl⟩:=JM hc;have:=z j (by omega);rw[getD_lt D]at this;rw[this];simp
 simp only[go_sem,blL,blM,h];refine⟨λy q=> ?_,⟨⟨rfl,fnl,Fc4 ⟨rfl,rfl⟩ ⟨rfl,rfl⟩ ⟨rfl,rfl⟩ ⟨rfl,rfl⟩,fnl⟩,fnl,fnl,fnl,fnl,(Fc4 rfl rfl rfl rfl),fnl⟩⟩;rcases Jt.1 q with q|q;exact B y q;rw[Jc.1 q];exact u;intro B φ;have hf:H.reverse.find? (Zp0 item place)=none:=KM.2 λy q=>by rw[B y q];simp
 rw[hf];refine ZsB ?_;simp only[go_sem,blL,blM,tgc,tg];rfl;intro pre hp hX φ;obtain⟨a,x,rfl,T,U⟩:=hX;rw[Zlg hp T U];have f:Zoe (a++ [x])=x.id:=by simp[Zoe]
 show ZbY _ _ _ _ _;rw[f];simp only[go_sem,blL,blM,tgc,tg];rfl
structure ClS (v:List Int) (A:List Opn) where
 k:Nat
 ks:List Tg
 hk:k<=A.length
 h:∀t,t∈ks↔t∈(A.take k).map Opn.id
 hd:∀j,j<k-> ∀t∈(A.getD j Jd).drops,ZA4 v t=Ht
open Go.PL.Srt
def Zxx {l m:List Fd} {x:Ln} {es:List En} {sc:Int} {it:Str} {S:List Opn} {R:Rf->Bool} {g:Fd} (p:ZW l x=(m,0)) (t:∀o∈S,FitW l o) (A:S.length<=1000) (r:Agr l sc it es S R)
  (z:g∈Zk m sc) (y:g.kind=1\/(Zpi x g.at'&&(Zub x g.at').all R)=Ht):ZvR x es g=(TB g (Zn (S.filterMap (ovO x)) ⟨it,g.at'⟩),0):=by
 obtain⟨a,n⟩:=Zj2 z;have j:g.kind=1\/(Zpi x g.at'=Ht/\ ∀s∈Zub x g.at',R s=Ht):=by
  rcases y with h|h;exact .inl h;simp only[Je,Jv]at h;exact .inr h
 have B:=(Xb p).2.1;unfold ZvR;rcases came p a with ⟨f,q⟩|⟨i,f,q,cs,u,v,w⟩;rw[if_pos f,(Zma p t a f).2];have:=r g (Zrh q n) (by
  rcases j with h|⟨_,h⟩;exact .inl h;refine .inr (h _ ?_);unfold Zub;rw[if_neg (by rw[B];simp),if_pos f];simp)
 rw[this];rw[if_neg (by omega),f];exact Zsc p t A r u v w a f n j
def Zl9 {T:List Opn} {s:Str} (h:s∈Yc T):∃o∈T,o.kind=4/\o.has=Ht/\o.text=s:=by
 unfold Yc at h;obtain⟨o,a,f⟩:=Jm.1 h;rw[JF]at a;simp only[Je,beq_iff_eq]at a;exact⟨o,a.1,a.2.1,a.2.2,f⟩
def ZnB {f:Fd} (i:ZT f=Ht) (a:f.kind≠1) (j:f.kind≠4):Xo f f.df=true:=by
 have:=Zml i;obtain⟨_,_,_,h⟩:=Zvx this a;exact h f.df (by simp[ZD,a,j])
def ZpE {F:List Fd} {S:List Opn} {it:Str} {f:Fd} (q:ZP F=Ht) (x:∀o∈S,FitW F o) (A:S.length<=400) (p:f∈F):YF f (TB f (Zn S ⟨it,f.at'⟩))=true:=by
 have j:=(ZL.1 q).2.2 f p;unfold TB;by_cases h:f.kind=1;rw[if_pos h];have:=ZzE j h (n:=Zhx (Zn S ⟨it,f.at'⟩)) (Zan _ Zu6);have e:(ZD f).l= []:=by simp[ZD,h]
 rw[e];exact this;rw[if_neg h];have z:=Zam (it:=it) q x p h;have t:∀s∈Yc (Zn S ⟨it,f.at'⟩),Xo f s=true:=λs i=>by
  obtain⟨o,u,_,v,w⟩:=Zl9 i;rw[<-w];exact(z o u).2.2 v
 have r:=ST (Zn S ⟨it,f.at'⟩);have y:=WR S ⟨it,f.at'⟩;refine Zyp j h ?_ ?_;by_cases a:f.kind=4;rw[if_pos a,if_pos a];omega;rw[if_neg a,if_neg a];split;simp[ZD,h,a];rfl;by_cases a:f.kind=4;rw[if_pos a];exact t;rw[if_neg a];split;intro s i;simp[ZD,h,a]at i;subst i;exact ZnB j h a;intro s i;rw[Jc]at i;subst i;exact t _ (Zc (by omega))
def ZcZ {F:List Fd} {S:List Opn} {sc:Int} {it:Str} (j:ZP F=Ht) (h:∀o∈S,FitW F o) (n:S.length<=400):Zo (Zk F sc) (Us F S sc it)=true:=by
 unfold Zo Us;simp only[Jk,decide_true,Ku,Jv,JB];intro i a;have:((Zk F sc).map λf=>TB f (Zn S ⟨it,f.at'⟩)).getD i Jd=TB ((Zk F sc).getD i Jd) (Zn S ⟨it,((Zk F sc).getD i Jd).at'⟩):=by
  rw[getD_lt (by simpa using a),getD_lt a,JJ]
 rw[this];exact ZpE j h n (Zj2 (Zc a)).1
def ZzD (xs:List Ln):List Ln:=(xs.map FV).reverse
inductive Two:List Fd->List Ln->List Fd->Prop
 |nil (l):Two l [] l
 |cons {l m n x xs}:ZW l x=(m,0)->ZW m (FV x)=(l,0)->Two m xs n->Two l (x::xs) n
theorem Two.append {l m n:List Fd} {xs ys:List Ln} (h:Two l xs m) (k:Two m ys n):Two l (xs++ys) n:=by
 induction h with
 |nil=>exact k
 |cons a b c ih=>exact .cons a b (ih k)
theorem Two.split:∀ {xs ys:List Ln} {l n:List Fd},Two l (xs++ys) n-> ∃m,Two l xs m/\Two m ys n
 | [],ys,l,n,h=>⟨l,.nil l,h⟩
 |x::xs,ys,l,n,h=>by
  cases h with
  |cons a b c=>
   obtain⟨m,f,i⟩:=Two.split c;exact⟨m,.cons a b f,i⟩
theorem Two.back {l m:List Fd} {xs:List Ln} (h:Two l xs m):Two m (ZzD xs) l:=by
 induction h with
 |nil=>exact .nil _
 |cons a b c ih=>
  unfold ZzD at ih ⊢;rw[Jr,List.reverse_cons];refine ih.append (.cons b ?_ (.nil _));rw[Zn5 (Xb a).2.1];exact a
theorem ZqM:∀(a b:Str),Zl a b=Ht↔a<b
 | [],[]=>by simp[Zl,Ky]
 | [],_::_=>by simp[Zl,Ky]
 |_::_,[]=>by simp[Zl,Ky]
 |x::a,y::b=>by
  have f:=ZqM a b;unfold Zl at *;rw[List.cons_lt_cons_iff,<-f];simp[Ky]
def Zo3 (xs:List Str):(S4 xs).Pairwise λx y=>x<=y:=by
 have:=List.pairwise_mergeSort (le:=λx y:Str=>decide (x<=y)) (λa b c f i=>by simp only[decide_eq_true_eq]at *;exact List.le_trans f i) (λa b=>by simp only[Kd,decide_eq_true_eq];exact List.le_total a b) xs;exact this.imp λh=>by simpa using h
def Zh2 {xs:List Str} {s:Str} (h:s∈Lib.compact xs):s∈xs:=by
 unfold Lib.compact Lib.compactUpTo at h;obtain⟨j,a,f⟩:=Jm.1 h;rw[JF,JB]at a;rw[<-f];have i:j<xs.toArray.size:=by simpa using a.1
 rw[getElem!_pos xs.toArray j i];simp
def Zh1 {xs:List Str} (h:xs.Pairwise λx y=>x<=y):(Lib.compact xs).Pairwise λx y=>Zl x y=true:=by
 unfold Lib.compact Lib.compactUpTo;rw[List.pairwise_map];have hp:((Km xs.length).filter (Lib.keeps xs.toArray)).Pairwise λi j=>i<j:=JO.sublist Ka List.pairwise_lt_range
 refine JO.imp_of_mem ?_ hp;intro i j q o u;rw[JF,JB]at q o;have f:=q.1;have a:=o.1;have n:=o.2;unfold Lib.keeps at n;simp only[decide_eq_true_eq]at n;rw[getElem!_pos xs.toArray i (by simpa using f),getElem!_pos xs.toArray j (by simpa using a)];rw[getElem!_pos xs.toArray j (by simpa using a),getElem!_pos xs.toArray (j-1) (by simp;omega)]at n;simp only[List.getElem_toArray]at n ⊢;rw[Jj]at h;have p:xs[j]≠xs[j-1]:=by rcases n with h|h;omega;exact h
 have r:xs[j-1]<=xs[j]:=h (j-1) j (by omega) a (by omega);have s:xs[i]<=xs[j-1]:=by
  by_cases e:i=j-1;subst e;exact List.le_refl _;exact h i (j-1) f (by omega) (by omega)
 rw[ZqM];have t:xs[j-1]<xs[j]:=by
  rcases Sw xs[j-1] xs[j]with h|h|h;exact(ZqM _ _).1 h;exact absurd h.symm p;exact absurd ((ZqM _ _).1 h) (List.not_lt.2 r)
 exact List.lt_of_le_of_lt s t
def Zn8 (l:List Opn) (c:Str):(Wl l c).Pairwise λx y=>Zl x y=true:=Zh1 (Zo3 _)
def Zn9 {l:List Opn} {c i:Str} (h:i∈Wl l c):∃o∈l,o.kind=1/\o.cart=c/\o.item=i:=by
 have f:=Zh2 h;unfold S4 at f;rw[List.mem_mergeSort]at f;unfold Xl at f;obtain⟨o,a,j⟩:=Jm.1 f;rw[JF]at a;simp only[Je,beq_iff_eq]at a;exact⟨o,a.1,a.2.1,a.2.2,j⟩
def Zlt (l:List Opn) (c:Str):Wl (YO l c) c=Wl l c:=by
 unfold Wl Xl YO;rw[J3];congr 4;funext o;cases o.cart==c<;>simp
def Zv4 (m:List Eg) (b:Tg) (o:Opn):Option Opn:=if(Wd (Zdy m o.sch b).1 o).2=Ht then Hs (Zu7 (Wd (Zdy m o.sch b).1 o).1 b)else Hn
def Zv5 {m:List Eg} {b:Tg} {o:Opn} (h:US m o=Ht) (f:upC m b=0):((toT m o b).c==0&&(toT m o b).ok)=(Wd (Zdy m o.sch b).1 o).2/\((Wd (Zdy m o.sch b).1 o).2=Ht->(toT m o b).o=Zu7 (Wd (Zdy m o.sch b).1 o).1 b):=by
 have a:=h;simp only[US,Je,decide_eq_true_eq]at a;have i:S9 m o b=0:=Zk7.2 ⟨a.1,a.2.1,f,a.2.2⟩;have hp:UO m o.sch b=0:=VF.2 ⟨a.2.1,f⟩;unfold toT;rw[if_neg (by rw[i];simp)];unfold Ztj;rw[if_neg (by rw[hp];simp)];cases j:(Wd (Zdy m o.sch b).1 o).2;exact⟨by simp,λh=>by cases h⟩;exact⟨by simp,λ_=>by simp⟩
theorem ZgU {m:List Eg} {b:Tg} (j:upC m b=0):∀ {l:List Opn},(∀o∈l,US m o=Ht)->WG m l b=l.filterMap (Zv4 m b)
 | [],_=>rfl
 |o::l,h=>by
  have f:=ZgU j (l:=l) λx q=>h x (by simp[q])
  obtain⟨i,n⟩:=Zv5 (h o (by simp)) j;unfold WG at f ⊢;cases a:(Wd (Zdy m o.sch b).1 o).2;rw[Kf (p:=λo=>(toT m o b).c==0&&(toT m o b).ok) (by rw[i,a];simp),List.filterMap_cons_none (by unfold Zv4;rw[a];rfl)];exact f;rw[JZ (p:=λo=>(toT m o b).c==0&&(toT m o b).ok) (by rw[i,a]),List.filterMap_cons_some (b:=(toT m o b).o) (by unfold Zv4;rw[if_pos a,n a]),Jr,f]
def Zgi {m:List Eg} {l:List Opn} {o:Opn} (h:o∈WH m l):US m o=true:=by
 have a:=(Dg m l).mem_iff.1 h;unfold VP at a;have f:=(JF.1 a).1;exact(JF.1 f).2
def FitW.schd {l:List Fd} {o:Opn} (h:FitW l o) (t:Tg):FitW l (Zu7 o t):=⟨h.f,h.z,λk=>by obtain⟨w,a⟩:=h.w k;exact⟨w,a.sch t⟩⟩
def Zra {m:List Eg} (a:RightM m) {o:Opn} (h:US m o=Ht):upC m o.sch=0/\FitW (YC (Ze m) o.sch).1 o:=by
 simp only[US,Je,decide_eq_true_eq]at h;exact⟨h.2.1,ZnA (ZgS a h.2.1) h.2.2⟩
def Zr3 {m:List Eg} (p:OkM m) (f:RightM m) {b:Tg} (j:upC m b=0) {l:List Opn} (h:∀o∈l,US m o=Ht):∀o∈l.filterMap (Zv4 m b),FitW (YC (Ze m) b).1 o:=λo r=>by
 obtain⟨q,s,a⟩:=Jw.1 r;obtain⟨u,n⟩:=Zra f (h q s);unfold Zv4 at a;split at a;rename_i i;simp only[Option.some.injEq]at a;rw[<-a];exact(ZfZ _ (Zr1 p f u j) n (Prod.ext rfl i)).schd b;cases a
def Zn7 {m:List Eg} {ops:List Opn} {cart it:Str} (h:it∈Wl (WH m ops) cart):Z0 it=true:=by
 obtain⟨o,f,i,_,j⟩:=Zn9 h;have a:=Zgi f;simp only[US,Je]at a;have a:=a.1;simp only[Ws,Je,Ki,Bool.and_eq_false_iff,Bool.not_eq_false']at a;have:=a.2.2.2.2.1;rcases this with h|h;simp[ZtK,i]at h;rw[<-j];exact h
def Zmp {m:List Eg} (A:OkM m) (w:RightM m) {a:Tg} (t:upC m a=0) {ops:List Opn} {cart:Str} (G:ops.length<=400):
  Zz (YC (Ze m) a).1 ⟨Us (YC (Ze m) a).1 (WG m (YO (WH m ops) cart) a) 0 [],(Wl (WH m ops) cart).map λi=>⟨i,Us (YC (Ze m) a).1 (WG m (YO (WH m ops) cart) a) 1 i⟩⟩=true:=by
 have s:=ZgS w t;have f:∀o∈YO (WH m ops) cart,US m o=true:=λo B=>Zgi (JF.1 B).1
 have r:=Zr3 A w t f;rw[<-ZgU t f]at r;have q:(WG m (YO (WH m ops) cart) a).length<=400:=by
  have C:=Du m (YO (WH m ops) cart) a;have D:(YO (WH m ops) cart).length<=(WH m ops).length:=Jz _ _;have E:=Ug m ops;omega
 have y:=G8 (WH m ops) cart;have z:=Ug m ops;have h:=Zn8 (WH m ops) cart;have n:∀i∈Wl (WH m ops) cart,Z0 i=true:=λi p=>Zn7 p
 generalize WG m (YO (WH m ops) cart) a=S at *;generalize Wl (WH m ops) cart=I at *;generalize (YC (Ze m) a).1=F at *;unfold Zz Gb;simp only[s,Ku,Je,Jk,ZcZ s r q,K8,Ki,decide_eq_false_iff_not,Jv,JB];refine⟨by omega,λi p=> ?_⟩;have u:∀j,j<I.length->(I.map λi=>(⟨i,Us F S 1 i⟩:Rw)).getD j Jd=⟨I.getD j [],Us F S 1 (I.getD j [])⟩:=λj v=>by
  rw[getD_lt (by simpa using v),getD_lt v,JJ]
 unfold Ub;rw[u i p];simp only[ZcZ s r q,K8,Je,Kd,decide_eq_true_eq];refine⟨n _ (Zc p),?_⟩;by_cases x:i=0;exact .inl x;right;rw[u (i-1) (by omega)];rw[Jj]at h;have:=h (i-1) i (by omega) p (by omega);rw[getD_lt (by omega),getD_lt p];exact this
def Zb2 {m:List Eg} {l:List Opn} {cart:Str} {b:Tg} (h:(ZF m l cart b).2=0):upC m b=0/\ZF m l cart b=(⟨Us (YC (Ze m) b).1 (WG m (YO (WH m l) cart) b) 0 [],(Wl (WH m l) cart).map λi=>⟨i,Us (YC (Ze m) b).1 (WG m (YO (WH m l) cart) b) 1 i⟩⟩,0):=by
 unfold ZF at h ⊢;split at h;simp at h;rename_i f;split at h;simp at h;rename_i j;split at h;rename_i a;exact absurd h a;rename_i a;rw[if_neg f,if_neg j,if_neg a,Zlt];exact⟨Kh.1 a,rfl⟩
def ZrI {S:List Opn} {k:Nat} (p:Opn->Bool) (h:k<S.length):(S.take (k+1)).filter p=(S.take k).filter p++(if p (S.getD k Jd)=Ht then [S.getD k Jd]else []):=by
 rw[ZQ (d:=Jd) h,List.filter_append];congr 1;generalize S.getD k Jd=x;cases a:p x;rw[Kf (by rw[a];simp),if_neg (by simp)];rfl;rw[JZ (by exact a),if_pos rfl];rfl
def ZoN {o:Opn} (h:Ws o=Ht):o.id∉o.drops:=λn=>by
 obtain⟨i,f,j⟩:=JM n;simp only[Ws,Je]at h;obtain⟨_,_,_,_,_,_,_,hd⟩:=h;unfold ZaS at hd;rw[Je,Jv]at hd;have a:=hd.2 i (JB.2 f);unfold VR at a;rw[getD_lt f,j]at a;simp at a
def Fi (m:List Eg) (cart:Str) (o:Opn):Bool:=((o.cart==cart)||decide (0<o.drops.length))&&US m o
def ZlP (m:List Eg) (cart:Str) (o:Opn):Zby m o cart=Fi m cart o:=by
 unfold Zby Fi;congr 1;have h:(WH m [o]).length=(VP m [o]).length:=(Dg m [o]).length_eq;rw[h];unfold VP Wo;cases f:US m o;rw[Kf (by rw[f];simp)];simp;have a:Ws o=true:=by
  simp only[US,Je]at f;exact f.1
 have i:X0 [o] o.id=false:=by
  simp only[X0,List.any_cons,List.any_nil,Bool.or_false,decide_eq_false_iff_not];exact ZoN a
 rw[JZ (by exact f),List.filter_nil,JZ (by rw[i];rfl)];simp
def ZoO (m:List Eg) (l:List Opn) (c:Str) (t:Tg):X0 (Wo m (l.filter (Fi m c))) t=X0 (Wo m l) t:=by
 rw[K5];unfold X0 Wo;rw[J3];simp only[Kv,JF,Je,Kd,decide_eq_true_eq,Fi];constructor;rintro ⟨o,⟨h,a,i⟩,f⟩;exact⟨o,⟨h,a⟩,f⟩;rintro ⟨o,⟨h,a⟩,f⟩;exact⟨o,⟨h,a,.inr (List.length_pos_of_mem f),a⟩,f⟩
def ZgF {m:List Eg} {l:List Opn} {cart:Str} {b:Tg} (h:(l.map Opn.id).Nodup) (a:l.length<=400):ZF m (l.filter (Fi m cart)) cart b=ZF m l cart b:=by
 have f:(l.filter (Fi m cart)).length<=l.length:=Jz _ _;refine ZdS (by omega) a ?_;rw[Zol h,Zol (l:=l.filter (Fi m cart)) (Zow h Ka)];congr 1;simp only[ZoO];rw[J3];refine KT λo _=> ?_
 unfold Fi;cases o.cart==cart<;>cases US m o<;>simp
def ZiT (m:List Eg) (F:List Fd) (cart:Str) (b:Tg) (s:List Opn) (i:Nat):List Mo:=
 if(W5 F (ZF m (s.take i) cart b).1 (ZF m (s.take (i+1)) cart b).1).1= []then []else [⟨(s.getD i Jd).id,(W5 F (ZF m (s.take i) cart b).1 (ZF m (s.take (i+1)) cart b).1).1⟩]
def FX (m:List Eg) (F:List Fd) (cart:Str) (b:Tg) (s:List Opn) (k:Nat):List Mo:=(Km k).flatMap (ZiT m F cart b s)
def SK (m:List Eg) (F:List Fd) (cart:Str) (b:Tg) (s:List Opn) (k:Nat):FX m F cart b s (k+1)=FX m F cart b s k++ZiT m F cart b s k:=by
 unfold FX;rw[List.range_succ,List.flatMap_append];simp
theorem Zgm (m:List Eg) (F:List Fd) (cart:Str) (b:Tg) (s:List Opn):∀k,(FX m F cart b s k).length<=k
 |0=>by simp[FX]
 |k+1=>by
  have h:=Zgm m F cart b s k;rw[SK,Jg];unfold ZiT;split;simp;omega;simp;omega
theorem Znr (F:List Fd) (d:Dc):(W5 F d d).1= []:=by
 unfold W5;split;rfl;have f:∀it (a:List En),Yo it a a= []:=λit a=>by
  unfold Yo;rw[Kz.2 (λi _=>by simp)];rfl
 have h:∀P:List Rw,YG P P= []:=by
  intro P;induction P with
  |nil=>rw[YG]
  |cons p P ih=>rw[YG,if_neg (by rw[Xs];simp),if_neg (by rw[Xs];simp),f,ih];rfl
 rw[f,h];rfl
def Zjd {m:List Eg} {l:List Opn} {cart:Str} {b:Tg} (h:l.length<=400) (a:Z0 cart=Ht) (f:(YC (Ze m) b).2=0):(ZF m l cart b).2=0:=by
 unfold ZF;rw[if_neg (by omega),if_neg (by rw[a];simp),if_neg (by simpa using f)]
def Tv {m:List Eg} (i:OkM m) (n:RightM m) {l:List Opn} {cart:Str} {b:Tg} (a:l.length<=400) (j:Z0 cart=Ht) (o:(YC (Ze m) b).2=0):Zz (YC (Ze m) b).1 (ZF m l cart b).1=true:=by
 obtain⟨f,h⟩:=Zb2 (Zjd (m:=m) (b:=b) a j o);rw[h];exact Zmp i n f a
def Zns {F:List Fd} {a b:Dc} (f:Zz F a=Ht) (h:Zz F b=Ht):(W5 F a b).2=0:=by
 unfold W5;rw[if_neg (by rw[f,h];simp)]
theorem Zga {m:List Eg} (x:OkM m) (z:RightM m) {cart:Str} {b:Tg} {s:List Opn} (A:(s.map Opn.id).Nodup) (B:s.length<=400) (t:Z0 cart=Ht) (u:(YC (Ze m) b).2=0):
  ∀(n k:Nat),k+n=s.length->FU m (YC (Ze m) b).1 cart b ((s.take k).filter (Fi m cart)) (ZF m (s.take k) cart b).1 (s.drop k) (FX m (YC (Ze m) b).1 cart b s k)=(FX m (YC (Ze m) b).1 cart b s s.length,0)
 |0,k,h=>by
  obtain rfl:k=s.length:=by omega
  rw[JY];rfl
 |n+1,k,h=>by
  have o:k<s.length:=by omega
  have v:=Zga x z A B t u n (k+1) (by omega);have w:s.drop k=s.getD k Jd::s.drop (k+1):=by rw[JC o,getD_lt o]
  have r:∀j,((s.take j).map Opn.id).Nodup:=λj=>Kx.sublist ((Ks _ _).map _) A
  have f:∀j,(s.take j).length<=400:=λj=>JI (KE _ _) B
  have a:(s.take (k+1)).filter (Fi m cart)=(s.take k).filter (Fi m cart)++(if Fi m cart (s.getD k Jd)=Ht then [s.getD k Jd]else []):=ZrI _ o;have i:=ZgF (m:=m) (cart:=cart) (b:=b) (r (k+1)) (f (k+1));have y:=ZgF (m:=m) (cart:=cart) (b:=b) (r k) (f k);have p:=SK m (YC (Ze m) b).1 cart b s k;have q:ZiT m (YC (Ze m) b).1 cart b s k=if(W5 (YC (Ze m) b).1 (ZF m (s.take k) cart b).1 (ZF m (s.take (k+1)) cart b).1).1= []then []else [⟨(s.getD k Jd).id,(W5 (YC (Ze m) b).1 (ZF m (s.take k) cart b).1 (ZF m (s.take (k+1)) cart b).1).1⟩]:=rfl
  rw[w];unfold FU;rw[ZlP];cases hp:Fi m cart (s.getD k Jd);rw[if_pos rfl];rw[hp,if_neg (by simp),Js]at a;rw[a,y]at i;rw[<-i,Znr,if_pos rfl]at q;rw[q,Js]at p;rw[a,<-i,p]at v;exact v;rw[if_neg (by simp)];rw[hp,if_pos rfl]at a;rw[a]at i;rw[i,if_neg (by rw[Zjd (f (k+1)) t u];simp),if_neg (by rw[Zns (Tv x z (f k) t u) (Tv x z (f (k+1)) t u)];simp)];rw[a,p,q]at v;rw[<-v];congr 1;split;rw[Js];rfl
def SY (m:List Eg) (l:List Opn) (cart:Str) (b:Tg):List Mo×Int:=
 if(ZF m l cart b).2≠0 then([],(ZF m l cart b).2)else(FX m (YC (Ze m) b).1 cart b (srt Ya l) l.length,0)
def ZnU {m:List Eg} (q:OkM m) (r:RightM m) {l:List Opn} {cart:Str} {b:Tg} (p:(l.map Opn.id).Nodup):Zcj m l cart b=SY m l cart b:=by
 unfold Zcj SY;by_cases hv:(ZF m l cart b).2=0;have a:=hv;unfold ZF at a;split at a;simp at a;split at a;simp at a;split at a;rename_i o j f;exact absurd a f;rename_i o j f;have n:Z0 cart=true:=by simpa using j
 have i:(YC (Ze m) b).2=0:=Kh.1 f;have h:=Wx (lt:=Ya) l;rw[if_neg (by rw[hv];simp),if_neg (by rw[i];simp),if_neg (by rw[Zjd (by simp) n i];simp),if_neg (by rw[hv];simp)];have:=Zga q r (cart:=cart) (b:=b) (s:=srt Ya l) ((h.map Opn.id).nodup_iff.2 p) (by rw[VK];omega) n i (srt Ya l).length 0 (by omega);rw[VK]at this;exact this;rw[if_pos hv,if_pos hv]
def Zfa:Pp 28 [Z1 []] (Z1 []):=by
 refine ZS func28 rfl ntmps28 results28 (Zbq _) ?_;simp only[go_sem,Z1];intro b;cases b;simp only[go_sem,Z1];exact Yl (by omega) (by omega);simp only[go_sem,Z1]
def Ztq (g:FuncId):Pp 104 [Z1 [],.int .i64 0,.int .i64 0,.fn g []] (.tup []):=by
 have w0:IntKind.i64.wrap (0+1)=1:=w64 (by omega);have a:IntKind.i64.wrap 1=1:=w64 (by omega);refine ZM func104 rfl ntmps104 results104 ?_;simp only[go_sem,Z1,w0,a];refine ZA (ι:=Unit) 53 (λ_=> [(8,.int .i64 1),(2,.int .i64 0)]) (λ_=> []) (λ_=> []) (λ_=>0) () ⟨rfl,(Fc2 rfl rfl),fnl,fnl⟩ (λ_=>⟨(Fc2 rfl rfl),fnl⟩) (λ_=> ?_);simp only[go_sem]
def ZkS (g:FuncId):Pp 62 [Z1 [],.int .i64 0,.fn g []] (.tup []):=by
 have a:=Ztq g;simp only[Z1,JP]at a;refine ZM func62 rfl ntmps62 results62 ?_;simp only[go_sem,Z1];refine ZA (ι:=Unit) 63 (λ_=> [(0,.sl .no []),(1,.int .i64 0),(2,.fn g []),(6,.int .i64 20),(7,.int .i64 0),(8,.int .i64 20)]) (λ_=> []) (λ_=> []) (λ_=>0) () ⟨rfl,(Fc6 rfl rfl rfl rfl rfl rfl),fnl,fnl⟩ (λ_=>⟨(Fc6 rfl rfl rfl rfl rfl rfl),fnl⟩) (λ_=> ?_);simp only[go_sem];refine vc1 a ?_;simp only[go_sem];refine ZA (ι:=Unit) 63 (λ_=> [(0,.sl .no []),(1,.int .i64 0),(2,.fn g []),(6,.int .i64 20)]) (λ_=> []) (λ_=> []) (λ_=>0) () ⟨rfl,(Fc4 rfl rfl rfl rfl),fnl,fnl⟩ (λ_=>⟨(Fc4 rfl rfl rfl rfl),fnl⟩) (λ_=> ?_);simp only[go_sem]
def Zb9 (g:FuncId):Pp 29 [Z1 [],.fn g []] (.tup []):=by
 have a:=ZkS g;simp only[Z1,JP]at a;refine ZM func29 rfl ntmps29 results29 ?_;simp only[go_sem,Z1];refine vc1 a ?_;simp only[go_sem]
def Zqa (m:List Eg) (cart:Str) (b:Tg) (q:OkM m) (u:RightM m):Pp 10 [tr (Ze m),Z1 [],.str cart,tg b] (Zdl (Zcj m [] cart b)):=by
 have j:=VM m [] cart b q u (by simp) (λo h=>by cases h) (by simp);have s:=Y6 m b q;have p:=Zfa;have f:=Zb9 30;have t:Zcj m [] cart b=([],(ZF m [] cart b).2):=by
  unfold Zcj;by_cases hv:(ZF m [] cart b).2=0;have i:(YC (Ze m) b).2=0:=(Zb2 hv).1;rw[if_neg (by rw[hv];simp),if_neg (by rw[i];simp),if_neg (by rw[hv];simp),hv];rfl;rw[if_pos hv]
 rw[t];have i:(ZF m [] cart b).2=0->(YC (Ze m) b).2=0:=λh=>(Zb2 h).1
 generalize ZF m [] cart b=V at *;obtain⟨⟨v,w⟩,vc⟩:=V;simp only[Z1,JP]at j p f i ⊢;by_cases hv:vc=0;have a:=i hv;clear i;subst hv;have n:((YC (Ze m) b).2 !=0)=false:=by simp[a]
 generalize YC (Ze m) b=X at *;obtain⟨F,x⟩:=X;simp only at a n;subst a;refine ZS func10 rfl ntmps10 results10 (Dm _) ?_;simp only[go_sem,tr,tg];refine vc5 j ?_;simp only[go_sem,Zcg,doc];refine vc5 s ?_;simp only[go_sem,YX,Zt,n];refine vc5 j ?_;simp only[go_sem,Zcg,doc];refine vc1 p ?_;simp only[go_sem];refine vc1 f ?_;simp only[go_sem];refine ZA (ι:=Unit) 106 (λ_=> [(16,.sl .nil []),(58,.int .i64 0),(59,.int .i64 0)]) (λ_=> []) (λ_=> []) (λ_=>0) () ⟨rfl,(Fc3 rfl rfl rfl),fnl,fnl⟩ (λ_=>⟨(Fc3 rfl rfl rfl),fnl⟩) (λ_=> ?_);simp only[go_sem,Zdl,mos];have r:(vc !=0)=true:=by simpa using hv
 refine ZS func10 rfl ntmps10 results10 (Dm _) ?_;simp only[go_sem,tr,tg];refine vc5 j ?_;simp only[go_sem,Zcg,doc,r,Zdl,mos]
theorem Zp9 (m:List Eg) (l:List Opn) (cart:Str) (b:Tg) (a:OkM m) (f:RightM m) (i:l.length<=20) (j:∀o∈l,OkOp o) (h:(l.map Opn.id).Nodup):
  Pp 10 [tr (Ze m),Z1 l,.str cart,tg b] (Zdl (Zcj m l cart b)):=by
 cases l with
 |nil=>exact Zqa m cart b a f
 |cons x0 l0=>exact Zfe m x0 l0 cart b a f i j h
theorem Zbc {α:Type} [Inhabited α] (p:α->Bool) (x:α):∀(l:List α) (k:Nat),k<l.length->p x=p (l.getD k Jd)->idx p (l.set k x)=idx p l:=by
 have key:∀(l:List α) (k:Nat),k<l.length->p x=p (l.getD k Jd)->(l.set k x).findIdx? p=l.findIdx? p:=by
  intro l;induction l with
  |nil=>intro k f;simp at f
  |cons a t ih=>
   intro k f h;cases k with
   |zero=>
    simp only[Ke,KN];have h:p x=p a:=h;rw[h]
   |succ k=>
    simp only[List.set_cons_succ,KN];rw[ih k (by simpa using f) (by simpa using h)]
 intro l k f h;unfold idx;rw[key l k f h]
def Ye {α:Type} {d:α} {l:List α} {k:Nat} {x:α} (h:k<l.length):(l.set k x).getD k d=x:=by
 rw[Jn,KW,if_pos rfl,if_pos h];rfl
def XK {α:Type} {d:α} {l:List α} {k i:Nat} {x:α} (h:i≠k):(l.set k x).getD i d=l.getD i d:=by
 rw[Jn,KW,if_neg (Qd h),<-Jn]
def ZiH {l:List Fd} (h:ZP l=Ht) {f g:Fd} (a:f∈l) (i:g∈l) (e:f.at'=g.at'):f=g:=ZeJ (ZL.1 h).2.1 a i e
def ZrV {l:List Fd} {d:Dc} (h:Zz l d=Ht):ZP l=Ht/\d.rows.length<=400:=by
 simp only[Zz,Gb,Je,Ki,decide_eq_false_iff_not]at h;exact⟨h.1.1,by omega⟩
def Zen {l:List Fd} {sc:Int} {k j:Nat} {r:Rf} (p:ZP l=Ht) (o:k<(Zk l sc).length) (h:((Zk l sc).getD k Jd).at'=r) (s:j<l.length) (q:idx (atF r) l=(j:Int)):(Zk l sc).getD k Jd=l.getD j Jd:=by
 rcases XA (atF r) l with ⟨n,_⟩|⟨i,f,n,a,_⟩;omega;obtain rfl:i=j:=by omega
 have a:(l.getD i Jd).at'=r:=by simpa[atF]using a
 exact ZiH p (JF.1 (Zh (d:=Jd) o)).1 (Zh f) (h.trans a.symm)
def ZaU {L:List Fd} {es:List En} {k:Nat} {e:En} (h:Zo L es=Ht) (n:k<es.length) (f:YF (L.getD k Jd) e=Ht):Zo L (es.set k e)=true:=by
 simp only[Zo,Je,decide_eq_true_eq,Jv,JB,Ju]at h ⊢;refine⟨h.1,λi j=> ?_⟩;by_cases a:i=k;subst a;rw[Ye n];exact f;rw[XK a];exact h.2 i j
def Yk {l:List Fd} {d:Dc}:Zz l d=Ht↔ZP l=Ht/\d.rows.length<=400/\Zo (Zk l 0) d.head=Ht/\FL d.rows/\ ∀r∈d.rows,Z0 r.item=Ht/\Zo (Zk l 1) r.l=true:=by
 constructor;intro h;obtain⟨a,j⟩:=ZrV h;refine⟨a,j,ZoS h,ZeL h,λr o=>⟨?_,ZoT h r o⟩⟩;simp only[Zz,Je,Jv,JB]at h;obtain⟨i,f,rfl⟩:=JM o;have a:=h.2 i f;rw[Ub,getD_lt f,Je,Je]at a;exact a.1.1;rintro ⟨a,j,q,s,t⟩;simp only[Zz,Gb,Je,Ki,decide_eq_false_iff_not,Jv,JB];refine⟨⟨a,by omega,q⟩,λi f=> ?_⟩;have n:=t _ (Zh (d:=Jd) f);simp only[Ub,Je,Kd,decide_eq_true_eq];refine⟨⟨n.1,?_⟩,n.2⟩;by_cases p:i=0;exact .inl p;right;have:=Jj.1 s (i-1) i (by omega) f (by omega);rwa[<-getD_lt (d:=Jd),<-getD_lt (d:=Jd)]at this
def Zo1 {l:List Fd} {d:Dc} {it:Str} {e:En} (V:Zz l d=Ht) (hs:(Vg d it e.at').2.2=0) (B:YF (Zp l e.at').1 e=Ht):
  Xh (Dv d (Vg d it e.at') e) it e.at'=(e,0)/\Zz l (Dv d (Vg d it e.at') e)=Ht/\ ∀look,look≠e.at'->Xh (Dv d (Vg d it e.at') e) it look=Xh d it look:=by
 obtain⟨F,W,Q,X,S⟩:=Yk.1 V;rcases ZdD (it:=it) (r:=e.at') V with h|⟨v,k,j,p,T,U,M,E⟩|⟨v,i,k,j,o,Y,xa,p,T,U,M,E⟩;exact absurd hs h;have D:Dv d (Vg d it e.at') e=⟨d.head.set k e,d.rows⟩:=by
  unfold Dv;rw[U,if_pos (by simp)];rfl
 obtain⟨G,I⟩:=YQ Q p;have f:(d.head.getD k Jd).at'=e.at':=by
  rcases XA (atE e.at') d.head with ⟨n,_⟩|⟨z,y,n,s,_⟩;omega;obtain rfl:z=k:=by omega
  simpa[atE]using s
 have u:YF ((Zk l 0).getD k Jd) e=true:=by
  rw[Zen F G (I.symm.trans f) M E];unfold Zp at B;rw[E,if_neg (by omega),Jl]at B;exact B
 rw[D];refine⟨?_,Yk.2 ⟨F,W,ZaU Q p u,X,S⟩,λlook O=> ?_⟩;unfold Xh;rw[if_pos v];simp only;rw[Zbc _ _ _ _ p (by simp only[atE,f]),T,if_neg (by omega),Jl,Ye p];unfold Xh;rw[if_pos v,if_pos v];simp only;rw[Zbc _ _ _ _ p (by simp only[atE,f])];rcases XA (atE look) d.head with ⟨n,_⟩|⟨z,y,n,s,_⟩;rw[n];rfl;rw[n,if_neg (by omega),if_neg (by omega),Jl];have:z≠k:=λA=>by
  subst A;simp only[atE,f,decide_eq_true_eq]at s;exact O s.symm
 rw[XK this];have D:Dv d (Vg d it e.at') e=⟨d.head,d.rows.set i ⟨(d.rows.getD i Jd).item,(d.rows.getD i Jd).l.set k e⟩⟩:=by
  unfold Dv;rw[U,if_neg (by simp)];simp only[Jl]
 have q:=S _ (Zh (d:=Jd) o);obtain⟨G,I⟩:=YQ q.2 p;have f:((d.rows.getD i Jd).l.getD k Jd).at'=e.at':=by
  rcases XA (atE e.at') (d.rows.getD i Jd).l with ⟨n,_⟩|⟨z,y,n,s,_⟩;omega;obtain rfl:z=k:=by omega
  simpa[atE]using s
 have u:YF ((Zk l 1).getD k Jd) e=true:=by
  rw[Zen F G (I.symm.trans f) M E];unfold Zp at B;rw[E,if_neg (by omega),Jl]at B;exact B
 have C:∀(w:Rw),w.item=(d.rows.getD i Jd).item->idx (atR it) (d.rows.set i w)=(i:Int):=λw P=>by
  rw[Zbc _ _ _ _ o (by simp only[atR,P]),Y]
 have t:∀(w:Rw),w.item=(d.rows.getD i Jd).item->FL (d.rows.set i w):=λw P=>by
  unfold FL;rw[Jj];intro a b J L K;rw[Ju]at J L;have:=Jj.1 X a b J L K;have it':∀x (D:x<d.rows.length),((d.rows.set i w).getD x Jd).item=(d.rows.getD x Jd).item:=λx D=>by
   by_cases A:x=i;subst A;rw[Ye o,P];rw[XK A]
  rw[<-getD_lt (d:=Jd),<-getD_lt (d:=Jd)]at this ⊢;rw[it' a J,it' b L];exact this
 rw[D];refine⟨?_,Yk.2 ⟨F,by simpa using W,Q,t ⟨(d.rows.getD i Jd).item,(d.rows.getD i Jd).l.set k e⟩ rfl,λr Z=> ?_⟩,λlook O=> ?_⟩;unfold Xh;rw[if_neg v];simp only;rw[C ⟨(d.rows.getD i Jd).item,(d.rows.getD i Jd).l.set k e⟩ rfl,if_neg (by omega),Jl,Ye o];simp only;rw[Zbc _ _ _ _ p (by simp only[atE,f]),T,if_neg (by omega),Jl,Ye p];rcases List.mem_or_eq_of_mem_set Z with h|rfl;exact S r h;exact⟨q.1,ZaU q.2 p u⟩;unfold Xh;rw[if_neg v,if_neg v];simp only;simp only[C ⟨(d.rows.getD i Jd).item,(d.rows.getD i Jd).l.set k e⟩ rfl,Y,show ¬(i:Int)<0 by omega,if_false,Jl,Ye o];rw[Zbc _ _ _ _ p (by simp only[atE,f])];rcases XA (atE look) (d.rows.getD i Jd).l with ⟨n,_⟩|⟨z,y,n,s,_⟩;rw[n];rfl;rw[n,if_neg (by omega),if_neg (by omega),Jl];have:z≠k:=λA=>by
  subst A;simp only[atE,f,decide_eq_true_eq]at s;exact O s.symm
 rw[XK this]
def ZpF {f:Fd} (j:ZT f=Ht):YF f (ZD f)=true:=by
 have h:=j;simp only[ZT,Je]at h;obtain⟨_,h⟩:=h;have i:(ZD f).at'=f.at':=rfl;have p:(ZD f).n=0:=rfl;by_cases a:f.kind=1;have hv:(ZD f).l= []:=by simp[ZD,a]
 simp[YF,j,i,a,Zlh,p,hv];rw[if_neg a]at h;simp only[Je]at h;by_cases n:f.kind=4;have hv:(ZD f).l= []:=by simp[ZD,n]
 simp[YF,j,i,a,n,FO,FS0,p,hv];have hv:(ZD f).l= [f.df]:=by simp[ZD,a,n]
 have hd:Xo f f.df=true:=by
  have h:=h.2;by_cases o:f.kind=3;rw[if_pos o]at h;simp only[ZbR,Je]at h;simp only[Xo,j,a,o,if_true];simpa using h.2.2;rw[if_neg o]at h;simp only[Zha,Je,Kd,decide_eq_true_eq]at h;simp only[Xo,j,a,o,if_false,decide_false,Bool.not_false,Kc,Ku,decide_eq_true_eq];rcases h.2 with h|h;exact h.2;exact absurd h.1 n
 simp[YF,j,i,a,n,FO,FS0,p,hv,hd]
def ZhX {l:List Fd} (h:ZP l=Ht) (sc:Int):Zo (Zk l sc) (ZZ l sc)=true:=by
 have f:ZZ l sc=(Zk l sc).map ZD:=rfl;rw[f];simp only[Zo,Je,decide_eq_true_eq,Jv,JB,Jk,true_and];intro i a;have:((Zk l sc).map ZD).getD i Jd=ZD ((Zk l sc).getD i Jd):=by
  rw[getD_lt (by simpa using a),getD_lt a,JJ]
 rw[this];exact ZpF ((ZL.1 h).2.2 _ (JF.1 (Zh (d:=Jd) a)).1)
def Zn2 {rs:List Rw} {r:Rw} (h:FL rs) (w:X6 rs r.item=Hf):FL (Zyk rs r):=by
 have x:=G7 rs r.item;have u:=Jj.1 h;have p:∀a∈rs.take (YK rs r.item),Zl a.item r.item=true:=λa s=>by
  obtain⟨i,t,rfl⟩:=JM s;rw[JN]at t;have:=Zqr (rs:=rs) (it:=r.item) (k:=i) (by omega);rwa[getD_lt (by omega),<-KX (j:=YK rs r.item)]at this
 have o:∀b∈rs.drop (YK rs r.item),Zl r.item b.item=true:=λb n=>by
  obtain⟨i,t,rfl⟩:=JM n;rw[J2]at t;have f:YK rs r.item<rs.length:=by omega
  have g:=Zye f;have v:=Zyf w f rfl;have q:Zl r.item (rs.getD (YK rs r.item) Jd).item=true:=by
   rcases Sw r.item (rs.getD (YK rs r.item) Jd).item with h|h|h;exact h;exact absurd h.symm v;rw[g]at h;cases h
  rw[List.getElem_drop];by_cases e:i=0;subst e;rw[getD_lt f]at q;simpa using q;have:=u (YK rs r.item) (YK rs r.item+i) f (by omega) (by omega);rw[getD_lt f]at q;exact Ud q this
 unfold FL Zyk;refine JQ.2 ⟨JO.sublist (Ks _ _) h,J4.2 ⟨o,JO.sublist (KY _ _) h⟩,λa s b n=> ?_⟩;rcases Ja.1 n with rfl|n;exact p a s;exact Ud (p a s) (o b n)
open Go.RowKit
def Zgw (l:List Str):Kn (l.map .str)=true:=Zaf λc a=>by obtain⟨x,_,rfl⟩:=Jm.1 a;rfl
def W9 (l:List En):Kn (l.map ent)=true:=Zaf λc a=>by
 obtain⟨x,_,rfl⟩:=Jm.1 a;simp[ent,Ko,Kn,Zgw]
def Zgv (l:List Rw):Kn (l.map row)=true:=Zaf λc a=>by
 obtain⟨x,_,rfl⟩:=Jm.1 a;simp[row,Ko,Kn,W9]
def ZqU (d:Dc):List PV:= [.sl .no (d.head.map ent),.sl .no (d.rows.map row)]
def okR (r:Rw):Prop:=r.l.length<=100000/\ ∀e∈r.l,e.l.length<=1000000
def ZjH {l:List En} {i:Nat} (h:∀e∈l,e.l.length<=1000000):(l.getD i Jd).l.length<=1000000:=by
 by_cases a:i<l.length;exact h _ (Zh a);rw[Vi (by omega)];exact Jh _
def FE {it:Str} {a b:List En} (f:∀e∈a,e.l.length<=1000000) (j:∀e∈b,e.l.length<=1000000):∀c∈Yo it a b,FineB c:=λc n=>by
 obtain⟨i,_,rfl⟩:=Jm.1 n;exact⟨ZjH f,ZjH j,Jh _,λe h=>by cases h⟩
theorem VA:∀(n:Nat) (P Q:List Rw),P.length+Q.length<=n->(∀r∈P,okR r)->(∀r∈Q,okR r)-> ∀c∈YG P Q,FineB c
 |_,[],[],_,_,_=>by rw[YG];simp
 |0,p::ps,Q,h,_,_=>by simp at h
 |0,[],q::qs,h,_,_=>by simp at h
 |n+1,p::ps,[],h,hP,hQ=>λc a=>by
  rw[YG,Ja]at a;rcases a with rfl|a;exact⟨Jh _,Jh _,(hP p (by simp)).1,(hP p (by simp)).2⟩;exact VA n ps [] (by simp at h ⊢;omega) (λr f=>hP r (by simp[f])) hQ c a
 |n+1,[],q::qs,h,hP,hQ=>λc a=>by
  rw[YG,Ja]at a;rcases a with rfl|a;exact⟨Jh _,Jh _,(hQ q (by simp)).1,(hQ q (by simp)).2⟩;exact VA n [] qs (by simp at h ⊢;omega) hP (λr f=>hQ r (by simp[f])) c a
 |n+1,p::ps,q::qs,h,hP,hQ=>λc a=>by
  have i:∀r∈ps,okR r:=λr f=>hP r (by simp[f])
  have j:∀r∈qs,okR r:=λr f=>hQ r (by simp[f])
  rw[YG]at a;split at a;rcases Ja.1 a with rfl|a;exact⟨Jh _,Jh _,(hP p (by simp)).1,(hP p (by simp)).2⟩;exact VA n ps (q::qs) (by simp at h ⊢;omega) i hQ c a;split at a;rcases Ja.1 a with rfl|a;exact⟨Jh _,Jh _,(hQ q (by simp)).1,(hQ q (by simp)).2⟩;exact VA n (p::ps) qs (by simp at h ⊢;omega) hP j c a;rcases Jt.1 a with a|a;exact FE (hP p (by simp)).2 (hQ q (by simp)).2 c a;exact VA n ps qs (by simp at h ⊢;omega) i j c a
theorem UG:∀(n:Nat) (P Q:List Rw),P.length+Q.length<=n->(∀r∈P,r.l.length<=40)->(YG P Q).length<=41*n
 |n,[],[],_,_=>by rw[YG];simp
 |0,p::ps,Q,h,_=>by simp at h
 |0,[],q::qs,h,_=>by simp at h
 |n+1,p::ps,[],h,hP=>by
  rw[YG,Jf];have:=UG n ps [] (by simp at h ⊢;omega) (λr f=>hP r (by simp[f]));omega
 |n+1,[],q::qs,h,hP=>by
  rw[YG,Jf];have:=UG n [] qs (by simp at h ⊢;omega) hP;omega
 |n+1,p::ps,q::qs,h,hP=>by
  have a:∀r∈ps,r.l.length<=40:=λr f=>hP r (by simp[f])
  rw[YG];split;rw[Jf];have:=UG n ps (q::qs) (by simp at h ⊢;omega) a;omega;split;rw[Jf];have:=UG n (p::ps) qs (by simp at h ⊢;omega) hP;omega;rw[Jg];have i:=UG n ps qs (by simp at h ⊢;omega) a;have j:=Tk q.item p.l q.l;have o:=hP p (by simp);omega
structure SmallD (d:Dc):Prop where
 h:d.head.length<=40
 r:d.rows.length<=410
 e:∀e∈d.head,e.l.length<=410
 s:∀r∈d.rows,r.l.length<=40/\ ∀e∈r.l,e.l.length<=410
def SmallD.ok {d:Dc} (h:SmallD d):OkDd d:=⟨by have:=h.h;omega,by have:=h.r;omega,λe a=>by have:=h.e e a;omega,λr f=>⟨by have:=(h.s r f).1;omega,λe a=>by have:=(h.s r f).2 e a;omega⟩⟩
def Zh4 {l:List Fd} {a b:Dc} (h:SmallD a) (i:SmallD b):(W5 l a b).1.length<=100000/\ ∀c∈(W5 l a b).1,FineB c:=by
 unfold W5;split;exact⟨Jh _,λc f=>by cases f⟩;have n:=Tk [] a.head b.head;have o:=UG _ a.rows b.rows (Kg _) (λr j=>(h.s r j).1);have p:=h.h;have q:=h.r;have s:=i.r;refine⟨by simp only[Jg];omega,λc f=> ?_⟩;rcases Jt.1 f with f|f;exact FE h.ok.e i.ok.e c f;exact VA _ a.rows b.rows (Kg _) h.ok.s i.ok.s c f
structure DdQ (l:List Fd) (a b:Dc) (s:St):Prop where
 n:s.n=124
 f0:s.fr 0=Zt l
 f4:s.fr 4= .ptr 4 0
 f5:s.fr 5= .ptr 5 0
 f7:s.fr 7= .ptr 7 0
 f8:s.fr 8= .ptr 8 0
 h4:s.m.h 4=Hs (ZqU a)/\s.m.z 4=Hf
 h5:s.m.h 5=Hs (ZqU b)/\s.m.z 5=Hf
 h7:s.m.h 7=Hs (ZqU a)/\s.m.z 7=Hf
 h8:s.m.h 8=Hs (ZqU b)/\s.m.z 8=Hf
structure DdQ2 (cs:List Cg) (φ:Nat->Nat) (s:St):Prop where
 n:s.n=124
 f9:s.fr 9=PV.frl (cs.map ZA3)
 f4:s.fr 4= .ptr 4 0/\s.m.ph 4=Hs (φ 4)
 f5:s.fr 5= .ptr 5 0/\s.m.ph 5=Hs (φ 5)
 f7:s.fr 7= .ptr 7 0/\s.m.ph 7=Hs (φ 7)
 f8:s.fr 8= .ptr 8 0/\s.m.ph 8=Hs (φ 8)
structure DocIn (m:Hp) (b R:Nat) (ns:List Nat) (d:Dc):Prop where
 h:m.h b=Hs [.vsl 3000 d.head.length 5,.vsl R d.rows.length 2]
 z:m.z b=Hf
 vh:m.v 3000=Hs (d.head.map ent)
 vr:m.v R=Hs (ZO ns d.rows)
 vn:∀x∈D0 ns d.rows,m.v x.1=Hs x.2
 l:ns.length=d.rows.length
def DocIn.near {n:Nat} {m m':Hp} {b R:Nat} {ns:List Nat} {d:Dc} (h:DocIn m b R ns d) (a:Near n m m') (f:n<=b):DocIn m' b R ns d:=
 ⟨(a.h b f).1.trans h.h,(a.h b f).2.trans h.z,by rw[a.v];exact h.vh,by rw[a.v];exact h.vr,λx i=>by rw[a.v];exact h.vn x i,h.l⟩
def Fj {ns:List Nat} {rs:List Rw} (f:ns.length=rs.length) {k:Nat} (a:k<rs.length):(ZO ns rs).getD k .any=rwN (ns.getD k 0) (rs.getD k Jd):=by
 unfold ZO;rw[getD_lt (by rw[List.length_zipWith];omega),List.getElem_zipWith,getD_lt (by omega),getD_lt a]
section
variable {m:Hp} {b R:Nat} {ns:List Nat} {d:Dc}
def DocIn.head (h:DocIn m b R ns d):Pub (λ_=>False) m (.vsl 3000 d.head.length 5) (.sl .no (d.head.map ent)):=
 KF (by simp) h.vh (Jk _) (Yt YM _)
def DocIn.rows (h:DocIn m b R ns d):Pub (λ_=>False) m (.vsl R d.rows.length 2) (.sl .no (d.rows.map row)):=by
 refine .vec R d.rows.length 2 (ZO ns d.rows) (d.rows.map row) (by simp) h.vr (UW h.l) (by rw[Jk,UW h.l]) (Yt ZbI _) λi a=> ?_
 rw[UW h.l]at a;rw[Fj h.l a,W6 a];by_cases f:(d.rows.getD i Jd).l.length=0;rw[ZeM f];exact .clean (ZbI _);unfold rwN;rw[if_neg f];exact K9 (.clean rfl) (KF (by simp) (h.vn _ (F9 h.l a f)) (Jk _) (Yt YM _))
theorem DocIn.ptr (h:DocIn m b R ns d):Pub (λ_=>False) m (.ptr b 0) (Zmx d):=by
 have:=Pub.blk (K:=λ_=>False) (m:=m) b 0 [.vsl 3000 d.head.length 5,.vsl R d.rows.length 2] [.sl .no (d.head.map ent),.sl .no (d.rows.map row)] (by simp) h.h h.z rfl (by simp[Jy]) λj a=>by
  match j,a with
  |0,_=>exact h.head
  |1,_=>exact h.rows
 exact this
def DocIn.agg (h:DocIn m b R ns d):Pub (λ_=>False) m (.agg [.vsl 3000 d.head.length 5,.vsl R d.rows.length 2]) (doc d):=K9 h.head h.rows
def Zox (d:Dc):(Zmx d).nofr=true:=by simp[Zmx,Ko,Kn,W9,Zgv]
def ZrA (d:Dc):(doc d).nofr=true:=by simp[doc,ZX,Ko,Kn,W9,Zgv]
theorem DocIn.row_s (h:DocIn m b R ns d) (it:Str) (f:d.rows.length<=maxLen):CallS prog 75 [.ptr b 0,.str it] m (.tup [.int .i64 ((YK d.rows it:Nat):Int),.bool (X6 d.rows it)]) m:=
 CallS.lend (ZkJ d it f) rfl (λi a=>by
  match i,a with
  |0,_=>exact h.ptr
  |1,_=>exact .clean rfl) (by simp[Zmx,Jy]) (λp hp=>by
  simp only[Ja,JA,or_false]at hp;rcases hp with rfl|rfl;exact Zox d;rfl) rfl
theorem DocIn.find_s (h:DocIn m b R ns d) (it:Str) (r:Rf) (a:Zfd d) (j:Zfq d):CallS prog 42 [.agg [.vsl 3000 d.head.length 5,.vsl R d.rows.length 2],.str it,ref r] m (ZtE (Xh d it r)) m:=
 CallS.lend (Zto d it r a j) rfl (λi f=>by
  match i,f with
  |0,_=>exact h.agg
  |1,_=>exact .clean rfl
  |2,_=>exact .clean rfl) (by simp[doc,ZX,ref,Jy,JW]) (λp hp=>by
  simp only[Ja,JA,or_false]at hp;rcases hp with rfl|rfl|rfl;exact ZrA d;rfl;rfl) (ZpS _)
end
abbrev Ze3 (ns:List Nat) (d:Dc):MemL:=⟨[(1000,[.vsl 3000 d.head.length 5,.vsl 3001 d.rows.length 2])],Up 3001 ns d,Uq 3001 ns d⟩
def TK {ns:List Nat} {d:Dc} (_hl:ns.length=d.rows.length) (s:ns.Nodup) (q:∀x∈ns,10000<=x):(Ze3 ns d).Ok:=by
 have nm:(Up 3001 ns d).map (·.1)=3001::3000::TY ns d.rows:=by simp only[Up,Jr,Xf]
 have p:(Uq 3001 ns d).map (·.1)=3001::3000::TY ns d.rows:=by simp only[Uq,Jr,VB]
 have o:∀x∈TY ns d.rows,10000<=x:=λx f=>q x (WW f)
 have nd:(3001::3000::TY ns d.rows).Nodup:=by
  refine JT.2 ⟨λh=> ?_,JT.2 ⟨λh=> ?_,VC _ s⟩⟩;rcases Ja.1 h with h|h;omega;have:=o _ h;omega;have:=o _ h;omega
 have has:∀i∈3001::3000::TY ns d.rows,(Ze3 ns d).has (.r i):=λi a=>by
  rw[<-nm]at a;obtain⟨y,n,rfl⟩:=Jm.1 a;exact⟨y,n,rfl⟩
 refine⟨by simp,by show((Up 3001 ns d).map (·.1)).Nodup;rw[nm];exact nd,by show((Uq 3001 ns d).map (·.1)).Nodup;rw[p];exact nd,λx f=> ?_,λx f c j i a=> ?_,λx f c j i a=> ?_⟩;have:x.1∈(Uq 3001 ns d).map (·.1):=Jm.2 ⟨x,f,rfl⟩;rw[p,<-nm]at this;obtain⟨y,n,e⟩:=Jm.1 this;exact⟨y,n,e⟩;rw[Jc.1 f]at j;simp only[Ja,JA,or_false]at j;rcases j with rfl|rfl;simp only[Jy,Jc]at a;subst a;exact has _ (by simp);simp only[Jy,Jc]at a;subst a;exact has _ (by simp);rcases Ja.1 f with rfl|f;obtain⟨y,n,rfl⟩:=Wt j a;exact has y (by simp[n]);have:∃l:List En,x.2=l.map ent:=by
  rcases Ja.1 f with rfl|f;exact⟨_,rfl⟩;obtain⟨_,r,_,e⟩:=Yg f;exact⟨_,e⟩
 obtain⟨l,e⟩:=this;rw[e]at j;obtain⟨z,_,rfl⟩:=Jm.1 j;rw[YM]at a;cases a
def Row.compat_refl (r:Row):Row.compat r r:=by cases r<;>simp[Row.compat]
def G0 {m:Hp} {ns:List Nat} {d:Dc} (i:ns.length=d.rows.length) (j:ns.Nodup) (f:∀x∈ns,10000<=x) (h:m.h 1000=Hs [.vsl 3000 d.head.length 5,.vsl 3001 d.rows.length 2]) (n:m.z 1000=Hf)
  (hv:m.v=upd (upd (Yq ((D0 ns d.rows).map λx=>(x.1,Hs x.2)) λ_=>Hn) 3000 (Hs (d.head.map ent))) 3001 (Hs (ZO ns d.rows))):DocIn m 1000 3001 ns d:=
 ⟨h,n,by rw[hv];rfl,by rw[hv];rfl,λx a=>by
  have o:=f _ (Yg a).1;rw[hv,Zb _ _ (by omega),Zb _ _ (by omega)];exact Vh j a,i⟩
def ZtC {ns:List Nat} {rs:List Rw} {pq:Nat->Option (Nat×Nat×Nat)} (a:ns.Nodup) {x:Nat×Row} (f:x∈SW ns rs):Yq ((SW ns rs).map λx=>(x.1,pq x.1)) (λ_=>Hn) x.1=pq x.1:=
 Vn (k:=λi=>i) (F:=λx=>pq x.1) f (by rw[Xf];exact VC rs a) (λ_ _ _ _ h=>h)
section
variable {ns:List Nat} {d:Dc}
def Zjr (j:ns.length=d.rows.length) (h:ns.Nodup) (f:∀x∈ns,10000<=x):∀x∈Up 3001 ns d,upd (upd (Yq ((SW ns d.rows).map λx=>(x.1,Hs x.2)) λ_=>Hn) 3000 (Hs (.vec d.head.length 5 64))) 3001 (Hs (.vec d.rows.length 2 90)) x.1=Hs x.2:=λx a=>by
 rcases Ja.1 a with rfl|a;rfl;rcases Ja.1 a with rfl|a;rfl;have i:=f _ (Y9 a).1;rw[Zb _ _ (by omega),Zb _ _ (by omega)];exact Ur h a
def G1 {pq:Nat->Option (Nat×Nat×Nat)} (j:ns.length=d.rows.length) (h:ns.Nodup) (f:∀x∈ns,10000<=x):∀x∈Up 3001 ns d,upd (upd (Yq ((SW ns d.rows).map λx=>(x.1,pq x.1)) λ_=>Hn) 3000 (pq 3000)) 3001 (pq 3001) x.1=pq x.1:=λx a=>by
 rcases Ja.1 a with rfl|a;rfl;rcases Ja.1 a with rfl|a;rfl;have i:=f _ (Y9 a).1;rw[Zb _ _ (by omega),Zb _ _ (by omega)];exact ZtC h a
end
theorem Zq2 {m:Hp} {x:Nat} {a b:List En} (hv:m.v x=Hs (a.map ent)) (j:a.length<=maxLen) (n:b.length<=maxLen) (f:∀e∈a,e.l.length<=maxLen) (h:∀e∈b,e.l.length<=maxLen):
  CallS prog 82 [.vsl x a.length 5,.sl .no (b.map ent),.fn 72 []] m (.bool (decide (a=b))) m:=
 CallS.lend (Zas a b j n f h) rfl (λi o=>by
  match i,o with
  |0,_=>exact KF (by simp) hv (Jk _) (Yt YM _)
  |1,_=>exact .clean rfl
  |2,_=>exact .clean rfl) (by simp[ZX,Jy,JW]) (λp hp=>by
  simp only[Ja,JA,or_false]at hp;rcases hp with rfl|rfl|rfl;simp[ZX,Ko,W9];simp[ZX,Ko,W9];rfl) rfl
theorem Zvw {m:Hp} (b:List En) (f:b.length<=maxLen) (a:∀e∈b,e.l.length<=maxLen):
  CallS prog 82 [.sl .no [],.sl .no (b.map ent),.fn 72 []] m (.bool (decide (([]:List En)=b))) m:=
 CallS.lend (Zas [] b (Jh _) f (λe h=>by cases h) a) rfl (λi j=>by
  match i,j with
  |0,_=>exact .clean rfl
  |1,_=>exact .clean rfl
  |2,_=>exact .clean rfl) (by simp[ZX,Jy,JW]) (λp hp=>by
  simp only[Ja,JA,or_false]at hp;rcases hp with rfl|rfl|rfl;rfl;simp[ZX,Ko,W9];rfl) rfl
def Ztx (x:Nat) (r:Rw):PV:=if r.l.length=0 then .sl .no []else .vsl x r.l.length 5
def Zq1 {m:Hp} {x:Nat} {r:Rw} {b:List En} (hv:r.l.length≠0->m.v x=Hs (r.l.map ent)) (j:r.l.length<=maxLen) (i:b.length<=maxLen) (f:∀e∈r.l,e.l.length<=maxLen) (a:∀e∈b,e.l.length<=maxLen):
  CallS prog 82 [Ztx x r,.sl .no (b.map ent),.fn 72 []] m (.bool (decide (r.l=b))) m:=by
 unfold Ztx;by_cases h:r.l.length=0;rw[if_pos h,Jo h];exact Zvw b i a;rw[if_neg h];exact Zq2 (hv h) j i f a
abbrev Zjs (n':Nat) (es:List PV) (hd:List En) (ns:List Nat) (rs:List Rw):MemL:=⟨[(1000,[.vsl 3000 hd.length 5,.vsl 3002 n' 2])],(3002,.vec n' 2 90)::(3001,.dead)::(3000,.vec hd.length 5 64)::SW ns rs,(3002,es)::(3000,hd.map ent)::D0 ns rs⟩
def TL {n':Nat} {es:List PV} {hd:List En} {ns:List Nat} {rs:List Rw} (B:ns.length=rs.length) (q:ns.Nodup) (v:∀x∈ns,10000<=x) (A:∀p∈es,∀j∈p.ids,∃x∈TY ns rs,j= .r x):(Zjs n' es hd ns rs).Ok:=by
 have nm:(Zjs n' es hd ns rs).R.map (·.1)=3002::3001::3000::TY ns rs:=by simp only[Jr,Xf]
 have u:(Zjs n' es hd ns rs).V.map (·.1)=3002::3000::TY ns rs:=by simp only[Jr,VB]
 have lo:∀i,i<10000->i∉TY ns rs:=λi a h=>by have:=v _ (WW h);omega
 have q:=VC rs q;have nd:(3002::3001::3000::TY ns rs).Nodup:=by
  refine JT.2 ⟨λh=> ?_,JT.2 ⟨λh=> ?_,JT.2 ⟨lo _ (by omega),q⟩⟩⟩;rcases Ja.1 h with h|h;omega;rcases Ja.1 h with h|h;omega;exact lo _ (by omega) h;rcases Ja.1 h with h|h;omega;exact lo _ (by omega) h
 have s:(3002::3000::TY ns rs).Nodup:=by
  refine JT.2 ⟨λh=> ?_,JT.2 ⟨lo _ (by omega),q⟩⟩;rcases Ja.1 h with h|h;omega;exact lo _ (by omega) h
 have has:∀i∈3002::3001::3000::TY ns rs,(Zjs n' es hd ns rs).has (.r i):=λi a=>by
  rw[<-nm]at a;obtain⟨y,o,rfl⟩:=Jm.1 a;exact⟨y,o,rfl⟩
 refine⟨by simp,by rw[nm];exact nd,by rw[u];exact s,λx f=> ?_,λx f c n i a=> ?_,λx f c n i a=> ?_⟩;have t:x.1∈(Zjs n' es hd ns rs).V.map (·.1):=Jm.2 ⟨x,f,rfl⟩;rw[u]at t;have w:x.1∈(Zjs n' es hd ns rs).R.map (·.1):=by
  rw[nm];rcases Ja.1 t with h|h;rw[h];simp;exact Jb _ (Jb _ h)
 obtain⟨y,o,e⟩:=Jm.1 w;exact⟨y,o,e⟩;rw[Jc.1 f]at n;simp only[Ja,JA,or_false]at n;rcases n with rfl|rfl;simp only[Jy,Jc]at a;subst a;exact has _ (by simp);simp only[Jy,Jc]at a;subst a;exact has _ (by simp);rcases Ja.1 f with rfl|f;obtain⟨y,o,rfl⟩:=A c n i a;exact has y (by simp[o]);have:∃l:List En,x.2=l.map ent:=by
  rcases Ja.1 f with rfl|f;exact⟨_,rfl⟩;obtain⟨_,r,_,e⟩:=Yg f;exact⟨_,e⟩
 obtain⟨l,e⟩:=this;rw[e]at n;obtain⟨z,_,rfl⟩:=Jm.1 n;rw[YM]at a;cases a
def Zvl (ns:List Nat) (d:Dc) (c:Cg) (n':Nat) (M:d.rows.length=n'+1) (s:ns.length=d.rows.length) (t:ns.Nodup) (f:∀x∈ns,10000<=x) (T:Zfd d) (S:FineC c) (hk:X6 d.rows c.item=Ht) (i:Nat) (B:YK d.rows c.item=i) (Z:i<=n') (Y:(d.rows.getD i Jd).l=c.l):
  Eff prog 40 [.ptr 1000 0,chg c] (Ze3 ns d) (.int .i64 0) (Zjs n' ((ZO ns d.rows).take i++(ZO ns d.rows).drop (i+1)) d.head ns d.rows):=by
 have U:d.rows.length<=maxLen:=T.2.1;have r:i<d.rows.length:=by omega
 have E:=T.2.2.2 _ (Zh (d:=Jd) r);have J:(ZO ns d.rows).getD i .any= .agg [.str (d.rows.getD i Jd).item,Ztx (ns.getD i 0) (d.rows.getD i Jd)]:=Fj s r;have L:=UW s;have G:=F9 (ns:=ns) s r;have K:decide ((d.rows.getD i Jd).l=c.l)=true:=decide_eq_true Y;have F:∀ {m:Hp},DocIn m 1000 3001 ns d->CallS prog 75 [.ptr 1000 0,.str c.item] m (.tup [.int .i64 (i:Int),.bool Ht]) m:=λh=>by
  have:=h.row_s c.item U;rwa[hk,B]at this
 have i0:=JD i
 have iz:(i:Int)<(d.rows.length:Int):=by omega
 have w1:IntKind.i64.wrap ((i:Int)+1)=((i+1:Nat):Int):=Wa r U;have o:∀p∈(ZO ns d.rows).take i++(ZO ns d.rows).drop (i+1),∀j∈p.ids,∃x∈TY ns d.rows,j= .r x:=λp hp j u=>by
  have:p∈ZO ns d.rows:=by
   rcases Jt.1 hp with hp|hp;exact JR hp;exact JS hp
  exact Wt this u
 have w:∀p∈ZO ns d.rows,∀j∈p.ids,j≠ .r 3001:=λp hp j u e=>by
  obtain⟨x,a,V⟩:=Wt hp u;rw[V]at e;simp only[Ref.r.injEq]at e;have:=f _ (WW a);omega
 have A:∀ {m:Hp},m.q 3001=Hs (.vec d.rows.length 2 90)->m.v 3001=Hs (ZO ns d.rows)->m.q 3002=Hn->CallS prog 83 [.vsl 3001 d.rows.length 2,.int .i64 i,.int .i64 ((i+1:Nat):Int)] m (.vsl 3002 n' 2) { m with q:=upd (upd m.q 3001 (Hs .dead)) 3002 (Hs (.vec n' 2 90)),v:=upd (upd m.v 3001 Hn) 3002 (Hs ((ZO ns d.rows).take i++(ZO ns d.rows).drop (i+1))) }:=λQ W X=>by
  rw[M]at Q ⊢;exact Zp6 Q W X Z w
 have P:=Gp (ns:=ns) (rs:=d.rows) (i:=3002) λh=>by have:=f _ h;omega
 refine Eff.of_v [] func40 (by decide) rfl ntmps40 results40 (by simp) (TK s t f) (TL s t f o) (by simp[chg,Jy,JW,MemL.has]) (by simp[Jy]) (λx a=>⟨(1000,[.vsl 3000 d.head.length 5,.vsl 3002 n' 2]),by simp,by rw[Jc.1 a]⟩) (λx a=> ?_) λph pq=> ?_
 rcases Ja.1 a with rfl|a;exact⟨(3001,.dead),by simp,rfl,trivial⟩;rcases Ja.1 a with rfl|a;exact⟨_,Jb _ (Jb _ (Ji ..)),rfl,Row.compat_refl _⟩;exact⟨x,Jb _ (Jb _ (Jb _ a)),rfl,Row.compat_refl _⟩;simp only[go_sem,chg,Up,Uq];refine Ux (F (G0 s t f rfl rfl rfl)) ?_;simp only[go_sem];refine GK [0,1,2,3,4,5,6,7,8,9] 10 11 [] 11 (by kernel_rfl) (by kernel_rfl) λl1 C=> ?_
 simp only[JE,Jp,Jq]at C;subst C;simp only[go_sem,i0,iz,L,J];refine DE rfl rfl rfl rfl (show(26:Nat)<39 by omega) rfl (λm hm=>Zq1 (λz=> ?_) E.1 S.l E.2 S.e) rfl ?_;rw[hm.v];show upd (upd _ 3000 _) 3001 _ _=_;have I:=f _ (Yg (G z)).1;rw[Zb _ _ (by simp only at I;omega),Zb _ _ (by simp only at I;omega)];exact Vh t (G z);refine GJ λl2 n=> ?_
 simp only[JE]at n;subst n;simp only[go_sem];refine ZbZ _ 11 (by kernel_rfl) λl2 n=> ?_
 simp only[Kw]at n;subst n;simp only[go_sem,K,w1];have D:upd (upd (Yq ((SW ns d.rows).map λx=>(x.1,Hs x.2)) λ_=>Hn) 3000 (Hs (.vec d.head.length 5 64))) 3001 (Hs (.vec d.rows.length 2 90)) 3002=none:=by
  rw[Zb _ _ (by decide),Zb _ _ (by decide)];exact P
 refine Ux (A rfl rfl D) ?_;simp only[go_sem];refine⟨⟨_,by simp only[go_sem,Uc],.clean rfl⟩,λx a=> ?_,λx a=> ?_,λx a=> ?_,λx a=>by rw[Jc.1 a];rfl,G1 s t f⟩;rw[Jc.1 a];exact⟨_,rfl,rfl,rfl,λj u=> .keep _ λy O=>(TL s t f o).ch _ (Jc.2 rfl) _ (Zc u) y O⟩;show upd (upd (upd (upd _ 3000 _) 3001 _) 3001 _) 3002 _ x.1=Hs x.2;rcases Ja.1 a with rfl|a;rfl;rcases Ja.1 a with rfl|a;rfl;rcases Ja.1 a with rfl|a;rfl;have I:=f _ (Y9 a).1;rw[Zb _ _ (by omega),Zb _ _ (by omega),Zb _ _ (by omega),Zb _ _ (by omega)];exact Ur t a;have hv:upd (upd (upd (upd (Yq ((D0 ns d.rows).map λx=>(x.1,Hs x.2)) λ_=>Hn) 3000 (Hs (d.head.map ent))) 3001 (Hs (ZO ns d.rows))) 3001 Hn) 3002 (Hs ((ZO ns d.rows).take i++(ZO ns d.rows).drop (i+1))) x.1=Hs x.2:=by
  rcases Ja.1 a with rfl|a;rfl;rcases Ja.1 a with rfl|a;rfl;have I:=f _ (Yg a).1;rw[Zb _ _ (by omega),Zb _ _ (by omega),Zb _ _ (by omega),Zb _ _ (by omega)];exact Vh t a
 exact⟨_,hv,rfl,λj u=> .keep _ λy O=>(TL s t f o).cv x a _ (Zc u) y O⟩
def Znd (l:List Fd):Dc:=⟨ZZ l 0,[]⟩
def Zne (l:List Fd) (a:l.length<=40):(ZZ l 0).length<=40/\ ∀x∈ZZ l 0,x.l.length<=1000000:=⟨by unfold ZZ;rw[Jk];exact JI (Jz _ _) a,λx h=>by
 obtain⟨f,_,rfl⟩:=Jm.1 h;simp only[ZD];split<;>simp⟩
end Go.Proofs.YtcmpkokndngplaaGreat
namespace Go.PL
open Go.RowKit
def CallS.pure {P:Program} {g:FuncId} {m:Hp} {args:List PV} {r:PV} (t:Pure P g args r) (u:∀p∈args,p.ids= []):CallS P g args m r m:=by
 obtain⟨f,hd,n⟩:=t;refine⟨f,λB S M s a w vs y o h j _=> ?_⟩;subst y;refine(n w S vs o.stable.s o.young h λi q=>(j i q).alone (u _ (Zc q))).mono λz w' ⟨v,S',e1,h2,h3,h4,h5,h6⟩=> ?_
 exact⟨v,S',M,e1,o.grow h4 h5 h3 h6.block h6.size,.clean h2,λi q=>absurd q (h2.clean_ids i),⟨h4,λb x=>h5 b (o.hB b x),(BelowF.of h6).mono o.hB⟩⟩
end Go.PL
namespace Go.Proofs.YtcmpkokndngplaaGreat
open Go.RowKit
def CallS.of_eff {P:Program} {g:FuncId} {args args0:List PV} {o m1:MemL} {r:PV} {f j:Nat->Nat} {m:Hp} (h:Eff P g args0 o r m1) (q:FitsM o m1 f j m) (p:args=args0.map (JU f j)):CallS P g args m (r.ren f j) (Zbg m1 f j m):=by
 subst p;refine⟨h.cal,λB S M s a w vs u x t v _=> ?_⟩;subst u;refine h.call x q (by simpa using t) λi n=> ?_
 have:=v i (by simpa using n);rwa[show(args0.map (JU f j)).getD i .any=(args0.getD i .any).ren f j by
  rw[getD_lt (by simpa using n),getD_lt n,JJ]]at this
def Vr {f g:Nat->Nat} (l:List En):(l.map ent).map (JU f g)=l.map ent:=Gw (Yt YM l)
def Zys {m:Hp} {hd:List En} (j:hd.length<=100000) (n:∀e∈hd,e.l.length<=1000000) (u:∀i,m.q i=Hn):CallS prog 37 [doc ⟨hd,[]⟩] m (.agg [.vsl 3000 hd.length 5,.vsl 3001 0 2]) { m with q:=upd (upd m.q 3000 (Hs (.vec hd.length 5 64))) 3001 (Hs (.vec 0 2 90)),v:=upd (upd m.v 3000 (Hs (hd.map ent))) 3001 (Hs []) }:=by
 have o:=Zjh ⟨hd,[]⟩ j (Jh _) n (λr w=>by cases w);have p:(ZlJ (nsU 0) ⟨hd,[]⟩).R= [(26,.vec 0 2 90),(3000,.vec hd.length 5 64)]:=rfl;have s:FitsM noV (ZlJ (nsU 0) ⟨hd,[]⟩) (λi=>if i=26 then 3001 else i) id m:=by
  refine⟨by simp,by simp,by simp,by simp,λx f=> .inr (u _),by simp,λx f y h e=> ?_⟩;rw[p]at f h;simp only[Ja,JA,or_false]at f h;rcases f with rfl|rfl<;>rcases h with rfl|rfl<;>first|rfl|(simp at e)
 have a:=CallS.of_eff o s (args:= [doc ⟨hd,[]⟩]) (by simp only[Jr,JP];rw[Wp _ (by simp[doc,ZX,Jy,JW])]);have hv:(hd.map ent).map (JU (λi=>if i=26 then 3001 else i) id)=hd.map ent:=Vr hd;have t:Zbg (ZlJ (nsU 0) ⟨hd,[]⟩) (λi=>if i=26 then 3001 else i) id m= { m with q:=upd (upd m.q 3000 (Hs (.vec hd.length 5 64))) 3001 (Hs (.vec 0 2 90)),v:=upd (upd m.v 3000 (Hs ((hd.map ent).map (JU (λi=>if i=26 then 3001 else i) id)))) 3001 (Hs []) }:=rfl;have a:CallS prog 37 [doc ⟨hd,[]⟩] m (.agg [.vsl 3000 hd.length 5,.vsl 3001 0 2]) (Zbg (ZlJ (nsU 0) ⟨hd,[]⟩) (λi=>if i=26 then 3001 else i) id m):=a;rw[t,hv]at a;exact a
def ZkG (l:List Fd) (it:Str) (G:l.length<=40) (t:∀f∈l,f.cases'.length<=1000000) (u:Zz l (Znd l)=Ht) (I:Z0 it=Ht):
  Pp 79 [Zt l,doc (Znd l),.str it] (.tup [doc ⟨ZZ l 0,[⟨it,ZZ l 1⟩]⟩,.int .i64 0]):=by
 obtain⟨q,z⟩:=Zne l G;have B:Zfd (Znd l):=⟨by show(ZZ l 0).length<=_;rw[Zd];omega,Jh _,λe F=>by have:=z e F;rw[Zd];omega,λr u=>by cases u⟩;have w:Pp 36 [Zt l,doc ⟨ZZ l 0,[]⟩] (.bool (Zz l (Znd l))):=U4 l (Znd l) (by rw[Zd];omega) t B;rw[u]at w;show Pp 79 [Zt l,doc ⟨ZZ l 0,[]⟩,.str it] _;clear B;have v:=Y0 it;rw[I]at v;have y:=GO [] 116 [.str it] (T1 it) (Jh _) (λr _=>ZkH r it);have E:=ZaJ l 1 (by omega);have J:idx (T1 it) ([]:List Rw)= -1:=rfl;rw[J]at y;have s:∀l:List En,∀p∈l.map ent,p.ids= []:=λl=>Yt YM l
 have o:∀ {m:Hp},(∀i,m.q i=Hn)->CallS prog 37 [.agg [.sl .no ((ZZ l 0).map ent),.sl .no []]] m (.agg [.vsl 3000 (ZZ l 0).length 5,.vsl 3001 0 2]) _:=λh=>Zys (hd:=ZZ l 0) (JI q (by omega)) z h
 generalize ZZ l 0=A at *;generalize ZZ l 1=C at *;have n:∀m,CallS prog 35 [.sl .no (l.map fld),.int .i64 1] m (.sl .no (C.map ent)) m:=λm=>CallS.pure E (by simp[Zt,Jy])
 refine PL.Pure.of_p [] func79 (by decide) rfl ntmps79 results79 (by simp) (Znt _ _) ?_;simp only[go_sem,Zt,doc];refine vc2 w ?_;simp only[go_sem];refine vc1 v ?_;simp only[go_sem,Zt,doc];refine vc2 y ?_;simp only[go_sem];refine vDq ?_;simp only[go_sem];refine Ux (o λi=>rfl) ?_;simp only[go_sem];refine GK [0,1,2,3,4] 5 8 [] 8 (by kernel_rfl) (by kernel_rfl) λL j=> ?_
 simp only[JE,Jp,Jq]at j;subst j;simp only[go_sem];refine DE rfl rfl rfl rfl (show(54:Nat)<60 by omega) rfl (λm K=>n m) (VS _) ?_;refine Zap rfl rfl rfl λD a=> ?_
 subst a;simp only[go_sem,ZX];refine ZeX (ei:=⟨90,2,40⟩) rfl rfl rfl rfl (show(56:Nat)<60 by omega) (by kernel_rfl) rfl rfl (by decide) (by simp only[go_sem,T5];simp) ?_;refine GJ λD a=> ?_
 simp only[JE]at a;subst a;simp only[go_sem];refine ZbZ _ 8 (by kernel_rfl) λD a=> ?_
 simp only[Kw]at a;subst a;simp only[go_sem];refine Ux (ZdY (d:=3001) (k:=56) (d2:=3002) (es:= []) (x:= .agg [.str it,.sl .no (C.map ent)]) rfl rfl rfl rfl rfl (by decide) (Jh 0) (Jh _) (by simp[Jy,JW])) ?_;simp only[go_sem];exact⟨_,rfl,Pub.tup2 (K9 (KF (by simp) rfl (Jk _) (s _)) (KF (by simp) rfl rfl (λp hp=>by rw[Jc.1 hp];exact ZbI ⟨it,C⟩))) (.clean rfl)⟩
def ZbH {x:Nat} {r:Rw} {i:Ref} (h:i∈(rwN x r).dids):r.l.length≠0/\i= .r x:=by
 unfold rwN at h;by_cases a:r.l.length=0;rw[if_pos a]at h;simp[Kr,J7]at h;rw[if_neg a]at h;simp[Kr,J7]at h;exact⟨a,h⟩
def Zdz {ns:List Nat} {rs:List Rw} {i:Ref} (h:i∈J7 (ZO ns rs)):∃x∈TY ns rs,i= .r x:=by
 obtain⟨p,hp,f⟩:=KA.1 h;obtain⟨x,r,j,rfl⟩:=Zgk hp;obtain⟨a,rfl⟩:=ZbH f;exact⟨x,Jw.2 ⟨_,j,by rw[if_neg a]⟩,rfl⟩
def ZfQ {ns:List Nat} {rs:List Rw} {x:Nat} (a:ns.Nodup) (h:x∈TY ns rs):Yq ((SW ns rs).map λx=>(x.1,Hs x.2)) (λ_=>Hn) x≠none:=by
 rw[<-Xf]at h;obtain⟨y,f,rfl⟩:=Jm.1 h;rw[Ur a f];simp
def ZfI {A:List PV} {x:PV} {i:Nat} {r:Ref} (h:r∈J7 (A.take i++x::A.drop i)):r∈J7 A\/r∈x.dids:=by
 obtain⟨p,hp,a⟩:=KA.1 h;rcases Jt.1 hp with hp|hp;exact .inl (KA.2 ⟨p,JR hp,a⟩);rcases Ja.1 hp with rfl|hp;exact .inr a;exact .inl (KA.2 ⟨p,JS hp,a⟩)
theorem Zvi (l:List Fd) (ns:List Nat) (d:Dc) (c:Cg) (nm:Nat) (xf:10000<=nm) (D:nm∉ns) (U:ns.length=d.rows.length) (C:ns.Nodup) (u:∀x∈ns,10000<=x) (hL:l.length<=40) (L:∀f∈l,f.cases'.length<=1000000) (hf:Zfd d) (hc:FineC c) (M:c.l.length<=100000) (P:∀e∈c.l,e.l.length<=1000000) (hq:(Zxw l (Znd l) c.item).2=0) (hk:X6 d.rows c.item=Hf) (h4:¬(400:Int)<=(d.rows.length:Int)) (X:Zo (Zk l 1) c.l=Ht) (i:Nat) (K:YK d.rows c.item=i):
  Eff prog 39 [Zt l,.ptr 1000 0,chg c] (Ze3 ns d) (.int .i64 0) (Zjs (d.rows.length+1) ((ZO ns d.rows).take i++rwN nm ⟨c.item,c.l⟩::(ZO ns d.rows).drop i) d.head (ns++ [nm]) (d.rows++ [⟨c.item,c.l⟩])):=by
 obtain⟨xk,J⟩:=Zne l hL;have hB:=Zcz l (by omega);obtain⟨xg,xe⟩:Zz l (Znd l)=Ht/\Z0 c.item=true:=by
  unfold Zxw at hq;split at hq;simp at hq;rename_i c1;simpa using c1
 have hR:=ZkG l c.item hL L xg xe;have hS:=So l 1 (by omega) L;have xh:(Zk l 1).length<=maxLen:=by have:=Jz (λf:Fd=>f.at'.sc==1) l;rw[Zd];unfold Zk;omega
 have hE:=Zhy (Zk l 1) c.l xh hc.l (λf hf=>by have:=L f (JF.1 hf).1;rw[Zd];omega) hc.e;have xd:d.rows.length<=maxLen:=hf.2.1;rw[X]at hE;generalize (⟨ZZ l 0,[⟨c.item,ZZ l 1⟩]⟩:Dc)=R at *;have hi:i<=d.rows.length:=K▸G7 d.rows c.item;have Y:∀ {m:Hp},DocIn m 1000 3001 ns d->CallS prog 75 [.ptr 1000 0,.str c.item] m (.tup [.int .i64 (i:Int),.bool Hf]) m:=λh=>by
  have:=h.row_s c.item xd;rwa[hk,K]at this
 have B:(ns++ [nm]).length=(d.rows++ [(⟨c.item,c.l⟩:Rw)]).length:=by simp[U]
 have E:(ns++ [nm]).Nodup:=Kt.2 ⟨C,by simp,λa ha b J=>by rw[Jc.1 J];exact λe=>D (e▸ha)⟩;have v:∀x∈ns++ [nm],10000<=x:=λx o=>by
  rcases Jt.1 o with h|h;exact u x h;rw[Jc.1 h];exact xf
 obtain⟨s1,s2,s3⟩:=Zel (x:=nm) (r:=⟨c.item,c.l⟩) U;have t:∀p∈(ZO ns d.rows).take i++rwN nm ⟨c.item,c.l⟩::(ZO ns d.rows).drop i,∀j∈p.ids,∃x∈TY (ns++ [nm]) (d.rows++ [⟨c.item,c.l⟩]),j= .r x:=λp hp j z=>by
  have:p∈ZO (ns++ [nm]) (d.rows++ [⟨c.item,c.l⟩]):=by
   rw[s3];rcases Jt.1 hp with hp|hp;exact JK _ (JR hp);rcases Ja.1 hp with rfl|hp;exact JX _ (Jc.2 rfl);exact JK _ (JS hp)
  exact Wt this z
 have G:∀p∈ZO ns d.rows++ [rwN nm ⟨c.item,c.l⟩],∀j∈p.ids,j≠ .r 3001:=λp hp j z e=>by
  rw[<-s3]at hp;obtain⟨x,o,e2⟩:=Wt hp z;rw[e2]at e;simp only[Ref.r.injEq]at e;have:=v _ (WW o);omega
 have xa:=Gp (ns:=ns) (rs:=d.rows) (i:=3002) λh=>by have:=u _ h;omega
 have xc:=Gp (ns:=ns) (rs:=d.rows) (i:=57) λh=>by have:=u _ h;omega
 have xj:=Gp (ns:=ns) (rs:=d.rows) (i:=nm) D;refine Eff.of_v [] func39 (by decide) rfl ntmps39 results39 (by simp) (TK U C u) (TL B E v t) (by simp[chg,Zt,Jy,JW,MemL.has]) (by simp[Jy]) (λx o=>⟨(1000,[.vsl 3000 d.head.length 5,.vsl 3002 (d.rows.length+1) 2]),by simp,by rw[Jc.1 o]⟩) (λx o=> ?_) λph pq=> ?_
 rcases Ja.1 o with rfl|o;exact⟨(3001,.dead),by simp,rfl,trivial⟩;rcases Ja.1 o with rfl|o;exact⟨_,Jb _ (Jb _ (Ji ..)),rfl,Row.compat_refl _⟩;exact⟨x,Jb _ (Jb _ (Jb _ (by rw[s1];exact JK _ o))),rfl,Row.compat_refl _⟩;simp only[go_sem,chg,Zt,Up,Uq];refine vDq ?_;simp only[go_sem];refine vc2 hB ?_;simp only[go_sem,doc];refine YN hR ?_ ?_ ?_;iterate 2 simp only[go_sem,Zt,doc,Znd]
 simp only[go_sem,doc];refine Ux (Y (G0 U C u rfl rfl rfl)) ?_;simp only[go_sem,h4];refine vc2 hS ?_;simp only[go_sem,Zt];refine vc2 hE ?_;simp only[go_sem];have xi:(nm=57)=False:=eq_false (by omega);have T:(nm=3001)=False:=eq_false (by omega);by_cases s:c.l.length=0;rw[if_pos s,Js]at s1 s2;have hO:=TF c.l M (λe X=>by have:=P e X;omega);have O:=Jo s;rw[O]at hO;have Q:rwN nm ⟨c.item,c.l⟩= .agg [.str c.item,.sl .no []]:=by rw[ZeM s];simp only[row,O];rfl
 refine GK [0,1,2,3,4,5,6,7,8,9] 10 14 [14] 15 (by kernel_rfl) (by kernel_rfl) λl1 A=> ?_
 simp only[JE,Jp,Jq]at A;subst A;simp only[go_sem,O];refine DE rfl rfl rfl rfl (show(55:Nat)<61 by omega) rfl (λm w=>CallS.lend hO rfl (λi hi=>by
  match i,hi with
  |0,_=>exact .clean rfl) (by simp[ZX,Jy]) (by simp[ZX,Ko,Kn]) rfl) rfl ?_
 refine Zap rfl rfl rfl λZ q=> ?_
 subst q;simp only[go_sem,ZX];refine ZeX (ei:=⟨90,2,40⟩) rfl rfl rfl rfl (show(57:Nat)<61 by omega) (by kernel_rfl) ?_ rfl (by decide) (by simp only[go_sem,T5];simp) ?_;exact xc;refine Ztb (d:=3001) (d2:=3002) (n:=d.rows.length+1) (sz:=2) (e:=90) (es:=(ZO ns d.rows).take i++rwN nm ⟨c.item,c.l⟩::(ZO ns d.rows).drop i) rfl rfl rfl (by kernel_rfl) rfl (show(58:Nat)<61 by omega) rfl (λm w=> ?_) (λr hr=> ?_) ?_;exact ZdY (d:=3001) (k:=57) (d2:=3002) (by rw[w.q];rfl) (by rw[w.v];rfl) (by rw[w.q];rfl) (by rw[w.v,Q];rfl) (by rw[w.q];exact xa) (by decide) hi (by omega) G;rcases ZfI hr with h|h;obtain⟨x,o,rfl⟩:=Zdz h;have J:=u _ (WW o);refine⟨x,rfl,?_⟩;show upd (upd (upd _ 3000 _) 3001 _) 57 _ x≠Hn;rw[Zb _ _ (by omega),Zb _ _ (by omega),Zb _ _ (by omega)];exact ZfQ C o;exact absurd s (ZbH h).1;refine GJ λZ q=> ?_
 simp only[JE,Jp,Jq]at q;subst q;simp only[go_sem,reM];refine ZbZ _ 15 (by kernel_rfl) λZ q=> ?_
 simp only[Kw]at q;subst q;simp only[go_sem];refine⟨⟨_,by simp only[go_sem,Uc],.clean rfl⟩,λx o=> ?_,λx o=> ?_,λx o=> ?_,λx o=>by rw[Jc.1 o];rfl,G1 U C u⟩;rw[Jc.1 o];exact⟨_,rfl,rfl,rfl,λj z=> .keep _ λy S=>(TL B E v t).ch _ (Jc.2 rfl) _ (Zc z) y S⟩;show upd (upd (upd (upd (upd _ 3000 _) 3001 _) 57 _) 3001 _) 3002 _ x.1=Hs x.2;rcases Ja.1 o with rfl|o;rfl;rcases Ja.1 o with rfl|o;rfl;rcases Ja.1 o with rfl|o;rfl;rw[s1]at o;have J:=u _ (Y9 o).1;rw[Zb _ _ (by omega),Zb _ _ (by omega),Zb _ _ (by omega),Zb _ _ (by omega),Zb _ _ (by omega)];exact Ur C o;have hv:upd (upd (upd (upd (upd (Yq ((D0 ns d.rows).map λx=>(x.1,Hs x.2)) λ_=>Hn) 3000 (Hs (d.head.map ent))) 3001 (Hs (ZO ns d.rows))) 57 (Hs [.agg [.str c.item,.sl .no []]])) 3001 Hn) 3002 (Hs ((ZO ns d.rows).take i++rwN nm ⟨c.item,c.l⟩::(ZO ns d.rows).drop i)) x.1=Hs x.2:=by
  rcases Ja.1 o with rfl|o;rfl;rcases Ja.1 o with rfl|o;rfl;rw[s2]at o;have J:=u _ (Yg o).1;rw[Zb _ _ (by omega),Zb _ _ (by omega),Zb _ _ (by omega),Zb _ _ (by omega),Zb _ _ (by omega)];exact Vh C o
 exact⟨_,hv,rfl,λj z=> .keep _ λy S=>(TL B E v t).cv x o _ (Zc z) y S⟩;rw[if_neg s]at s1 s2;have xb:∀a b c' d',upd (upd (upd (upd (Yq ((SW ns d.rows).map λx=>(x.1,Hs x.2)) λ_=>Hn) 3000 a) 3001 b) nm c') 57 d' 3002=none:=λa b c' d'=>by
  rw[Zb _ _ (by omega),Zb _ _ (by omega),Zb _ _ (by omega),Zb _ _ (by omega)];exact xa
 have V:∀ {α:Type} (F:Nat->Option α) a b c' d',upd (upd (upd (upd F 3000 a) 3001 b) nm c') 57 d' 3001=b:=λF a b c' d'=>by
  rw[Zb _ _ (by omega),Zb _ _ (by omega),Za]
 have hV:Eff prog 66 [ZX c.l] noV (.vsl 6 c.l.length 5) (Zcx 6 c.l.length 5 64 (c.l.map ent)):=by
  cases W:c.l with
  |nil=>rw[W]at s;exact absurd rfl s
  |cons x l0=>
   rw[W]at M P;exact Zqe x l0 M (λe X=>by have:=P e X;omega)
 have Q:rwN nm ⟨c.item,c.l⟩= .agg [.str c.item,.vsl nm c.l.length 5]:=by unfold rwN;rw[if_neg s]
 refine GK [0,1,2,3,4,5,6,7,8,9] 10 14 [14] 15 (by kernel_rfl) (by kernel_rfl) λl1 A=> ?_
 simp only[JE,Jp,Jq]at A;subst A;simp only[go_sem];refine Ztc nm hV (ZfL _) (by simp[ZX,Jy]) rfl rfl rfl rfl (show(55:Nat)<61 by omega) rfl ?_ (λm=>by simp only[go_sem,ZX]) (by simp[JU,Kr]) ?_;show upd (upd _ 3000 _) 3001 _ nm=Hn;rw[Zb _ _ (by omega),Zb _ _ (by omega)];exact xj;refine Zap rfl rfl rfl λZ q=> ?_
 subst q;simp only[go_sem,JU];refine ZeX (ei:=⟨90,2,40⟩) rfl rfl rfl rfl (show(57:Nat)<61 by omega) (by kernel_rfl) ?_ rfl (by decide) (by simp only[go_sem,T5];simp;omega) ?_;show upd (upd (upd _ 3000 _) 3001 _) nm _ 57=Hn;rw[Zb _ _ (by omega),Zb _ _ (by omega),Zb _ _ (by omega)];exact xc;refine Ztb (d:=3001) (d2:=3002) (n:=d.rows.length+1) (sz:=2) (e:=90) (es:=(ZO ns d.rows).take i++rwN nm ⟨c.item,c.l⟩::(ZO ns d.rows).drop i) rfl rfl rfl (by kernel_rfl) rfl (show(58:Nat)<61 by omega) rfl (λm w=> ?_) (λr hr=> ?_) ?_;refine ZdY (d:=3001) (k:=57) (d2:=3002) ?_ ?_ ?_ ?_ ?_ (by decide) hi (by omega) G;rw[w.q];exact V _ (Hs (Row.vec d.head.length 5 64)) (Hs (Row.vec d.rows.length 2 90)) (Hs (Row.vec c.l.length 5 64)) (Hs (Row.vec 1 2 90));rw[w.v];exact V _ (Hs (d.head.map ent)) (Hs (ZO ns d.rows)) (Hs (c.l.map ent)) (Hs [.agg [.str c.item,.vsl nm c.l.length 5]]);rw[w.q];rfl;rw[w.v,Q];rfl;rw[w.q];exact xb (Hs (.vec d.head.length 5 64)) (Hs (.vec d.rows.length 2 90)) (Hs (.vec c.l.length 5 64)) (Hs (.vec 1 2 90));show ∃i,r= .r i/\upd (upd (upd (upd _ 3000 _) 3001 _) nm _) 57 _ i≠Hn;rcases ZfI hr with h|h;obtain⟨x,o,rfl⟩:=Zdz h;have J:=u _ (WW o);have I:nm≠x:=λe=>D (e▸WW o)
 refine⟨x,rfl,?_⟩;rw[Zb _ _ (by omega),Zb _ _ (by omega),Zb _ _ (by omega),Zb _ _ (by omega)];exact ZfQ C o;refine⟨nm,(ZbH h).2,?_⟩;rw[Zb _ _ (by omega),Za];simp;refine GJ λZ q=> ?_
 simp only[JE,Jp,Jq]at q;subst q;simp only[go_sem,reM];refine ZbZ _ 15 (by kernel_rfl) λZ q=> ?_
 simp only[Kw]at q;subst q;simp only[go_sem,xi,T];refine⟨⟨_,by simp only[go_sem,Uc],.clean rfl⟩,λx o=> ?_,λx o=> ?_,λx o=> ?_,λx o=>by rw[Jc.1 o];rfl,G1 U C u⟩;rw[Jc.1 o];exact⟨_,rfl,rfl,rfl,λj z=> .keep _ λy S=>(TL B E v t).ch _ (Jc.2 rfl) _ (Zc z) y S⟩;show upd (upd (upd (upd (upd (upd _ 3000 _) 3001 _) nm _) 57 _) 3001 _) 3002 _ x.1=Hs x.2;rcases Ja.1 o with rfl|o;rfl;rcases Ja.1 o with rfl|o;rfl;rcases Ja.1 o with rfl|o;rw[Zb _ _ (by omega),Zb _ _ (by omega),Zb _ _ (by omega),Zb _ _ (by show nm≠3000;omega),Zb _ _ (by omega),Za];rw[s1]at o;rcases Jt.1 o with o|o;have J:=u _ (Y9 o).1;have I:nm≠x.1:=λe=>D (e▸(Y9 o).1)
 rw[Zb _ _ (by omega),Zb _ _ (by omega),Zb _ _ (by omega),Zb _ _ I,Zb _ _ (by omega),Zb _ _ (by omega)];exact Ur C o;rw[Jc.1 o,Zb _ _ (by show 3002≠nm;omega),Zb _ _ (by show 3001≠nm;omega),Zb _ _ (by show 57≠nm;omega),Za];have hv:upd (upd (upd (upd (upd (upd (Yq ((D0 ns d.rows).map λx=>(x.1,Hs x.2)) λ_=>Hn) 3000 (Hs (d.head.map ent))) 3001 (Hs (ZO ns d.rows))) nm (Hs (c.l.map ent))) 57 (Hs [.agg [.str c.item,.vsl nm c.l.length 5]])) 3001 Hn) 3002 (Hs ((ZO ns d.rows).take i++rwN nm ⟨c.item,c.l⟩::(ZO ns d.rows).drop i)) x.1=Hs x.2:=by
  rcases Ja.1 o with rfl|o;rfl;rcases Ja.1 o with rfl|o;rw[Zb _ _ (by omega),Zb _ _ (by omega),Zb _ _ (by omega),Zb _ _ (by show nm≠3000;omega),Zb _ _ (by omega),Za];rw[s2]at o;rcases Jt.1 o with o|o;have J:=u _ (Yg o).1;have I:nm≠x.1:=λe=>D (e▸(Yg o).1)
  rw[Zb _ _ (by omega),Zb _ _ (by omega),Zb _ _ (by omega),Zb _ _ I,Zb _ _ (by omega),Zb _ _ (by omega)];exact Vh C o;rw[Jc.1 o,Zb _ _ (by show 3002≠nm;omega),Zb _ _ (by show 3001≠nm;omega),Zb _ _ (by show 57≠nm;omega),Za]
 exact⟨_,hv,rfl,λj z=> .keep _ λy S=>(TL B E v t).cv x o _ (Zc z) y S⟩
abbrev ZsI (c:Cg):List PV:= [.int .i64 c.kind,.str c.item,.int .i64 c.was.at'.sc,.str c.was.at'.gr,.str c.was.at'.nm,.int .i64 c.was.n,.sl .no (c.was.l.map .str),.int .i64 c.now.at'.sc,.str c.now.at'.gr,.str c.now.at'.nm,.int .i64 c.now.n,.sl .no (c.now.l.map .str),.sl .no (c.l.map ent)]
def Ziz (e:En) (c:Cg):Pp 77 [ent e,.rptr (ZsI c)] (.bool (decide (e.at'=c.now.at'))):=by
 refine ZM func77 rfl ntmps77 results77 ?_;simp only[go_sem,ent,ZB]
def ZfS {d:Dc} (q:Zfd d) (it:Str) (r:Rf):(Xh d it r).1.l.length<=maxLen:=by
 obtain⟨s,t,o,p⟩:=q;unfold Xh;by_cases n:it= [];rw[if_pos n];rcases Yx (atE r) d.head with h|⟨k,j,h⟩;rw[h];exact Jh _;rw[h,if_neg (by omega)];exact o _ (Zh j);rw[if_neg n];rcases Yx (atR it) d.rows with h|⟨i,f,h⟩;rw[h];exact Jh _;rw[h,if_neg (by omega)];simp only[Jl];rcases Yx (atE r) (d.rows.getD i Jd).l with a|⟨k,j,a⟩;rw[a];exact Jh _;rw[a,if_neg (by omega)];exact(p _ (Zh f)).2 _ (Zh j)
def ZjD (x:En):(PV.tup [Zhv x,.int .i64 0]).dids= []:=by simp only[Kr,J7,ZaT,Js]
def ZsL {m:Hp} {ns:List Nat} {d:Dc} {it:Str} {r:Rf} (h:DocIn m 1000 3001 ns d) (a:Zfd d) (i:Zfq d) (f:(Xh d it r).2=0):CallS prog 42 [.agg [.vsl 3000 d.head.length 5,.vsl 3001 d.rows.length 2],.str it,ref r] m (.tup [Zhv (Xh d it r).1,.int .i64 0]) m:=by
 have:=h.find_s it r a i;unfold ZtE at this;rwa[f,if_pos rfl]at this
theorem Zty {m:Hp} (c:Cg) (a:m.h 5=Hs (ZsI c)) (h:m.z 5=Ht):Pub (λ_=>False) m (.fn 77 [.ptr 5 0]) (.fn 77 [.rptr (ZsI c)]):=by
 refine .fn _ _ _ rfl λj f=> ?_
 match j,f with
 |0,_=>exact Pub.frozen 5 0 (ZsI c) a h
theorem ZvA {m:Hp} {x:Nat} {es:List En} (c:Cg) (hv:m.v x=Hs (es.map ent)) (a:m.h 5=Hs (ZsI c)) (j:m.z 5=Ht) (h:es.length<=maxLen):
  CallS prog 76 [.vsl x es.length 5,.fn 77 [.ptr 5 0]] m (.int .i64 (idx (atE c.now.at') es)) m:=
 CallS.lend (U5 es 77 (ZsI c) (atE c.now.at') h (λe _=>Ziz e c)) rfl (λi f=>by
  match i,f with
  |0,_=>exact KF (by simp) hv (Jk _) (Yt YM _)
  |1,_=>exact Zty c a j) (by simp[Jy,JW]) (λp hp=>by
  simp only[Ja,JA,or_false]at hp;rcases hp with rfl|rfl;simp[Ko,W9];simp[Ko,Kn,W9,Zgw]) rfl
def ZfN {P:Program} {s:St} {rs:List ResultVar} {r0:PV} {ns:List Nat} {d d':Dc} {ph:Nat->Nat} {pq:Nat->Option (Nat×Nat×Nat)} (r:ns.length=d'.rows.length) (t:ns.Nodup) (q:∀x∈ns,10000<=x) (w:Uc P r0 s [] rs) (h:r0.ids= [])
  (u:s.m.h 1000=Hs [.vsl 3000 d'.head.length 5,.vsl 3001 d'.rows.length 2]) (y:s.m.z 1000=Hf) (v:∀x∈Up 3001 ns d',s.m.q x.1=Hs x.2) (hv:∀x∈Uq 3001 ns d',s.m.v x.1=Hs x.2) (o:s.m.ph 1000=Hs (ph 1000)) (p:∀x∈Up 3001 ns d,s.m.pq x.1=pq x.1):
  ERet P rs r0 (Ze3 ns d) (Ze3 ns d') ph pq s:=
 ⟨⟨r0,w,.clean h⟩,λx a=>by
  rw[Jc.1 a];exact⟨_,u,y,rfl,λi f=> .keep _ λj n=>(TK r t q).ch _ (Jc.2 rfl) _ (Zc f) j n⟩,v,λx a=>⟨_,hv x a,rfl,λi f=> .keep _ λj n=>(TK r t q).cv x a _ (Zc f) j n⟩,λx a=>by rw[Jc.1 a];exact o,p⟩
def Zqc (l:List Fd) (ns:List Nat) (d:Dc) (c:Cg) (q:ns.length=d.rows.length) (p:ns.Nodup) (n:∀x∈ns,10000<=x) (Y:l.length<=40) (r:∀f∈l,f.cases'.length<=1000000) (w:Zfd d) (T:Zfq d) (I:FineC c) (v:c.now.l.length<=1000000) (O:c.was.at'=c.now.at') (S:(Xh d c.item c.now.at').2=0) (U:(Xh d c.item c.now.at').1=c.was)
  (D:(Zp l c.now.at').2=0) (z:YF (Zp l c.now.at').1 c.now=Ht) (P:c.item= []) (k:Nat) (C:k<d.head.length) (B:idx (atE c.now.at') d.head=(k:Int)):
  Eff prog 38 [Zt l,.ptr 1000 0,chg c] (Ze3 ns d) (.int .i64 0) (Ze3 ns ⟨d.head.set k c.now,d.rows⟩):=by
 have hd:decide (c.was.at'=c.now.at')=true:=decide_eq_true O;have o:∀ {m:Hp},DocIn m 1000 3001 ns d->_:=λh=>ZsL h w T S
 have E:=VL (Xh d c.item c.now.at').1 c.was (ZfS w _ _) I.w;rw[decide_eq_true U]at E;generalize (Xh d c.item c.now.at').1=x at *;have u:=WK l c.now.at' (by omega) r;have y:(Zp l c.now.at').1.cases'.length<=maxLen:=by
  unfold Zp;rcases Yx (atF c.now.at') l with h|⟨k,C,h⟩;rw[h];exact Jh _;rw[h,if_neg (by omega)];have:=r _ (Zh (d:=Jd) C);rw[Zd];exact JI this (by omega)
 have G:=Sk (Zp l c.now.at').1 c.now y I.n;rw[z]at G;unfold Za2 at u;rw[D]at u;generalize (Zp l c.now.at').1=f at *;have A:(c.item== [])=true:=ZhW P;have s:∀ {m:Hp},m.v 3000=Hs (d.head.map ent)->m.h 5=Hs (ZsI c)->m.z 5=Ht->CallS prog 76 [.vsl 3000 d.head.length 5,.fn 77 [.ptr 5 0]] m (.int .i64 (k:Int)) m:=λJ K L=>by
  rw[<-B];exact ZvA c J K L w.1
 have M:=X2 c.now v;have V:=JD k
 have W:(k:Int)<(d.head.length:Int):=by omega
 have j:=To (pv:=ent) (l:=d.head) (k:=k) (x:=c.now);simp only[ent]at j;have F:Up 3001 ns ⟨d.head.set k c.now,d.rows⟩=Up 3001 ns d:=by simp only[Up,Ju]
 refine Eff.of_v [] func38 (by decide) rfl ntmps38 results38 (by simp) (TK q p n) (TK (d:=⟨d.head.set k c.now,d.rows⟩) q p n) (by simp[chg,Zt,Jy,JW,MemL.has]) (by simp[Jy]) (λx a=>⟨_,Jc.2 rfl,by rw[Jc.1 a]⟩) (λx a=>⟨x,by show x∈Up 3001 ns _;rw[F];exact a,rfl,Row.compat_refl _⟩) λph pq=> ?_
 simp only[go_sem,chg,Zt,Up,Uq,ZB,hd];refine GK [0,1,2,3,4,5,6,7,12] 8 9 [9,10,11,13] 14 (by kernel_rfl) (by kernel_rfl) λl1 t=> ?_
 simp only[JE,Jp,Jq]at t;subst t;simp only[go_sem];refine DE rfl rfl rfl rfl (show(30:Nat)<88 by omega) rfl (λm Q=>o ((G0 q p n rfl rfl rfl).near Q (show(88:Nat)<=1000 by omega))) (ZjD _) ?_;refine GJ λX i=> ?_
 simp only[JE,Jp,Jq]at i;subst i;simp only[go_sem,Zhv];refine ZbZ _ 14 (by kernel_rfl) λX i=> ?_
 simp only[Kw]at i;subst i;simp only[go_sem];refine vc1 E ?_;simp only[go_sem];refine vc2 u ?_;simp only[go_sem,fld];refine vc2 G ?_;simp only[go_sem,A];refine Ux (s rfl rfl rfl) ?_;simp only[go_sem,ent];refine vc1 M ?_;simp only[go_sem,V,W,Zq C,ent,j];refine ZfN (d':=⟨d.head.set k c.now,d.rows⟩) q p n (by simp only[go_sem,Uc]) rfl (by simp only[Ju];rfl) rfl (λx a=> ?_) (λx a=> ?_) rfl (G1 q p n);rw[F]at a;exact Zjr q p n x a;rcases Ja.1 a with rfl|a;rfl;rcases Ja.1 a with rfl|a;rfl;have Z:=n _ (Yg a).1;show upd (upd (upd _ 3000 _) 3001 _) 3000 _ x.1=Hs x.2;rw[Zb _ _ (by omega),Zb _ _ (by omega),Zb _ _ (by omega)];exact Vh p a
def Zgd {rs:List Rw} {it:Str} (h:FL rs) {i:Nat} (a:i<rs.length) (e:(rs.getD i Jd).item=it):YK rs it=i/\X6 rs it=true:=by
 have key:=Zbd (rs:=rs) (it:=it) a (λj f=>by
  have:=Jj.1 h j i (by omega) a f;rwa[<-getD_lt (d:=Jd),<-getD_lt (d:=Jd),e]at this) (by rw[e];exact Xs _)
 exact⟨key.1,by rw[key.2,e];simp⟩
theorem Znw {ns:List Nat}:∀ {rs rs':List Rw},rs.map (λr=>r.l.length)=rs'.map (λr=>r.l.length)->SW ns rs=SW ns rs':=by
 induction ns with
 |nil=>intro rs rs' _;rfl
 |cons n ns ih=>
  intro rs rs' h;match rs,rs',h with
  | [],[],_=>rfl
  |r::rs,r'::rs',h=>
   simp only[Jr,Qe.injEq]at h;have:=ih h.2;unfold SW at this ⊢;simp only[List.zip_cons_cons,List.filterMap_cons,h.1];rw[this]
theorem ZgR {ns:List Nat}:∀ {rs rs':List Rw},rs.map (λr=>(r.item,r.l.length))=rs'.map (λr=>(r.item,r.l.length))->ZO ns rs=ZO ns rs':=by
 induction ns with
 |nil=>intro rs rs' _;rfl
 |cons n ns ih=>
  intro rs rs' h;match rs,rs',h with
  | [],[],_=>rfl
  |r::rs,r'::rs',h=>
   simp only[Jr,Qe.injEq,Prod.mk.injEq]at h;have:=ih h.2;unfold ZO at this ⊢;simp only[Kj];rw[this];congr 1;unfold rwN;rw[h.1.1,h.1.2]
def ZtD {ns:List Nat}:∀ {rs:List Rw} {x:Nat×List PV},x∈D0 ns rs-> ∃j,j<ns.length/\j<rs.length/\(rs.getD j Jd).l.length≠0/\x=(ns.getD j 0,(rs.getD j Jd).l.map ent):=by
 intro rs x h;obtain⟨y,i,e⟩:=Jw.1 h;obtain⟨j,f,rfl⟩:=JM i;rw[List.length_zip]at f;rw[List.getElem_zip]at e;refine⟨j,by omega,by omega,?_⟩;rw[getD_lt (by omega),getD_lt (by omega)];split at e;cases e;rename_i a;cases e;exact⟨a,rfl⟩
def Zrz {ns:List Nat} (o:ns.Nodup) {i j:Nat} (f:i<ns.length) (n:j<ns.length) (h:ns.getD i 0=ns.getD j 0):i=j:=by
 rw[getD_lt f,getD_lt n]at h;rcases Nat.lt_trichotomy i j with a|a|a;exact absurd h (Jj.1 o i j f n a);exact a;exact absurd h.symm (Jj.1 o j i n f a)
def Zqd (l:List Fd) (ns:List Nat) (d:Dc) (c:Cg) (p:ns.length=d.rows.length) (s:ns.Nodup) (t:∀x∈ns,10000<=x) (hL:l.length<=40) (y:∀f∈l,f.cases'.length<=1000000) (F:Zfd d) (hs:Zfq d) (hc:FineC c) (J:c.now.l.length<=1000000) (ha:c.was.at'=c.now.at') (hq:(Xh d c.item c.now.at').2=0) (hw:(Xh d c.item c.now.at').1=c.was)
  (W:(Zp l c.now.at').2=0) (L:YF (Zp l c.now.at').1 c.now=Ht) (hi:c.item≠ []) (Y:FL d.rows) (i k:Nat) (n:i<d.rows.length) (P:(d.rows.getD i Jd).item=c.item) (S:k<(d.rows.getD i Jd).l.length) (Q:idx (atE c.now.at') (d.rows.getD i Jd).l=(k:Int)):
  Eff prog 38 [Zt l,.ptr 1000 0,chg c] (Ze3 ns d) (.int .i64 0) (Ze3 ns ⟨d.head,d.rows.set i ⟨(d.rows.getD i Jd).item,(d.rows.getD i Jd).l.set k c.now⟩⟩):=by
 have hd:decide (c.was.at'=c.now.at')=true:=decide_eq_true ha;have v:∀ {m:Hp},DocIn m 1000 3001 ns d->_:=λh=>ZsL h F hs hq
 have hE:=VL (Xh d c.item c.now.at').1 c.was (ZfS F _ _) hc.w;rw[decide_eq_true hw]at hE;generalize (Xh d c.item c.now.at').1=x at *;have G:=WK l c.now.at' (by omega) y;have K:(Zp l c.now.at').1.cases'.length<=maxLen:=by
  unfold Zp;rcases Yx (atF c.now.at') l with h|⟨k,S,h⟩;rw[h];exact Jh _;rw[h,if_neg (by omega)];have:=y _ (Zh (d:=Jd) S);rw[Zd];exact JI this (by omega)
 have hT:=Sk (Zp l c.now.at').1 c.now K hc.n;rw[L]at hT;unfold Za2 at G;rw[W]at G;generalize (Zp l c.now.at').1=f at *;have M:(c.item== [])=false:=Zec hi;obtain⟨O,T⟩:=Zgd Y n P;have E:∀ {m:Hp},DocIn m 1000 3001 ns d->CallS prog 75 [.ptr 1000 0,.str c.item] m (.tup [.int .i64 (i:Int),.bool Ht]) m:=λh=>by
  have:=h.row_s c.item F.2.1;rwa[T,O]at this
 have I:(ZO ns d.rows).getD i .any= .agg [.str (d.rows.getD i Jd).item,.vsl (ns.getD i 0) (d.rows.getD i Jd).l.length 5]:=by
  rw[Fj p n];unfold rwN;rw[if_neg (by omega)]
 have U:=UW p;have Z:=F9 (ns:=ns) p n (by omega);have X:=Zq7 (ns:=ns) p n (by omega);have xa:10000<=ns.getD i 0:=t _ (Zc (by omega));have z:=(F.2.2.2 _ (Zh (d:=Jd) n)).1;have j0:=JD i
 have j1:(i:Int)<(d.rows.length:Int):=by omega
 have g0:(3000=ns.getD i 0)=False:=eq_false (by omega);have g1:(3001=ns.getD i 0)=False:=eq_false (by omega);have w:=Vh s Z;have D:=Ur s X;simp only at w D;have V:∀(a b:Option (List PV)),upd (upd (Yq ((D0 ns d.rows).map λx=>(x.1,Hs x.2)) λ_=>Hn) 3000 a) 3001 b (ns.getD i 0)=Hs ((d.rows.getD i Jd).l.map ent):=λa b=>by
  rw[Zb _ _ (by omega),Zb _ _ (by omega)];exact w
 have A:∀ {m:Hp},m.v (ns.getD i 0)=Hs ((d.rows.getD i Jd).l.map ent)->m.h 5=Hs (ZsI c)->m.z 5=Ht->CallS prog 76 [.vsl (ns.getD i 0) (d.rows.getD i Jd).l.length 5,.fn 77 [.ptr 5 0]] m (.int .i64 (k:Int)) m:=λh1 h2 h3=>by
  rw[<-Q];exact ZvA c h1 h2 h3 z
 have hO:=X2 c.now J;have i0:=JD k
 have i1:(k:Int)<((d.rows.getD i Jd).l.length:Int):=by omega
 have u:=To (pv:=ent) (l:=(d.rows.getD i Jd).l) (k:=k) (x:=c.now);simp only[ent]at u;have hR:Up 3001 ns ⟨d.head,d.rows.set i ⟨(d.rows.getD i Jd).item,(d.rows.getD i Jd).l.set k c.now⟩⟩=Up 3001 ns d:=by
  simp only[Up,Ju];rw[Znw];rw[KZ];simp only[Ju];rw[show(d.rows.getD i Jd).l.length=(d.rows.map λr=>r.l.length)[i]'(by simpa using n)by rw[JJ,getD_lt n]];exact JH _
 have hN:ZO ns (d.rows.set i ⟨(d.rows.getD i Jd).item,(d.rows.getD i Jd).l.set k c.now⟩)=ZO ns d.rows:=by
  rw[ZgR];rw[KZ];simp only[Ju];rw[show((d.rows.getD i Jd).item,(d.rows.getD i Jd).l.length)=(d.rows.map λr=>(r.item,r.l.length))[i]'(by simpa using n)by rw[JJ,getD_lt n]];exact JH _
 have B:ns.length=(d.rows.set i ⟨(d.rows.getD i Jd).item,(d.rows.getD i Jd).l.set k c.now⟩).length:=by rw[Ju];exact p
 refine Eff.of_v [] func38 (by decide) rfl ntmps38 results38 (by simp) (TK p s t) (TK (d:=⟨d.head,d.rows.set i ⟨(d.rows.getD i Jd).item,(d.rows.getD i Jd).l.set k c.now⟩⟩) B s t) (by simp[chg,Zt,Jy,JW,MemL.has]) (by simp[Jy]) (λx o=>⟨_,Jc.2 rfl,by rw[Jc.1 o]⟩) (λx o=>⟨x,by show x∈Up 3001 ns _;rw[hR];exact o,rfl,Row.compat_refl _⟩) λph pq=> ?_
 simp only[go_sem,chg,Zt,Up,Uq,ZB,hd];refine GK [0,1,2,3,4,5,6,7,12] 8 9 [9,10,11,13] 14 (by kernel_rfl) (by kernel_rfl) λl1 C=> ?_
 simp only[JE,Jp,Jq]at C;subst C;simp only[go_sem];refine DE rfl rfl rfl rfl (show(30:Nat)<88 by omega) rfl (λm hm=>v ((G0 p s t rfl rfl rfl).near hm (show(88:Nat)<=1000 by omega))) (ZjD _) ?_;refine GJ λl2 q=> ?_
 simp only[JE,Jp,Jq]at q;subst q;simp only[go_sem,Zhv];refine ZbZ _ 14 (by kernel_rfl) λl2 q=> ?_
 simp only[Kw]at q;subst q;simp only[go_sem];refine vc1 hE ?_;simp only[go_sem];refine vc2 G ?_;simp only[go_sem,fld];refine vc2 hT ?_;simp only[go_sem,M];refine Ux (E (G0 p s t rfl rfl rfl)) ?_;simp only[go_sem,j0,j1,U,I];refine Ux (A (V _ _) rfl rfl) ?_;simp only[go_sem,ent];refine vc1 hO ?_;simp only[go_sem,i0,i1,Zq S,ent,u,g0,g1,w,D];refine ZfN (d':=⟨d.head,d.rows.set i ⟨(d.rows.getD i Jd).item,(d.rows.getD i Jd).l.set k c.now⟩⟩) B s t (by simp only[go_sem,Uc]) rfl (by simp only[Ju];rfl) rfl (λx o=> ?_) (λx o=> ?_) rfl (G1 p s t);rw[hR]at o;exact Zjr p s t x o;show upd (upd (upd _ 3000 _) 3001 _) (ns.getD i 0) _ x.1=Hs x.2;rcases Ja.1 o with rfl|o;rw[Zb _ _ (by simp only;omega),hN];rfl;rcases Ja.1 o with rfl|o;rw[Zb _ _ (by simp only;omega)];rfl;obtain⟨j,q1,q2,q3,rfl⟩:=ZtD o;rw[Ju]at q2;by_cases e:j=i;subst e;rw[Ye n];exact Za _ _ _;have hb:=t _ (Zc (d:=0) q1);rw[XK e]at q3 ⊢;rw[Zb _ _ (λe1=>e (Zrz s (by omega) q1 e1).symm),Zb _ _ (by omega),Zb _ _ (by omega)];exact Vh s (F9 p q2 q3)
def fN (R R2:Nat) (i:Nat):Nat:=if i=3001 then R else if i=3002 then R2 else i
def gN (i:Nat):Nat:=if i=1000 then 9 else i
def FR {R R2 i:Nat} (h:10000<=i):fN R R2 i=i:=by unfold fN;rw[if_neg (by omega),if_neg (by omega)]
structure DocAt (m:Hp) (R:Nat) (ns:List Nat) (d:Dc):Prop where
 h:m.h 9=Hs [.vsl 3000 d.head.length 5,.vsl R d.rows.length 2]
 z:m.z 9=Hf
 q:∀x∈Up R ns d,m.q x.1=Hs x.2
 v:∀x∈Uq R ns d,m.v x.1=Hs x.2
structure Nam (n0 k R:Nat) (ns:List Nat) (d:Dc):Prop where
 l:ns.length=d.rows.length
 n:ns.Nodup
 lo:∀x∈ns,10000<=x
 hi:∀x∈ns,x<10000+n0+k
 r:3001<=R
 r':R<=3001+k
def ZrU {f g:Nat->Nat} {x:Nat} {r:Rw} (h:f x=x):(rwN x r).ren f g=rwN x r:=by
 unfold rwN;split<;>simp[JU,PV.renL,h]
theorem T8 {f g:Nat->Nat}:∀ {ns:List Nat} {rs:List Rw},(∀x∈ns,f x=x)->(ZO ns rs).map (JU f g)=ZO ns rs
 | [],_,_=>by simp[ZO]
 |n::ns,[],_=>by simp[ZO]
 |n::ns,r::rs,h=>by
  have a:=T8 (f:=f) (g:=g) (ns:=ns) (rs:=rs) λx i=>h x (by simp[i])
  unfold ZO at a ⊢;rw[Kj,Jr,ZrU (h n (by simp)),a]
def ZsM {m:Hp} {R R2:Nat} {ns:List Nat} {d:Dc} {m1:MemL} {hd:List PV} (f:DocAt m R ns d) (h:∀x∈ns,10000<=x) (j:m1.H= [(1000,hd)])
  (i:∀x∈m1.R,(∃y∈Up 3001 ns d,y.1=x.1)\/m.q (fN R R2 x.1)=Hn) (o:∀x∈m1.R,∀y∈m1.R,fN R R2 x.1=fN R R2 y.1->x.1=y.1):FitsM (Ze3 ns d) m1 (fN R R2) gN m:=by
 refine⟨λx a=> ?_,λx a=> ?_,λx a=> ?_,λx a=> .inl ?_,i,λx a y n _=> ?_,o⟩;rw[Jc.1 a];exact⟨f.h,f.z⟩;rcases Ja.1 a with rfl|a;exact f.q _ (Ji ..);rcases Ja.1 a with rfl|a;exact f.q _ (Jb _ (Ji ..));rw[FR (h _ (Y9 a).1)];exact f.q _ (Jb _ (Jb _ a));rcases Ja.1 a with rfl|a;rw[show((3001,ZO ns d.rows):Nat×List PV).2.map (JU (fN R R2) gN)=ZO ns d.rows from T8 λx a=>FR (h x a)];exact f.v _ (Ji ..);rcases Ja.1 a with rfl|a;rw[show((3000,d.head.map ent):Nat×List PV).2.map (JU (fN R R2) gN)=d.head.map ent from Vr _];exact f.v _ (Jb _ (Ji ..));obtain⟨_,r,_,e⟩:=Yg a;rw[FR (h _ (Yg a).1),e,Vr,<-e];exact f.v _ (Jb _ (Jb _ a));rw[j]at a;rw[Jc.1 a];exact⟨_,Jc.2 rfl,rfl⟩;rw[j]at a n;rw[Jc.1 a,Jc.1 n]
def Zil {m1:MemL} {f g:Nat->Nat} {m:Hp} (ok:m1.Ok) (h:∀x∈m1.R,∀y∈m1.R,f x.1=f y.1->x.1=y.1) {x:Nat×Row} (a:x∈m1.R):(Zbg m1 f g m).q (f x.1)=Hs x.2:=
 Vn (α:=Row) (β:=Option Row) (k:=f) (F:=λx=>Hs x.2) a ok.nr h
def Zim {m1:MemL} {f g:Nat->Nat} {m:Hp} (ok:m1.Ok) (i:∀x∈m1.R,∀y∈m1.R,f x.1=f y.1->x.1=y.1) {x:Nat×List PV} (a:x∈m1.V):(Zbg m1 f g m).v (f x.1)=Hs (x.2.map (JU f g)):=by
 obtain⟨y,h,e⟩:=ok.vr x a;have:=Vn (α:=Row) (β:=Option (List PV)) (k:=f) (F:=λx=>(m1.hp.v x.1).map (List.map (JU f g))) (f:=m.v) h ok.nr i;rw[e]at this;show Yq _ _ _=_;rw[this,ok.v_at a];rfl
def Zof {m1:MemL} {f:Nat->Nat} {m:Hp} {cs:List PV} (h:m1.H= [(1000,cs)]):Zbg m1 f gN m= { m with h:=upd m.h 9 (Hs (cs.map (JU f gN))),z:=upd m.z 9 Hf,q:=(Zbg m1 f gN m).q,v:=(Zbg m1 f gN m).v }:=by
 unfold Zbg;rw[h];rfl
def ZcI (g:FuncId) (args:List PV) (m:Hp) (e:Int) (n0 k:Nat) (d':Dc):Prop:=∃cs Q V,CallS prog g args m (.int .i64 e) { m with h:=upd m.h 9 (Hs cs),z:=upd m.z 9 Hf,q:=Q,v:=V }/\
 (e=0-> ∃a ns',Nam n0 (k+1) a ns' d'/\cs= [.vsl 3000 d'.head.length 5,.vsl a d'.rows.length 2]/\(∀x∈Up a ns' d',Q x.1=Hs x.2)/\ ∀x∈Uq a ns' d',V x.1=Hs x.2)
section
variable {m:Hp} {R R2 n0 k:Nat} {ns:List Nat} {d d':Dc} {g:FuncId} {args args0:List PV} {e:Int}
def ZqV {R R2:Nat} {d:Dc} (j:∀x∈ns,10000<=x) (o:3001<=R) (p:R<10000):∀x∈Up 3001 ns d,∀y∈Up 3001 ns d,fN R R2 x.1=fN R R2 y.1->x.1=y.1:=by
 have key:∀x∈Up 3001 ns d,(x.1=3001/\fN R R2 x.1=R)\/(x.1=3000/\fN R R2 x.1=3000)\/(10000<=x.1/\fN R R2 x.1=x.1):=λx f=>by
  rcases Ja.1 f with rfl|f;exact .inl ⟨rfl,rfl⟩;rcases Ja.1 f with rfl|f;exact .inr (.inl ⟨rfl,rfl⟩);have:=j _ (Y9 f).1;exact .inr (.inr ⟨this,FR this⟩)
 intro x f y n q;rcases key x f with ⟨a,b⟩|⟨a,b⟩|⟨a,b⟩<;>rcases key y n with ⟨h,i⟩|⟨h,i⟩|⟨h,i⟩<;>omega
def Zph (h:Eff prog g args0 (Ze3 ns d) (.int .i64 e) (Ze3 ns d')) (q:DocAt m R ns d) (f:Nam n0 k R ns d) (u:k<=6900) (p:Up 3001 ns d'=Up 3001 ns d) (j:ns.length=d'.rows.length) (s:args=args0.map (JU (fN R 3002) gN)):ZcI g args m e n0 k d':=by
 have o:R<10000:=by have:=f.r';omega
 have i:=ZqV (R2:=3002) (d:=d') f.lo f.r o;have t:FitsM (Ze3 ns d) (Ze3 ns d') (fN R 3002) gN m:=ZsM q f.lo rfl (λx a=> .inl ⟨x,by rw[<-p];exact a,rfl⟩) i;have n:=CallS.of_eff h t s;rw[Zof (m1:=Ze3 ns d') rfl]at n;refine⟨_,_,_,n,λ_=>⟨R,ns,⟨j,f.n,f.lo,λx a=>by have:=f.hi x a;omega,f.r,by have:=f.r';omega⟩,rfl,λx a=> ?_,λx a=> ?_⟩⟩;rcases Ja.1 a with rfl|a;exact Zil h.ok1 i (x:=(3001,_)) (Ji ..);have:=Zil (m:=m) (g:=gN) h.ok1 i (x:=x) (Jb _ a);rwa[show fN R 3002 x.1=x.1 by
  rcases Ja.1 a with rfl|a;rfl;exact FR (f.lo _ (Y9 a).1)]at this
 rcases Ja.1 a with rfl|a;have:=Zim (m:=m) (g:=gN) h.ok1 i (x:=(3001,ZO ns d'.rows)) (Ji ..);rwa[show((3001,ZO ns d'.rows):Nat×List PV).2.map (JU (fN R 3002) gN)=ZO ns d'.rows from T8 λx a=>FR (f.lo x a)]at this;have:=Zim (m:=m) (g:=gN) h.ok1 i (x:=x) (Jb _ a);rcases Ja.1 a with rfl|a;rwa[show((3000,d'.head.map ent):Nat×List PV).2.map (JU (fN R 3002) gN)=d'.head.map ent from Vr _]at this;obtain⟨_,r,_,e⟩:=Yg a;rwa[FR (f.lo _ (Yg a).1),e,Vr,<-e]at this
end
section
variable {m:Hp} {R n0 k n':Nat} {ns nsx ns':List Nat} {d d':Dc} {g:FuncId} {args args0 es:List PV} {hd:List En} {rsx:List Rw}
def ZqW {R R2:Nat} (j:∀x∈nsx,10000<=x) (p:3001<=R) (q:R<10000) (r:3001<=R2) (s:R2<10000) (n:R≠R2):∀x∈(Zjs n' es hd nsx rsx).R,∀y∈(Zjs n' es hd nsx rsx).R,fN R R2 x.1=fN R R2 y.1->x.1=y.1:=by
 have key:∀x∈(Zjs n' es hd nsx rsx).R,(x.1=3002/\fN R R2 x.1=R2)\/(x.1=3001/\fN R R2 x.1=R)\/(x.1=3000/\fN R R2 x.1=3000)\/(10000<=x.1/\fN R R2 x.1=x.1):=λx f=>by
  rcases Ja.1 f with rfl|f;exact .inl ⟨rfl,rfl⟩;rcases Ja.1 f with rfl|f;exact .inr (.inl ⟨rfl,rfl⟩);rcases Ja.1 f with rfl|f;exact .inr (.inr (.inl ⟨rfl,rfl⟩));have:=j _ (Y9 f).1;exact .inr (.inr (.inr ⟨this,FR this⟩))
 intro x j y o t;rcases key x j with ⟨a,b⟩|⟨a,b⟩|⟨a,b⟩|⟨a,b⟩<;>rcases key y o with ⟨h,i⟩|⟨h,i⟩|⟨h,i⟩|⟨h,i⟩<;>omega
def Zs8 (i:Eff prog g args0 (Ze3 ns d) (.int .i64 0) (Zjs d'.rows.length (ZO ns' d'.rows) d'.head nsx rsx)) (w:DocAt m R ns d) (n:Nam n0 k R ns d) (C:k<=6900) (o:∀x∈nsx,10000<=x)
  (p:∀x∈SW nsx rsx,(∃y∈SW ns d.rows,y.1=x.1)\/m.q x.1=Hn) (q:m.q (3002+k)=Hn) (f:Nam n0 (k+1) (3002+k) ns' d') (t:∀x∈SW ns' d'.rows,x∈SW nsx rsx) (u:∀x∈D0 ns' d'.rows,x∈D0 nsx rsx) (z:args=args0.map (JU (fN R (3002+k)) gN)):ZcI g args m 0 n0 k d':=by
 have v:R<10000:=by have:=n.r';omega
 have j:=ZqW (n':=d'.rows.length) (es:=ZO ns' d'.rows) (hd:=d'.head) (rsx:=rsx) (R2:=3002+k) o n.r v (by omega) (by omega) (by have:=n.r';omega);have A:FitsM (Ze3 ns d) (Zjs d'.rows.length (ZO ns' d'.rows) d'.head nsx rsx) (fN R (3002+k)) gN m:=ZsM w n.lo rfl (λx a=>by
  rcases Ja.1 a with rfl|a;exact .inr q;rcases Ja.1 a with rfl|a;exact .inl ⟨_,Ji ..,rfl⟩;rcases Ja.1 a with rfl|a;exact .inl ⟨_,Jb _ (Ji ..),rfl⟩;rcases p x a with ⟨y,B,e⟩|h;exact .inl ⟨y,Jb _ (Jb _ B),e⟩;right;rw[FR (o _ (Y9 a).1)];exact h) j
 have s:=CallS.of_eff i A z;rw[Zof (m1:=Zjs d'.rows.length (ZO ns' d'.rows) d'.head nsx rsx) rfl]at s;refine⟨_,_,_,s,λ_=>⟨3002+k,ns',f,rfl,λx a=> ?_,λx a=> ?_⟩⟩;rcases Ja.1 a with rfl|a;exact Zil i.ok1 j (x:=(3002,_)) (Ji ..);rcases Ja.1 a with rfl|a;exact Zil i.ok1 j (x:=(3000,_)) (Jb _ (Jb _ (Ji ..)));have:=Zil (m:=m) (g:=gN) i.ok1 j (x:=x) (Jb _ (Jb _ (Jb _ (t x a))));rwa[FR (f.lo _ (Y9 a).1)]at this;rcases Ja.1 a with rfl|a;have:=Zim (m:=m) (g:=gN) i.ok1 j (x:=(3002,ZO ns' d'.rows)) (Ji ..);rwa[show((3002,ZO ns' d'.rows):Nat×List PV).2.map (JU (fN R (3002+k)) gN)=ZO ns' d'.rows from T8 λx o=>FR (f.lo x o)]at this;rcases Ja.1 a with rfl|a;have:=Zim (m:=m) (g:=gN) i.ok1 j (x:=(3000,d'.head.map ent)) (Jb _ (Ji ..));rwa[show((3000,d'.head.map ent):Nat×List PV).2.map (JU (fN R (3002+k)) gN)=d'.head.map ent from Vr _]at this;have:=Zim (m:=m) (g:=gN) i.ok1 j (x:=x) (Jb _ (Jb _ (u x a)));obtain⟨_,r,_,e⟩:=Yg a;rwa[FR (f.lo _ (Yg a).1),e,Vr,<-e]at this
end
def GL {α:Type} (i:Nat) (x:α) (l:List α):List α:=l.take i++x::l.drop i
def ZaO {α:Type} (i:Nat) (l:List α):List α:=l.take i++l.drop (i+1)
def SF {α:Type} {i:Nat} {x:α} {l:List α} (h:i<=l.length):(GL i x l).length=l.length+1:=by
 unfold GL;simp only[Jg,JN,Jf,J2];omega
def Zjn {α:Type} {i:Nat} {l:List α} (h:i<l.length):(ZaO i l).length+1=l.length:=by
 unfold ZaO;simp only[Jg,JN,J2];omega
def Dl {α:Type} {i:Nat} {x y:α} {l:List α} (h:y∈GL i x l):y∈l\/y=x:=by
 rcases Jt.1 h with h|h;exact .inl (JR h);rcases Ja.1 h with h|h;exact .inr h;exact .inl (JS h)
def Dk {α:Type} {i:Nat} {y:α} {l:List α} (h:y∈ZaO i l):y∈l:=by
 rcases Jt.1 h with h|h;exact JR h;exact JS h
def delL_sub {α:Type} {i:Nat} {l:List α}:(ZaO i l).Sublist l:=by
 have h:(l.take i++l.drop (i+1)).Sublist (l.take i++l.drop i):=(Kk.refl _).append (by
  rw[show l.drop (i+1)=(l.drop i).drop 1 by rw[List.drop_drop]];exact KY _ _)
 rwa[Kl]at h
def Zls {α:Type} {i:Nat} {x:α} {l:List α} (h:l.Nodup) (n:x∉l):(GL i x l).Nodup:=by
 have r:l.Nodup↔(l.take i++l.drop i).Nodup:=by rw[Kl]
 obtain⟨o,p,q⟩:=Kt.1 (r.1 h);refine Kt.2 ⟨o,JT.2 ⟨λh=>n (JS h),p⟩,λa j b f=> ?_⟩;rcases Ja.1 f with rfl|f;exact λe=>n (e▸JR j)
 exact q a j b f
def Zb7 {α β γ:Type} {f:α->β->γ} {i:Nat} {a:α} {b:β} {A:List α} {B:List β} (h:A.length=B.length):KB f (GL i a A) (GL i b B)=GL i (f a b) (KB f A B):=by
 unfold GL;rw[KK (by simp[h]),Kj,K0,K1]
def Zb6 {α β γ:Type} {f:α->β->γ} {i:Nat} {A:List α} {B:List β} (h:A.length=B.length):KB f (ZaO i A) (ZaO i B)=ZaO i (KB f A B):=by
 unfold ZaO;rw[KK (by simp[h]),K0,K1]
def ZpW {α β:Type} {i:Nat} {a:α} {b:β} {A:List α} {B:List β} (h:A.length=B.length):(GL i a A).zip (GL i b B)=GL i (a,b) (A.zip B):=Zb7 h
def ZpU {α β:Type} {i:Nat} {A:List α} {B:List β} (h:A.length=B.length):(ZaO i A).zip (ZaO i B)=ZaO i (A.zip B):=Zb6 h
def Zq6 {ns:List Nat} {rs:List Rw} {i nm:Nat} {r:Rw} (h:ns.length=rs.length) {x:Nat×Row} (f:x∈SW (GL i nm ns) (GL i r rs)):x∈SW (ns++ [nm]) (rs++ [r]):=by
 obtain⟨y,a,e⟩:=Jw.1 f;rw[ZpW h]at a;refine Jw.2 ⟨y,?_,e⟩;rw[K6 h];rcases Dl a with h|rfl;exact JK _ h;exact JX _ (by simp)
def Zq9 {ns:List Nat} {rs:List Rw} {i nm:Nat} {r:Rw} (h:ns.length=rs.length) {x:Nat×List PV} (f:x∈D0 (GL i nm ns) (GL i r rs)):x∈D0 (ns++ [nm]) (rs++ [r]):=by
 obtain⟨y,a,e⟩:=Jw.1 f;rw[ZpW h]at a;refine Jw.2 ⟨y,?_,e⟩;rw[K6 h];rcases Dl a with h|rfl;exact JK _ h;exact JX _ (by simp)
def Zq5 {ns:List Nat} {rs:List Rw} {i:Nat} (h:ns.length=rs.length) {x:Nat×Row} (f:x∈SW (ZaO i ns) (ZaO i rs)):x∈SW ns rs:=by
 obtain⟨y,a,e⟩:=Jw.1 f;rw[ZpU h]at a;exact Jw.2 ⟨y,Dk a,e⟩
def Zq8 {ns:List Nat} {rs:List Rw} {i:Nat} (h:ns.length=rs.length) {x:Nat×List PV} (f:x∈D0 (ZaO i ns) (ZaO i rs)):x∈D0 ns rs:=by
 obtain⟨y,a,e⟩:=Jw.1 f;rw[ZpU h]at a;exact Jw.2 ⟨y,Dk a,e⟩
def Ui (l:List Fd) (d:Dc) (c:Cg):Dc×Int:=
 if c.was.at'≠c.now.at' then(d,5)else
 if(Xh d c.item c.now.at').2≠0 then(d,(Xh d c.item c.now.at').2)else
 if(Xh d c.item c.now.at').1≠c.was then(d,11)else
 if YF (Zp l c.now.at').1 c.now=Hf then(d,11)else(Dv d (Vg d c.item c.now.at') c.now,0)
def FN (l:List Fd) (d:Dc) (c:Cg):Dc×Int:=
 if Z0 c.item=Hf then(d,5)else
 if X6 d.rows c.item=Ht then(d,7)else
 if(400:Int)<=(d.rows.length:Int)then(d,14)else
 if Zo (Zk l 1) c.l=Hf then(d,5)else(⟨d.head,GL (YK d.rows c.item) ⟨c.item,c.l⟩ d.rows⟩,0)
def Zb5 (d:Dc) (c:Cg):Dc×Int:=
 if X6 d.rows c.item=Hf then(d,12)else
 if(d.rows.getD (YK d.rows c.item) Jd).l≠c.l then(d,11)else(⟨d.head,ZaO (YK d.rows c.item) d.rows⟩,0)
def Tr (l:List Fd) (d:Dc) (c:Cg):Dc×Int:=
 if c.kind=1 then Ui l d c else if c.kind=2 then FN l d c else if c.kind=3 then Zb5 d c else(d,2)
def goQ (l:List Fd):Dc->List Cg->Nat->Dc×Int×Int
 |d,[],i=>(d,(i:Int),0)
 |d,c::cs,i=>if(Tr l d c).2=0 then goQ l (Tr l d c).1 cs (i+1)else(Jd,(i:Int),(Tr l d c).2)
def S8 (l:List Fd) (d:Dc) (cs:List Cg):Dc×Int×Int:=if Zz l d=Ht then goQ l d cs 0 else(Jd,0,5)
def ZiA {l:List Fd} {d:Dc} {c:Cg} (a:Zz l d=Ht) (h:(Ui l d c).2=0):Zz l (Ui l d c).1=true:=by
 unfold Ui at h ⊢;split;exact a;split;exact a;split;exact a;split;exact a;rename_i c1 f j i;rw[ZfW]at f;exact(Zo1 a (by simpa using f) (by simpa using i)).2.1
def Zk6 {l:List Fd} {d:Dc} {c:Cg} (a:Zz l d=Ht):Zz l (FN l d c).1=true:=by
 unfold FN;split;exact a;split;exact a;split;exact a;split;exact a;rename_i c1 f s i;obtain⟨n,t,o,p,q⟩:=Yk.1 a;refine Yk.2 ⟨n,?_,o,Zn2 (r:=⟨c.item,c.l⟩) p (by simpa using f),λr j=> ?_⟩;rw[SF (G7 _ _)];omega;rcases Dl j with h|rfl;exact q r h;exact⟨by simpa using c1,by simpa using i⟩
def Znl {l:List Fd} {d:Dc} (f:Zz l d=Ht) (i:Nat):Zz l ⟨d.head,ZaO i d.rows⟩=true:=by
 obtain⟨h,j,n,o,p⟩:=Yk.1 f;exact Yk.2 ⟨h,JI delL_sub.length_le j,n,JO.sublist delL_sub o,λr a=>p r (Dk a)⟩
def Zmt {l:List Fd} {d:Dc} {c:Cg} (a:Zz l d=Ht):Zz l (Zb5 d c).1=true:=by
 unfold Zb5;split;exact a;split;exact a;exact Znl a _
def ZdJ {l:List Fd} {d:Dc} {c:Cg} (a:Zz l d=Ht) (h:(Tr l d c).2=0):Zz l (Tr l d c).1=true:=by
 unfold Tr at h ⊢;split;rename_i e;rw[if_pos e]at h;exact ZiA a h;split;exact Zk6 a;split;exact Zmt a;exact a
def ZrZ {l:List Fd} (a:ZP l=Ht) (it:Str):(Zxw l (Znd l) it).2=if Z0 it=Hf then 5 else 0:=by
 have f:Zz l (Znd l)=true:=Yk.2 ⟨a,Jh _,ZhX a 0,JO.nil,λr h=>by cases h⟩;unfold Zxw;rw[f,Ku];split;rfl;rw[if_neg (by unfold X6 ZiE;rw[show(Znd l).rows= []from rfl];simp[idx]),if_neg (by show ¬(400:Int)<=((0:Nat):Int);omega)]
def Sz {L:List Fd} {es:List En} (h:Zo L es=Ht):∀e∈es,e.l.length<=400:=by
 simp only[Zo,Je,decide_eq_true_eq,Jv,JB]at h;intro e n;obtain⟨i,o,rfl⟩:=JM n;have f:=h.2 i (by omega);rw[getD_lt o]at f;simp only[YF,Je]at f;have a:=f.2;split at a;simp only[Zlh,Je,beq_iff_eq]at a;have:=a.2.2;omega;simp only[FO,Je]at a;have j:=a.1;split at j;simp at j;omega;simp at j;omega
def UX (l:List Fd) (s:Int):(Zk l s).length<=l.length:=Jz _ _
def Dq {l:List Fd} {d:Dc} (j:Zz l d=Ht) (p:l.length<=40):OkDd d:=by
 obtain⟨q,s,h,t,i⟩:=Yk.1 j;have n:=UX l 0;have o:=UX l 1;refine⟨by rw[XU h];omega,by omega,λe a=>by have:=Sz h e a;omega,λr f=>⟨by rw[XU (i r f).2];omega,λe a=>by have:=Sz (i r f).2 e a;omega⟩⟩
def ZiJ {l:List Fd} {d:Dc} (i:Zz l d=Ht) (a:l.length<=40):Zfq d:=by
 have h:=Dq i a;exact⟨h.e,λr f=>(h.s r f).2⟩
inductive Edge (l:List Fd):Dc->Cg->Dc->Prop
 |head (d:Dc) (k:Nat) (y:En) (hk:k<d.head.length) (ha:(d.head.getD k Jd).at'=y.at') (hf:YF ((Zk l 0).getD k Jd) y=Ht) (hf0:YF ((Zk l 0).getD k Jd) (d.head.getD k Jd)=Ht):Edge l d ⟨1,[],d.head.getD k Jd,y,[]⟩ ⟨d.head.set k y,d.rows⟩
 |row (d:Dc) (i k:Nat) (y:En) (hi:i<d.rows.length) (hk:k<(d.rows.getD i Jd).l.length) (hn:(d.rows.getD i Jd).item≠ []) (ha:((d.rows.getD i Jd).l.getD k Jd).at'=y.at') (hf:YF ((Zk l 1).getD k Jd) y=Ht) (hf0:YF ((Zk l 1).getD k Jd) ((d.rows.getD i Jd).l.getD k Jd)=Ht):
   Edge l d ⟨1,(d.rows.getD i Jd).item,(d.rows.getD i Jd).l.getD k Jd,y,[]⟩ ⟨d.head,d.rows.set i ⟨(d.rows.getD i Jd).item,(d.rows.getD i Jd).l.set k y⟩⟩
 |came (d:Dc) (i:Nat) (r:Rw) (hi:i<=d.rows.length) (hr:Z0 r.item=Ht) (he:Zo (Zk l 1) r.l=Ht) (hlo:∀x∈d.rows.take i,Zl x.item r.item=Ht) (hhi:∀x∈d.rows.drop i,Zl r.item x.item=Ht):Edge l d (FM r) ⟨d.head,GL i r d.rows⟩
 |went (d:Dc) (i:Nat) (r:Rw) (hi:i<=d.rows.length) (hr:Z0 r.item=Ht) (he:Zo (Zk l 1) r.l=Ht) (hlo:∀x∈d.rows.take i,Zl x.item r.item=Ht) (hhi:∀x∈d.rows.drop i,Zl r.item x.item=Ht):Edge l ⟨d.head,GL i r d.rows⟩ (Zb4 r) d
def Zkf {α:Type} {d:α} {l:List α} {k:Nat} (h:k<l.length) (y:α):(l.set k y).set k (l.getD k d)=l:=by
 rw[Qa,getD_lt h];exact JH h
theorem Edge.flip {l:List Fd} {d d':Dc} {c:Cg} (h:Edge l d c d'):Edge l d' (ZnE c) d:=by
 cases h with
 |head d k y hk ha hf hf0=>
  have h:=Edge.head (l:=l) ⟨d.head.set k y,d.rows⟩ k (d.head.getD k Jd) (by simpa using hk) (by simp only;rw[Ye hk];exact ha.symm) hf0 (by simp only;rw[Ye hk];exact hf);simp only at h;rw[Ye hk,Zkf hk]at h;exact h
 |row d i k y hi hk hn ha hf hf0=>
  have h:=Edge.row (l:=l) ⟨d.head,d.rows.set i ⟨(d.rows.getD i Jd).item,(d.rows.getD i Jd).l.set k y⟩⟩ i k ((d.rows.getD i Jd).l.getD k Jd);simp only[Ye hi,Ju,Ye hk,Zkf hk,Qa]at h;have a:(⟨(d.rows.getD i Jd).item,(d.rows.getD i Jd).l⟩:Rw)=d.rows.getD i Jd:=rfl;rw[a,show d.rows.set i (d.rows.getD i Jd)=d.rows by rw[getD_lt hi];exact JH hi]at h;exact h hi hk hn ha.symm hf0 hf
 |came d i r hi hr he hlo hhi=>exact Edge.went d i r hi hr he hlo hhi
 |went d i r hi hr he hlo hhi=>exact Edge.came d' i r hi hr he hlo hhi
def ZlW {l:List Fd} (a:ZP l=Ht) (s:Int):ZmK (Zk l s):=JO.sublist Ka (ZL.1 a).2.1
def Zr2 {l:List Fd} (j:ZP l=Ht) {s:Int} {i k:Nat} (a:i<k) (f:k<(Zk l s).length):((Zk l s).getD i Jd).at'≠((Zk l s).getD k Jd).at':=λe=>by
 have h:=Jj.1 (ZlW j s) i k (by omega) f a;rw[<-getD_lt (d:=Jd),<-getD_lt (d:=Jd),e,W8]at h;cases h
def ZnX {l:List Fd} (p:ZP l=Ht) {s:Int} {es:List En} (h:Zo (Zk l s) es=Ht) {k:Nat} (a:k<es.length):idx (atE (es.getD k Jd).at') es=(k:Int):=by
 refine XL (d:=Jd) a (λj o=> ?_) (by simp[atE]);obtain⟨f,i⟩:=YQ h a;obtain⟨_,n⟩:=YQ h (show j<es.length by omega);simp only[atE,decide_eq_false_iff_not];rw[i,n];exact Zr2 p o f
def ZjA {l:List Fd} (n:ZP l=Ht) {s:Int} {k:Nat} (f:k<(Zk l s).length) {r:Rf} (h:((Zk l s).getD k Jd).at'=r):(Zp l r).1=(Zk l s).getD k Jd:=by
 obtain⟨j,i,a⟩:=Zem f h;rw[Zen n f h i a];unfold Zp;rw[a,if_neg (by omega),Jl]
def Ztz {α:Type} {i:Nat} {x:α} {l:List α} (h:i<=l.length):ZaO i (GL i x l)=l:=by
 have a:(l.take i).length=i:=by rw[JN];omega
 unfold ZaO GL;rw[List.take_append_of_le_length (by omega),JL (by omega),List.drop_append,a,List.drop_of_length_le (by omega),show i+1-i=1 by omega,K4,List.drop_succ_cons,K7,Kl]
def Zn1 {α:Type} {d:α} {i:Nat} {x:α} {l:List α} (h:i<=l.length):(GL i x l).getD i d=x:=by
 have a:(l.take i).length=i:=by rw[JN];omega
 unfold GL;rw[Jn,JV (by omega),a,J8];rfl
theorem Edge.step {l:List Fd} {d d':Dc} {c:Cg} (h:Edge l d c d') (K:Zz l d=Ht):Tr l d c=(d',0)\/(400<=d.rows.length/\d'.rows.length=d.rows.length+1/\(Tr l d c).2=14):=by
 obtain⟨u,O,I,J,L⟩:=Yk.1 K;cases h with
 |head d k y hk ha hf hf0=>
  left;have t:idx (atE y.at') d.head=(k:Int):=by rw[<-ha];exact ZnX u I hk
  obtain⟨z,A⟩:=YQ I hk;have C:=ZjA u z (r:=y.at') (by rw[<-A];exact ha);have f:Xh d [] y.at'=(d.head.getD k Jd,0):=by
   unfold Xh;rw[if_pos rfl,t,if_neg (by omega),Jl]
  have n:Vg d [] y.at'=(-1,(k:Int),0):=by
   unfold Vg;rw[if_pos rfl,t,if_neg (by omega)]
  show Ui l d ⟨1,[],d.head.getD k Jd,y,[]⟩=_;unfold Ui;simp only[ha,f,C,hf,n,ne_eq,not_true_eq_false,if_false,KO];unfold Dv;rw[if_pos (show((-1:Int)<0)by decide)];rfl
 |row d i k y hi hk hn ha hf hf0=>
  left;have q:=(L _ (Zh (d:=Jd) hi)).2;have t:idx (atE y.at') (d.rows.getD i Jd).l=(k:Int):=by rw[<-ha];exact ZnX u q hk
  obtain⟨z,A⟩:=YQ q hk;have C:=ZjA u z (r:=y.at') (by rw[<-A];exact ha);have s:idx (atR (d.rows.getD i Jd).item) d.rows=(i:Int):=by
   refine XL (d:=Jd) hi (λj G=> ?_) (by simp[atR]);have h:=Jj.1 J j i (by omega) hi G;rw[<-getD_lt (d:=Jd),<-getD_lt (d:=Jd)]at h;cases p:atR (d.rows.getD i Jd).item (d.rows.getD j Jd)with
   |false=>rfl
   |true=>
    simp only[atR,beq_iff_eq]at p;rw[p,Xs]at h;cases h
  have f:Xh d (d.rows.getD i Jd).item y.at'=((d.rows.getD i Jd).l.getD k Jd,0):=by
   unfold Xh;rw[if_neg hn,s,if_neg (by omega),Jl,t,if_neg (by omega),Jl]
  have n:Vg d (d.rows.getD i Jd).item y.at'=((i:Int),(k:Int),0):=by
   unfold Vg;rw[if_neg hn,s,if_neg (by omega),Jl,t,if_neg (by omega)]
  show Ui l d ⟨1,(d.rows.getD i Jd).item,(d.rows.getD i Jd).l.getD k Jd,y,[]⟩=_;unfold Ui;simp only[ha,f,C,hf,n,ne_eq,not_true_eq_false,if_false,KO];unfold Dv;rw[if_neg (by simp only;omega)];simp only[Jl]
 |came d i r hi hr' q hlo hhi=>
  obtain⟨D,E⟩:YK d.rows r.item=i/\X6 d.rows r.item=false:=by
   have lo:∀j,j<i->Zl (d.rows.getD j Jd).item r.item=true:=λj G=>by
    refine hlo _ ?_;rw[getD_lt (by omega),<-KX (j:=i) (h:=by rw[JN];omega)];exact List.getElem_mem _
   by_cases e:i=d.rows.length
   ·subst e;exact Zdd lo
   ·have o:i<d.rows.length:=by omega
    have B:Zl r.item (d.rows.getD i Jd).item=true:=by
     refine hhi _ ?_;rw[JC o,getD_lt o];exact Ji ..
    obtain⟨a,b⟩:=Zbd o lo (ZqL B);refine⟨a,b.trans ?_⟩;cases p:(d.rows.getD i Jd).item==r.item with
    |false=>rfl
    |true=>
     simp only[beq_iff_eq]at p;rw[p,Xs]at B;cases B
  show FN l d (FM r)=_\/(_/\_/\(FN l d (FM r)).2=14);unfold FN;have v:(FM r).item=r.item:=rfl;have w:(FM r).l=r.l:=rfl;rw[v,w,if_neg (by rw[hr'];simp),if_neg (by rw[E];simp)]
  by_cases F:(400:Int)<=(d.rows.length:Int)
  ·right;rw[if_pos F];exact⟨by omega,SF hi,rfl⟩
  ·left;rw[if_neg F,if_neg (by rw[q];simp),D]
 |went d i r hi hr' q hlo hhi=>
  left;have M:=SF (x:=r) hi;obtain⟨D,E⟩:=Zgd (it:=r.item) (rs:=GL i r d'.rows) J (i:=i) (by omega) (by rw[Zn1 hi]);show Zb5 ⟨d'.head,GL i r d'.rows⟩ (Zb4 r)=_;unfold Zb5;have v:(Zb4 r).item=r.item:=rfl;have w:(Zb4 r).l=r.l:=rfl;rw[v,w];simp only[D,E];rw[if_neg (by simp),if_neg (by rw[Zn1 hi];simp),Ztz hi]
inductive Chain (l:List Fd) (N:Nat):Dc->List Cg->Dc->Prop
 |nil (d:Dc) (h:d.rows.length<=N):Chain l N d [] d
 |cons {d d' d'':Dc} {c:Cg} {cs:List Cg} (h:d.rows.length<=N) (he:Edge l d c d') (hc:Chain l N d' cs d''):Chain l N d (c::cs) d''
variable {l:List Fd} {N:Nat}
def Chain.first {d d':Dc} {cs:List Cg} (h:Chain l N d cs d'):d.rows.length<=N:=by cases h<;>assumption
theorem Chain.append:∀ {d d' a:Dc} {cs cs':List Cg},Chain l N d cs d'->Chain l N d' cs' a->Chain l N d (cs++cs') a
 |_,_,_,_,_,.nil _ _,h2=>h2
 |_,_,_,_,_,.cons h he hc,h2=> .cons h he (hc.append h2)
def Chain.one {d d':Dc} {c:Cg} (f:Edge l d c d') (h:d.rows.length<=N) (a:d'.rows.length<=N):Chain l N d [c] d':= .cons h f (.nil _ a)
theorem Chain.back:∀ {d d':Dc} {cs:List Cg},Chain l N d cs d'->Chain l N d' (ZfA cs) d
 |_,_,_,.nil d h=> .nil d h
 |_,_,_,.cons (c:=c) (cs:=cs) h he hc=>by
  have e:ZfA (c::cs)=ZfA cs++ [ZnE c]:=by simp[ZfA]
  rw[e];exact hc.back.append (.one he.flip hc.first h)
theorem Chain.run:∀ {d d':Dc} {cs:List Cg},Chain l N d cs d'->Zz l d=Ht-> ∀k,(goQ l d cs k=(d',((k+cs.length:Nat):Int),0))\/(400<N/\(goQ l d cs k).2.2=14)
 |_,_,_,.nil d h,_,k=> .inl rfl
 |_,_,_,.cons (c:=c) (cs:=cs) h he hc,hr,k=>by
  unfold goQ;rcases he.step hr with f|⟨f,j,i⟩;have a:=ZdJ (c:=c) hr (by rw[f]);rw[f]at a ⊢;rw[if_pos rfl];have:=hc.run a (k+1);rw[show k+1+cs.length=k+(c::cs).length by simp only[Jf];omega]at this;exact this;right;have:=hc.first
  refine⟨by omega,?_⟩;rw[i,if_neg (by decide)]
def Chain.eq_of_nil {d d':Dc} (h:Chain l N d [] d'):d=d':=by cases h;rfl
theorem ZiB {a:List En} {hd:List En} {rs:List Rw} (q:Zo (Zk l 0) a=Ht) (r:Zo (Zk l 0) hd=Ht) (t:rs.length<=N):Chain l N ⟨a,rs⟩ (Yo [] a hd) ⟨hd,rs⟩:=by
 have A:=XU q;have B:=XU r;have key:∀k,k<=a.length->Chain l N ⟨a,rs⟩ (YV [] a hd k) ⟨hd.take k++a.drop k,rs⟩:=by
  intro k;induction k with
  |zero=>intro _;exact .nil _ t
  |succ k s=>
   intro C;have s:=s (by omega);rw[Uj];have o:k<a.length:=by omega
   have p:k<hd.length:=by omega
   have i:(hd.take k).length=k:=by rw[JN];omega
   have j:(hd.take k++a.drop k).set k (hd.getD k Jd)=hd.take (k+1)++a.drop (k+1):=by
    rw[KD,if_neg (by omega),i,J8,JC o,Ke,ZQ (d:=Jd) p,JG];rfl
   have n:(hd.take k++a.drop k).getD k Jd=a.getD k Jd:=by
    rw[Jn,JV (by omega),i,J8,KP,KU,<-Jn]
   by_cases u:a.getD k Jd=hd.getD k Jd;rw[if_pos u,Js];rw[<-u]at j;rw[<-j,<-n,show(hd.take k++a.drop k).set k ((hd.take k++a.drop k).getD k Jd)=hd.take k++a.drop k by
    have f:k<(hd.take k++a.drop k).length:=by rw[Jg,i,J2];omega
    rw[getD_lt f];exact JH f]
   exact s;rw[if_neg u];refine s.append (.one ?_ t t);have f:k<(hd.take k++a.drop k).length:=by rw[Jg,i,J2];omega
   obtain⟨v,y⟩:=YQ q o;obtain⟨_,z⟩:=YQ r p;have w:YF ((Zk l 0).getD k Jd) (a.getD k Jd)=true:=by
    simp only[Zo,Je,Jv,JB]at q;exact q.2 k v
   have x:YF ((Zk l 0).getD k Jd) (hd.getD k Jd)=true:=by
    simp only[Zo,Je,Jv,JB]at r;exact r.2 k v
   have h:=Edge.head (l:=l) ⟨hd.take k++a.drop k,rs⟩ k (hd.getD k Jd);simp only[n,j]at h;exact h f (by rw[y,z]) x w
 have:=key a.length (Kg _);rw[JY,Js,JL (by omega)]at this;exact this
theorem ZlI {hd:List En} {pre ps:List Rw} {it:Str} {x y:List En} (q:Zo (Zk l 1) x=Ht) (r:Zo (Zk l 1) y=Ht) (u:it≠ []) (J:pre.length+1+ps.length<=N):Chain l N ⟨hd,pre++⟨it,x⟩::ps⟩ (Yo it x y) ⟨hd,pre++⟨it,y⟩::ps⟩:=by
 have G:=XU q;have I:=XU r;have f:∀z:List En,(pre++(⟨it,z⟩:Rw)::ps).length<=N:=λz=>by simp only[Jg,Jf];omega
 have E:∀z:List En,(pre++(⟨it,z⟩:Rw)::ps).getD pre.length Jd=⟨it,z⟩:=λz=>by
  rw[Jn,JV (Kg _),J8];rfl
 have F:∀z w:List En,(pre++(⟨it,z⟩:Rw)::ps).set pre.length ⟨it,w⟩=pre++⟨it,w⟩::ps:=λz w=>by
  rw[KD,if_neg (by omega),J8,Ke]
 have key:∀k,k<=x.length->Chain l N ⟨hd,pre++⟨it,x⟩::ps⟩ (YV it x y k) ⟨hd,pre++⟨it,y.take k++x.drop k⟩::ps⟩:=by
  intro k;induction k with
  |zero=>intro _;exact .nil _ (f _)
  |succ k s=>
   intro K;have s:=s (by omega);rw[Uj];have o:k<x.length:=by omega
   have p:k<y.length:=by omega
   have i:(y.take k).length=k:=by rw[JN];omega
   have a:k<(y.take k++x.drop k).length:=by rw[Jg,i,J2];omega
   have j:(y.take k++x.drop k).set k (y.getD k Jd)=y.take (k+1)++x.drop (k+1):=by
    rw[KD,if_neg (by omega),i,J8,JC o,Ke,ZQ (d:=Jd) p,JG];rfl
   have n:(y.take k++x.drop k).getD k Jd=x.getD k Jd:=by
    rw[Jn,JV (by omega),i,J8,KP,KU,<-Jn]
   by_cases t:x.getD k Jd=y.getD k Jd;rw[if_pos t,Js];rw[<-t]at j;rw[<-j,<-n,show(y.take k++x.drop k).set k ((y.take k++x.drop k).getD k Jd)=y.take k++x.drop k by
    rw[getD_lt a];exact JH a]
   exact s;rw[if_neg t];refine s.append (.one ?_ (f _) (f _));obtain⟨v,C⟩:=YQ q o;obtain⟨_,D⟩:=YQ r p;have A:YF ((Zk l 1).getD k Jd) (x.getD k Jd)=true:=by
    simp only[Zo,Je,Jv,JB]at q;exact q.2 k v
   have B:YF ((Zk l 1).getD k Jd) (y.getD k Jd)=true:=by
    simp only[Zo,Je,Jv,JB]at r;exact r.2 k v
   have h:=Edge.row (l:=l) ⟨hd,pre++⟨it,y.take k++x.drop k⟩::ps⟩ pre.length k (y.getD k Jd);simp only[E,n,j,F]at h;exact h (by simp only[Jg,Jf];omega) a u (by rw[C,D]) B A
 have:=key x.length (Kg _);rw[JY,Js,JL (by omega)]at this;exact this
def Zqb (l:List Fd) (rs:List Rw):Prop:=FL rs/\ ∀r∈rs,Z0 r.item=Ht/\Zo (Zk l 1) r.l=Ht
def ZoH {a b:List Rw} (h:Zqb l b) (f:a.Sublist b):Zqb l a:=⟨JO.sublist f h.1,λr i=>h.2 r (f.subset i)⟩
def Zn4 {pre ps:List Rw} {r:Rw}:GL pre.length r (pre++ps)=pre++r::ps:=by
 unfold GL;rw[KG,KI]
def Zry {s:Str} (h:Z0 s=Ht):s≠ []:=λe=>by
 subst e;unfold Z0 at h;simp at h
def Zai {pre ps:List Rw} {r:Rw} (h:FL (pre++r::ps)):(∀x∈pre,Zl x.item r.item=Ht)/\ ∀x∈ps,Zl r.item x.item=true:=by
 obtain⟨_,f,i⟩:=JQ.1 h;exact⟨λx a=>i x a r (by simp),λx a=>(J4.1 f).1 x a⟩
theorem Zlc {hd:List En}:∀(n:Nat) (pre p q:List Rw),p.length+q.length<=n->Zqb l (pre++p)->Zqb l (pre++q)->pre.length+p.length+q.length<=N->Chain l N ⟨hd,pre++p⟩ (YG p q) ⟨hd,pre++q⟩:=by
 intro n;induction n with
 |zero=>
  intro pre p q B hp i u;obtain rfl:p= []:=Jo (by omega);obtain rfl:q= []:=Jo (by omega);rw[YG];exact .nil _ (by simp at u ⊢;omega)
 |succ n ih=>
  have wentE:∀(pre ps:List Rw) (p:Rw),Zqb l (pre++p::ps)->Edge l ⟨hd,pre++p::ps⟩ (Zb4 p) ⟨hd,pre++ps⟩:=λpre ps p h=>by
   obtain⟨a,b⟩:=Zai h.1;have:=Edge.went (l:=l) ⟨hd,pre++ps⟩ pre.length p (by simp) (h.2 p (by simp)).1 (h.2 p (by simp)).2 (by simp only[KG];exact a) (by simp only[KI];exact b);rwa[Zn4]at this
  have cameE:∀(pre ps:List Rw) (p:Rw),Zqb l (pre++p::ps)->Edge l ⟨hd,pre++ps⟩ (FM p) ⟨hd,pre++p::ps⟩:=λpre ps p h=>by
   obtain⟨a,b⟩:=Zai h.1;have:=Edge.came (l:=l) ⟨hd,pre++ps⟩ pre.length p (by simp) (h.2 p (by simp)).1 (h.2 p (by simp)).2 (by simp only[KG];exact a) (by simp only[KI];exact b);rwa[Zn4]at this
  intro pre p q B hp i u;match p,q with
  | [],[]=>rw[YG];exact .nil _ (by simp at u ⊢;omega)
  |p::ps,[]=>
   rw[YG];simp only[Jf,J6]at B u;exact .cons (by simp only[Jg,Jf];omega) (wentE pre ps p hp) (ih pre ps [] (by simp;omega) (ZoH hp ((Kk.refl _).append (KC _ _))) i (by simp;omega))
  | [],q::qs=>
   rw[YG];simp only[Jf,J6]at B u;have t:Zqb l (pre++q:: []):=ZoH i ((Kk.refl _).append (Kk.cons_cons _ (K3 _)));have:=ih (pre++ [q]) [] qs (by simp;omega) (by simpa using t) (by simpa using i) (by simp;omega);rw[JG,JG]at this;exact .cons (by simp only[Jg,J6];omega) (cameE pre [] q t) this
  |p::ps,q::qs=>
   simp only[Jf]at B u;rw[YG];by_cases t:Zl p.item q.item=Ht;rw[if_pos t];exact .cons (by simp only[Jg,Jf];omega) (wentE pre ps p hp) (ih pre ps (q::qs) (by simp;omega) (ZoH hp ((Kk.refl _).append (KC _ _))) i (by simp;omega));rw[if_neg t];by_cases v:Zl q.item p.item=Ht;rw[if_pos v];obtain⟨J,F⟩:=Zai hp.1;obtain⟨G,K⟩:=Zai i.1;have f:=JQ.1 hp.1;have A:Zqb l (pre++q::p::ps):=by
    refine⟨JQ.2 ⟨f.1,J4.2 ⟨λx z=> ?_,f.2.1⟩,λa w b j=> ?_⟩,λr D=> ?_⟩;rcases Ja.1 z with rfl|z;exact v;exact Ud v (F x z);rcases Ja.1 j with rfl|j;exact G a w;exact f.2.2 a w b j;rcases Jt.1 D with h|h;exact hp.2 r (JK _ h);rcases Ja.1 h with rfl|h;exact i.2 r (by simp);exact hp.2 r (JX _ h)
   have:=ih (pre++ [q]) (p::ps) qs (by simp;omega) (by simpa using A) (by simpa using i) (by simp;omega);rw[JG,JG]at this;exact .cons (by simp only[Jg,Jf];omega) (cameE pre (p::ps) q A) this;rw[if_neg v];have o:p.item=q.item:=by
    rcases Sw p.item q.item with h|h|h;exact absurd h t;exact h;exact absurd h v
   have C:=hp.2 p (by simp);have s:=i.2 q (by simp);have I:(⟨q.item,p.l⟩:Rw)=p:=by rw[<-o]
   have E:=ZlI (l:=l) (N:=N) (hd:=hd) (pre:=pre) (ps:=ps) (it:=q.item) C.2 s.2 (Zry s.1) (by omega);rw[I]at E;have A:Zqb l (pre++q::ps):=by
    refine⟨?_,λr D=> ?_⟩;have f:=JQ.1 hp.1;have y:=J4.1 f.2.1;refine JQ.2 ⟨f.1,J4.2 ⟨λx z=>by rw[<-o];exact y.1 x z,y.2⟩,λa w b j=> ?_⟩;rcases Ja.1 j with rfl|j;rw[<-o];exact f.2.2 a w p (by simp);exact f.2.2 a w b (by simp[j]);rcases Jt.1 D with h|h;exact hp.2 r (JK _ h);rcases Ja.1 h with rfl|h;exact s;exact hp.2 r (JX _ (Jb _ h))
   have:=ih (pre++ [q]) ps qs (by omega) (by simpa using A) (by simpa using i) (by simp;omega);rw[JG,JG]at this;exact E.append this
def Zdr (it:Str) (a b:List En):(Yo it a b).length<=a.length:=by
 unfold Yo;rw[Jk];exact JI (Jz _ _) (by simp)
theorem Zlb:∀(n:Nat) (p q:List Rw),p.length+q.length<=n->(∀r∈p,r.l.length<=16)->(YG p q).length<=8*(p.length+q.length):=by
 intro n;induction n with
 |zero=>
  intro p q f _;obtain rfl:p= []:=Jo (by omega);obtain rfl:q= []:=Jo (by omega);rw[YG];simp
 |succ n ih=>
  intro p q f hp;match p,q with
  | [],[]=>rw[YG];simp
  |p::ps,[]=>
   rw[YG];have:=ih ps [] (by simp at f ⊢;omega) λr a=>hp r (by simp[a])
   simp only[Jf,J6]at *;omega
  | [],q::qs=>
   rw[YG];have:=ih [] qs (by simp at f ⊢;omega) hp;simp only[Jf,J6]at *;omega
  |p::ps,q::qs=>
   rw[YG];simp only[Jf]at f;split;have:=ih ps (q::qs) (by simp;omega) λr a=>hp r (by simp[a])
   simp only[Jf]at *;omega;split;have:=ih (p::ps) qs (by simp;omega) hp;simp only[Jf]at *;omega;have h:=ih ps qs (by omega) λr a=>hp r (by simp[a])
   have i:=Zdr q.item p.l q.l;have j:=hp p (by simp);simp only[Jg,Jf]at *;omega
def Zbr (it:Str) (a:List En):Yo it a a= []:=by
 unfold Yo;rw[List.map_eq_nil_iff,Kz];intro x _;simp
theorem ZcU:∀p:List Rw,YG p p= []
 | []=>by rw[YG]
 |p::ps=>by
  rw[YG,if_neg (by rw[Xs];simp),if_neg (by rw[Xs];simp),Zbr,ZcU ps];rfl
def Znq {l:List Fd} {a b:Dc} (f:Zz l a=Ht) (h:Zz l b=Ht):∃cs:List Cg,W5 l a b=(cs,0)/\cs.length<=6900/\Chain l (a.rows.length+b.rows.length) a cs b:=by
 obtain⟨v,B,j,w,n⟩:=Yk.1 f;obtain⟨_,A,s,t,u⟩:=Yk.1 h;have i:=(ZL.1 v).1;have p:=UX l 0;have q:=UX l 1;refine⟨Yo [] a.head b.head++YG a.rows b.rows,by unfold W5;rw[if_neg (by rw[f,h];simp)],?_,(ZiB (rs:=a.rows) j s (by omega)).append (Zlc (hd:=b.head) (a.rows.length+b.rows.length) [] a.rows b.rows (Kg _) ⟨w,n⟩ ⟨t,u⟩ (by simp))⟩;have x:=Zdr [] a.head b.head;have y:=Zlb _ a.rows b.rows (Kg _) λr o=>by rw[XU (n r o).2];omega
 have z:=XU j;rw[Jg];omega
theorem ZyX {l:List Fd} {a b:Dc} (j:Zz l a=Ht) (n:Zz l b=Ht):
  ∃cs:List Cg,W5 l a b=(cs,0)/\cs.length<=6900/\(S8 l a cs=(b,(cs.length:Int),0)\/(400<a.rows.length+b.rows.length/\(S8 l a cs).2.2=14))/\
   (S8 l b (ZfA cs)=(a,(cs.length:Int),0)\/(400<a.rows.length+b.rows.length/\(S8 l b (ZfA cs)).2.2=14))/\((cs.length:Int)==0)=decide (a=b):=by
 obtain⟨cs,i,f,o⟩:=Znq j n;refine⟨cs,i,f,?_,?_,?_⟩;unfold S8;rw[if_pos j];rcases o.run j 0 with h|h;left;rw[h,K2];exact .inr h;unfold S8;rw[if_pos n];rcases o.back.run n 0 with h|h;left;rw[h,K2,Znb];exact .inr h;cases cs with
 |nil=>rw[decide_eq_true o.eq_of_nil];rfl
 |cons c cs=>
  have e:a≠b:=λe=>by
   subst e;unfold W5 at i;rw[if_neg (by rw[j];simp),Zbr,ZcU]at i;cases i
  rw[decide_eq_false e];simp only[Jf,beq_eq_false_iff_ne,ne_eq];omega
open Go.PL.Srt
inductive Sums (F:List Fd):Dc->List Mo->Dc->Prop
 |nil (x:Dc):Sums F x [] x
 |cons {x x' x'':Dc} {h:Mo} {H:List Mo} (hr:Zz F x=Ht) (ha:S8 F x h.l=(x',(h.l.length:Int),0)) (hn:0<h.l.length) (hb:h.l.length<=6900) (hf:∀c∈h.l,FineB c) (hs:Sums F x' H x''):Sums F x (h::H) x''
theorem Sums.append {F:List Fd}:∀ {x j f:Dc} {H i:List Mo},Sums F x H j->Sums F j i f->Sums F x (H++i) f
 |_,_,_,_,_,.nil _,h2=>h2
 |_,_,_,_,_,.cons a b c d e h,h2=> .cons a b c d e (h.append h2)
def FI {l:List Fd} {d:Dc} (j:Zz l d=Ht):SmallD d:=by
 obtain⟨n,s,h,t,i⟩:=Yk.1 j;have q:=(ZL.1 n).1;have o:=UX l 0;have p:=UX l 1;exact⟨by rw[XU h];omega,by omega,λe a=>by have:=Sz h e a;omega,λr f=>⟨by rw[XU (i r f).2];omega,λe a=>by have:=Sz (i r f).2 e a;omega⟩⟩
def Zhs {m:List Eg} {l:List Opn} {cart:Str} {b:Tg}:(ZF m l cart b).1.rows.length<=l.length:=by
 unfold ZF;split;exact Jh _;split;exact Jh _;split;exact Jh _;have h:(YO (WH m l) cart).length<=(WH m l).length:=Jz _ _;have f:=Ug m l;have a:=G8 (YO (WH m l) cart) cart;simp only[Jk];omega
theorem Zg8 {m:List Eg} (n:OkM m) (p:RightM m) {cart:Str} {b:Tg} {s:List Opn} (w:s.length<=200) (o:Z0 cart=Ht) (q:(YC (Ze m) b).2=0):
  ∀k,k<=s.length->Sums (YC (Ze m) b).1 (ZF m (s.take 0) cart b).1 (FX m (YC (Ze m) b).1 cart b s k) (ZF m (s.take k) cart b).1
 |0,_=> .nil _
 |k+1,hk=>by
  have x:=Zg8 n p w o q k (by omega);have a:∀j,(s.take j).length<=200:=λj=>JI (KE _ _) w
  have i:=Tv n p (cart:=cart) (b:=b) (JI (a k) (by omega)) o q;have y:=Tv n p (cart:=cart) (b:=b) (JI (a (k+1)) (by omega)) o q;have B:=Zhs (m:=m) (l:=s.take k) (cart:=cart) (b:=b);have C:=Zhs (m:=m) (l:=s.take (k+1)) (cart:=cart) (b:=b);have z:=a k;have A:=a (k+1);obtain⟨cs,t,f,u⟩:=Znq i y;have v:=(Zh4 (l:=(YC (Ze m) b).1) (FI i) (FI y)).2;rw[t]at v;rw[SK];have r:ZiT m (YC (Ze m) b).1 cart b s k=if cs= []then []else [⟨(s.getD k Jd).id,cs⟩]:=by
   unfold ZiT;rw[t]
  rw[r];by_cases e:cs= [];rw[if_pos e,Js];have:(ZF m (s.take k) cart b).1=(ZF m (s.take (k+1)) cart b).1:=by
   subst e;exact u.eq_of_nil
  rw[<-this];exact x;rw[if_neg e];refine x.append (.cons i ?_ ?_ f v (.nil _));unfold S8;rw[if_pos i];rcases u.run i 0 with h|⟨h,_⟩;rw[h,K2];omega;exact List.length_pos_iff.2 e
theorem Zj0 {m:List Eg} {F:List Fd} {cart:Str} {b:Tg} {s:List Opn}:∀k,k<=s.length->((FX m F cart b s k).map Mo.id).Sublist ((s.take k).map Opn.id)
 |0,_=>by simp[FX]
 |k+1,hk=>by
  have a:=Zj0 (m:=m) (F:=F) (cart:=cart) (b:=b) (s:=s) k (by omega);rw[SK,ZQ (d:=Jd) (by omega),J5,J5];refine a.append ?_;unfold ZiT;split;exact K3 _;exact Kk.refl _
def ZsC {m:List Eg} {cart:Str} {b:Tg} (p:Z0 cart=Ht) (q:(YC (Ze m) b).2=0):(ZF m [] cart b).1=⟨ZZ (YC (Ze m) b).1 0,[]⟩:=by
 unfold ZF;rw[if_neg (by simp),if_neg (by rw[p];simp),if_neg (by simpa using q)];have a:WH m []= []:=Jo (by have:=Ug m [];simpa using this);have i:∀f:Fd,TB f []=ZD f:=λf=>by
  unfold TB;split;rename_i h;simp[Zhx,ZD];split;rename_i h;simp[Yc,ZD,h];simp[Yc,ZD]
 rw[a];have j:YO [] cart= []:=rfl;rw[j];have n:Wl [] cart= []:=Jo (by have:=G8 [] cart;simpa using this);rw[n];have o:WG m [] b= []:=rfl;rw[o];simp only[JP];congr 1;unfold Us;show _=(Zk _ 0).map ZD;refine List.map_congr_left λf _=> ?_
 exact i f
def ZlA {m:List Eg} {l a:List Opn} (p:a.Perm l) (h:(l.map Opn.id).Nodup):WH m a=WH m l:=by
 have i:(a.map Opn.id).Nodup:=(p.map Opn.id).nodup_iff.2 h;have pr:(Wo m a).Perm (Wo m l):=p.filter _;have f:∀t,X0 (Wo m a) t=X0 (Wo m l) t:=λt=>by
  rw[K5];unfold X0;simp only[Kv];exact⟨λ⟨o,h1,h2⟩=>⟨o,pr.mem_iff.1 h1,h2⟩,λ⟨o,h1,h2⟩=>⟨o,pr.mem_iff.2 h1,h2⟩⟩
 have j:(VP m a).Perm (VP m l):=by
  unfold VP;simp only[f];exact pr.filter _
 symm;exact Zpe UM (ZbQ UM (ZaC i)) ((Wx _).trans j)
def ZnV {m:List Eg} (r:OkM m) (t:RightM m) {l:List Opn} {cart:Str} {b:Tg} (u:l.length<=200) (n:(l.map Opn.id).Nodup) (hv:(ZF m l cart b).2=0):
  (YC (Ze m) b).2=0/\(SY m l cart b).2=0/\Sums (YC (Ze m) b).1 ⟨ZZ (YC (Ze m) b).1 0,[]⟩ (SY m l cart b).1 (ZF m l cart b).1/\((SY m l cart b).1.map Mo.id).Nodup:=by
 obtain⟨p,j⟩:Z0 cart=Ht/\(YC (Ze m) b).2=0:=by
  unfold ZF at hv;split at hv;simp at hv;split at hv;simp at hv;split at hv;rename_i i;exact absurd hv i;rename_i h i;exact⟨by simpa using h,Kh.1 i⟩
 have a:=Wx (lt:=Ya) l;have o:(srt Ya l).length=l.length:=a.length_eq;have q:SY m l cart b=(FX m (YC (Ze m) b).1 cart b (srt Ya l) l.length,0):=by
  unfold SY;rw[if_neg (by rw[hv];simp)]
 rw[q];refine⟨j,rfl,?_,?_⟩;have f:=Zg8 r t (s:=srt Ya l) (by omega) p j l.length (by omega);rw[List.take_zero,ZsC p j,JL (by omega)]at f;have h:ZF m (srt Ya l) cart b=ZF m l cart b:=ZdS (by omega) (by omega) (by rw[ZlA a n]);rw[h]at f;exact f;have f:=Zj0 (m:=m) (F:=(YC (Ze m) b).1) (cart:=cart) (b:=b) (s:=srt Ya l) l.length (by omega);rw[JL (by omega)]at f;exact Kx.sublist f ((a.map Opn.id).nodup_iff.2 n)
def Zf2 (l:List Fd):(Zt l).ids= []:=by simp[Zt,Jy]
def Zjl (c:Cg):(chg c).ids= []:=by simp[chg,Jy,JW]
def Zyv {f:Nat->Nat} (l:List Fd) (c:Cg): [Zt l,.ptr 9 0,chg c]= [Zt l,.ptr 1000 0,chg c].map (JU f gN):=by
 simp only[Jr,JP,Wp _ (Zf2 l),Wp _ (Zjl c)];rfl
def ZA9 {f:Nat->Nat} (c:Cg): [.ptr 9 0,chg c]= [.ptr 1000 0,chg c].map (JU f gN):=by
 simp only[Jr,JP,Wp _ (Zjl c)];rfl
def Zpw {M:KH} {K:KR} {g:FuncId} {args:List PV} {r:PV} {F:List PV->(Nat->Option Row)->(Nat->Option (List PV))->Prop} (a:∃cs Q V,CallS prog g args M.m r { M.m with h:=upd M.m.h 9 (Hs cs),z:=upd M.m.z 9 Hf,q:=Q,v:=V }/\F cs Q V)
  (f:∀cs Q V,F cs Q V->K.k r { M.m with h:=upd M.m.h 9 (Hs cs),z:=upd M.m.z 9 Hf,q:=Q,v:=V }):@V8 prog Ht M (Hs (g,args)) K:=by
 obtain⟨cs,Q,V,h,i⟩:=a;exact Ux h (f cs Q V i)
def Zsu {M:KH} {K:KR} {g:FuncId} {args:List PV} {r:PV} {F:(Nat->Option Row)->(Nat->Option (List PV))->Prop} (a:∃Q V,CallS prog g args M.m r { M.m with q:=Q,v:=V }/\F Q V)
  (f:∀Q V,F Q V->K.k r { M.m with q:=Q,v:=V }):@V8 prog Ht M (Hs (g,args)) K:=by
 obtain⟨Q,V,h,i⟩:=a;exact Ux h (f Q V i)
def Zyt {m:Hp} {d:Dc} (hd:OkDd d) (w:∀i,m.q i=Hn):∃Q V,CallS prog 37 [doc d] m (.agg [.vsl 3000 d.head.length 5,.vsl 3001 d.rows.length 2]) { m with q:=Q,v:=V }/\(∀x∈Up 3001 (nsU d.rows.length) d,Q x.1=Hs x.2)/\ ∀x∈Uq 3001 (nsU d.rows.length) d,V x.1=Hs x.2:=by
 have n:=Zjh d hd.h hd.r hd.e hd.s;let f:Nat->Nat:=λi=>if i=26 then 3001 else i
 have j:∀i,10000<=i->f i=i:=λi B=>if_neg (by omega)
 have key:∀x∈(ZlJ (nsU d.rows.length) d).R,(x.1=26/\f x.1=3001)\/(x.1=3000/\f x.1=3000)\/(10000<=x.1/\f x.1=x.1):=λx h=>by
  rcases Ja.1 h with rfl|h;exact .inl ⟨rfl,rfl⟩;rcases Ja.1 h with rfl|h;exact .inr (.inl ⟨rfl,rfl⟩);have:=(Xi (Y9 h).1).1;exact .inr (.inr ⟨this,j _ this⟩)
 have o:∀x∈(ZlJ (nsU d.rows.length) d).R,∀y∈(ZlJ (nsU d.rows.length) d).R,f x.1=f y.1->x.1=y.1:=λx h y z A=>by
  rcases key x h with ⟨a,b⟩|⟨a,b⟩|⟨a,b⟩<;>rcases key y z with ⟨p,s⟩|⟨p,s⟩|⟨p,s⟩<;>omega
 have u:FitsM noV (ZlJ (nsU d.rows.length) d) f gN m:=⟨by simp,by simp,by simp,by simp,λx h=> .inr (w _),by simp,o⟩;have t:=CallS.of_eff n u (args:= [doc d]) (by simp only[Jr,JP];rw[Wp _ (by simp[doc,ZX,Jy,JW])]);refine⟨(Zbg (ZlJ (nsU d.rows.length) d) f gN m).q,(Zbg (ZlJ (nsU d.rows.length) d) f gN m).v,t,λx h=> ?_,λx h=> ?_⟩;rcases Ja.1 h with rfl|h;exact Zil n.ok1 o (x:=(26,_)) (Ji ..);have:=Zil (m:=m) (g:=gN) n.ok1 o (x:=x) (Jb _ h);rwa[show f x.1=x.1 by
  rcases Ja.1 h with rfl|h;rfl;exact j _ (Xi (Y9 h).1).1]at this
 rcases Ja.1 h with rfl|h;have:=Zim (m:=m) (g:=gN) n.ok1 o (x:=(26,ZO (nsU d.rows.length) d.rows)) (Ji ..);rwa[show((26,ZO (nsU d.rows.length) d.rows):Nat×List PV).2.map (JU f gN)=ZO (nsU d.rows.length) d.rows from T8 λx h=>j _ (Xi h).1]at this;have:=Zim (m:=m) (g:=gN) n.ok1 o (x:=x) (Jb _ h);rcases Ja.1 h with rfl|h;rwa[show((3000,d.head.map ent):Nat×List PV).2.map (JU f gN)=d.head.map ent from Vr _]at this;obtain⟨_,r,_,e⟩:=Yg h;rwa[j _ (Xi (Yg h).1).1,e,Vr,<-e]at this
section
variable {R:Nat} {ns:List Nat} {d:Dc}
def Zh5 (h:ns.Nodup) (f:∀x∈ns,10000<=x) (i:3001<=R) (j:R<10000):∀x∈Up R ns d,upd (upd (Yq ((SW ns d.rows).map λx=>(x.1,Hs x.2)) λ_=>Hn) 3000 (Hs (.vec d.head.length 5 64))) R (Hs (.vec d.rows.length 2 90)) x.1=Hs x.2:=λx a=>by
 rcases Ja.1 a with rfl|a;exact Za _ _ _;rcases Ja.1 a with rfl|a;rw[Zb _ _ (by simp only;omega)];rfl;have n:=f _ (Y9 a).1;rw[Zb _ _ (by omega),Zb _ _ (by omega)];exact Ur h a
def DW (h:ns.Nodup) (f:∀x∈ns,10000<=x) (i:3001<=R) (j:R<10000):∀x∈Uq R ns d,upd (upd (Yq ((D0 ns d.rows).map λx=>(x.1,Hs x.2)) λ_=>Hn) 3000 (Hs (d.head.map ent))) R (Hs (ZO ns d.rows)) x.1=Hs x.2:=λx a=>by
 rcases Ja.1 a with rfl|a;exact Za _ _ _;rcases Ja.1 a with rfl|a;rw[Zb _ _ (by simp only;omega)];rfl;have n:=f _ (Yg a).1;rw[Zb _ _ (by omega),Zb _ _ (by omega)];exact Vh h a
def Znu {i:Nat} (f:i≠R) (h:i≠3000) (j:i∉ns) {a b:Option Row}:upd (upd (Yq ((SW ns d.rows).map λx=>(x.1,Hs x.2)) λ_=>Hn) 3000 a) R b i=none:=by
 rw[Zb _ _ (Qd f),Zb _ _ (Qd h)];exact Gp j
end
structure OkCg (c:Cg):Prop where
 w:c.was.l.length<=1000000
 n:c.now.l.length<=1000000
 l:c.l.length<=100000
 e:∀e∈c.l,e.l.length<=1000000
def OkCg.fine {c:Cg} (h:OkCg c):FineC c:=by
 have e:=Zd;exact⟨by have:=h.w;omega,by have:=h.n;omega,by have:=h.l;omega,λx a=>by have:=h.e x a;omega⟩
def Zrd {l:List Fd} {d:Dc} {cs:List Cg} {k:Nat} (h:k<cs.length):goQ l d (cs.drop k) k=if(Tr l d (cs.getD k Jd)).2=0 then goQ l (Tr l d (cs.getD k Jd)).1 (cs.drop (k+1)) (k+1)else(Jd,(k:Int),(Tr l d (cs.getD k Jd)).2):=by
 rw[JC h,getD_lt h];rfl
section
variable {m:Hp} {R n0 k:Nat} {ns:List Nat} {l:List Fd} {d:Dc} {c:Cg}
def ZtW (n:(Ui l d c).2=0) (y:Zz l d=Ht) (x:l.length<=40) (v:∀f∈l,f.cases'.length<=1000000) (J:FineC c) (w:c.now.l.length<=1000000) (I:DocAt m R ns d) (a:Nam n0 k R ns d) (L:k<=6900):
  ZcI 38 [Zt l,.ptr 9 0,chg c] m 0 n0 k (Ui l d c).1:=by
 have K:=(Dq y x).fine;have M:=ZiJ y x;unfold Ui at n ⊢;split at n;simp at n;rename_i c1;rw[if_neg c1];have c1:c.was.at'=c.now.at':=by simpa using c1
 split at n;rename_i o;exact absurd n o;rename_i o;rw[if_neg o];have o:(Xh d c.item c.now.at').2=0:=by simpa using o
 have z:(Vg d c.item c.now.at').2.2=0:=by rw[<-ZfW];exact o
 split at n;simp at n;rename_i t;rw[if_neg t];have t:(Xh d c.item c.now.at').1=c.was:=by simpa using t
 split at n;simp at n;rename_i u;rw[if_neg u];have u:YF (Zp l c.now.at').1 c.now=true:=by simpa using u
 rcases ZdD (it:=c.item) (r:=c.now.at') y with h|⟨B,s,j,q,E,F,O,G⟩|⟨B,i,s,j,p,P,D,q,E,F,O,G⟩;exact absurd z h;have A:(Zp l c.now.at').2=0:=by unfold Zp;rw[G,if_neg (by omega)]
 have C:Dv d (Vg d c.item c.now.at') c.now=⟨d.head.set s c.now,d.rows⟩:=by
  unfold Dv;rw[F,if_pos (by simp)];rfl
 rw[C];exact Zph (d':=⟨d.head.set s c.now,d.rows⟩) (Zqc l ns d c a.l a.n a.lo x v K M J w c1 o t A u B s q E) I a L (by simp only[Up,Ju]) a.l (Zyv l c);have A:(Zp l c.now.at').2=0:=by unfold Zp;rw[G,if_neg (by omega)]
 have C:Dv d (Vg d c.item c.now.at') c.now=⟨d.head,d.rows.set i ⟨(d.rows.getD i Jd).item,(d.rows.getD i Jd).l.set s c.now⟩⟩:=by
  unfold Dv;rw[F,if_neg (by simp)];simp only[Jl]
 rw[C];refine Zph (d':=⟨d.head,d.rows.set i ⟨(d.rows.getD i Jd).item,(d.rows.getD i Jd).l.set s c.now⟩⟩) (Zqd l ns d c a.l a.n a.lo x v K M J w c1 o t A u B (Yk.1 y).2.2.2.1 i s p D q E) I a L ?_ (by simp only[Ju];exact a.l) (Zyv l c);simp only[Up,Ju];rw[Znw];rw[KZ];simp only[Ju];rw[show(d.rows.getD i Jd).l.length=(d.rows.map λr=>r.l.length)[i]'(by simpa using p)by rw[JJ,getD_lt p]];exact JH _
def Zvt (j:(FN l d c).2=0) (B:Zz l d=Ht) (z:l.length<=40) (r:∀f∈l,f.cases'.length<=1000000) (F:FineC c) (s:c.l.length<=100000) (t:∀e∈c.l,e.l.length<=1000000) (E:DocAt m R ns d) (a:Nam n0 k R ns d) (I:k<=6900) (u:m.q (3002+k)=Hn) (v:m.q (10000+n0+k)=Hn):
  ZcI 39 [Zt l,.ptr 9 0,chg c] m 0 n0 k (FN l d c).1:=by
 have G:=(Dq B z).fine;have A:=ZrZ (Yk.1 B).1 c.item;unfold FN at j ⊢;split at j;rename_i c1;simp at j;rename_i c1;rw[if_neg c1]at A ⊢;split at j;rename_i n;simp at j;rename_i n;rw[if_neg n];have n:X6 d.rows c.item=false:=by simpa using n
 split at j;simp at j;rename_i w;rw[if_neg w];split at j;simp at j;rename_i q;rw[if_neg q];have q:Zo (Zk l 1) c.l=true:=by simpa using q
 have p:10000+n0+k∉ns:=λh=>by have:=a.hi _ h;omega
 have y:=Zvi l ns d c (10000+n0+k) (by omega) p a.l a.n a.lo z r G F s t A n w q _ rfl;have o:=G7 d.rows c.item;have C:(GL (YK d.rows c.item) (⟨c.item,c.l⟩:Rw) d.rows).length=d.rows.length+1:=SF o;have D:ZO (GL (YK d.rows c.item) (10000+n0+k) ns) (GL (YK d.rows c.item) ⟨c.item,c.l⟩ d.rows)=(ZO ns d.rows).take (YK d.rows c.item)++rwN (10000+n0+k) ⟨c.item,c.l⟩::(ZO ns d.rows).drop (YK d.rows c.item):=Zb7 a.l;rw[<-D,<-C]at y;refine Zs8 (d':=⟨d.head,GL (YK d.rows c.item) ⟨c.item,c.l⟩ d.rows⟩) y E a I (λx i=> ?_) (λx i=> ?_) u ⟨?_,Zls a.n p,λx i=> ?_,λx i=> ?_,by omega,by omega⟩ (λx i=>Zq6 a.l i) (λx i=>Zq9 a.l i) (Zyv l c);rcases Jt.1 i with h|h;exact a.lo x h;rw[Jc.1 h];omega;rw[(Zel a.l).1]at i;rcases Jt.1 i with h|h;exact .inl ⟨x,h,rfl⟩;right;split at h;cases h;rw[Jc.1 h];exact v;rw[SF (by have:=a.l;omega),SF o,a.l];rcases Dl i with h|rfl;exact a.lo x h;omega;rcases Dl i with h|rfl;have:=a.hi x h;omega;omega
def Zxm (j:(Zb5 d c).2=0) (A:Zz l d=Ht) (u:l.length<=40) (w:FineC c) (v:DocAt m R ns d) (a:Nam n0 k R ns d) (o:k<=6900) (q:m.q (3002+k)=Hn):
  ZcI 40 [.ptr 9 0,chg c] m 0 n0 k (Zb5 d c).1:=by
 have y:=(Dq A u).fine;unfold Zb5 at j ⊢;split at j;rename_i c1;simp at j;rename_i c1;rw[if_neg c1];have c1:X6 d.rows c.item=true:=by simpa using c1
 have z:YK d.rows c.item<d.rows.length:=by
  unfold X6 at c1;simp only[Je,decide_eq_true_eq]at c1;unfold YK;rw[if_neg (by omega)];rcases Yx (T1 c.item) d.rows with h|⟨k,o,h⟩;have:=c1.1;unfold ZiE at this;omega;unfold ZiE;rw[h];simpa using o
 obtain⟨n',p⟩:∃n',d.rows.length=n'+1:=⟨d.rows.length-1,by omega⟩;split at j;simp at j;rename_i n;rw[if_neg n];have n:(d.rows.getD (YK d.rows c.item) Jd).l=c.l:=by simpa using n
 have r:=Zvl ns d c n' p a.l a.n a.lo y w c1 _ rfl (by omega) n;have s:(ZaO (YK d.rows c.item) d.rows).length=n':=by have:=Zjn z;omega
 have t:ZO (ZaO (YK d.rows c.item) ns) (ZaO (YK d.rows c.item) d.rows)=(ZO ns d.rows).take (YK d.rows c.item)++(ZO ns d.rows).drop (YK d.rows c.item+1):=Zb6 a.l;rw[<-t,<-s]at r;refine Zs8 (d':=⟨d.head,ZaO (YK d.rows c.item) d.rows⟩) r v a o (λx f=>a.lo x f) (λx f=> .inl ⟨x,f,rfl⟩) q ⟨?_,JO.sublist delL_sub a.n,λx f=>a.lo x (Dk f),λx f=>by have:=a.hi x (Dk f);omega,by omega,by omega⟩ (λx f=>Zq5 a.l f) (λx f=>Zq8 a.l f) (ZA9 c);have:=Zjn (l:=ns) (i:=YK d.rows c.item) (by have:=a.l;omega);have:=a.l;simp only;omega
end
structure At (l:List Fd) (n0:Nat) (d0:Dc) (cs:List Cg) (k R:Nat) (ns:List Nat) (d:Dc):Prop where
 le:k<=cs.length
 nm:Nam n0 k R ns d
 r:Zz l d=Ht
 g:goQ l d (cs.drop k) k=goQ l d0 cs 0
def Fq {M:KH} {K:KR} {g:FuncId} {args:List PV} {e:Int} {n0 k:Nat} {d':Dc} (f:ZcI g args M.m e n0 k d')
  (i:∀cs Q V,(e=0-> ∃a ns',Nam n0 (k+1) a ns' d'/\cs= [.vsl 3000 d'.head.length 5,.vsl a d'.rows.length 2]/\(∀x∈Up a ns' d',Q x.1=Hs x.2)/\ ∀x∈Uq a ns' d',V x.1=Hs x.2)->K.k (.int .i64 e) { M.m with h:=upd M.m.h 9 (Hs cs),z:=upd M.m.z 9 Hf,q:=Q,v:=V }):@V8 prog Ht M (Hs (g,args)) K:=Zpw f i
def Zh6 {R:Nat} {ns:List Nat} {d:Dc} {i:Nat} (a:i≠R) (f:i≠3000) (h:i∉ns):Yq ((Up R ns d).map λx=>(x.1,Hs x.2)) (λ_=>Hn) i=none:=Znu (ns:=ns) (d:=d) a f h
theorem Pub.tup3 {K:Ref->Prop} {m:Hp} {a b c f h c':PV} (j:Pub K m a f) (n:Pub K m b h) (o:Pub K m c c'):Pub K m (.tup [a,b,c]) (.tup [f,h,c']):= .tup [a,b,c] [f,h,c'] rfl λi p=>by
 match i,p with
 |0,_=>exact j
 |1,_=>exact n
 |2,_=>exact o
def ZkB (l:List Fd) (d:Dc) (cs:List Cg) (M:l.length<=40) (D:∀f∈l,f.cases'.length<=1000000) (hd:OkDd d) (xa:cs.length<=6900) (hc:∀c∈cs,OkCg c) (Z:Zz l d=Ht) (d2:Dc) (J:goQ l d cs 0=(d2,(cs.length:Int),0)):
  Pp 13 [Zt l,doc d,Zcd cs] (.tup [doc d2,.int .i64 (cs.length:Int),.int .i64 0]):=by
 have X:=U4 l d (by rw[Zd];omega) D hd.fine;rw[Z]at X;have hm:cs.length<=maxLen:=by rw[Zd];omega
 refine PL.Pure.of_p [] func13 (by decide) rfl ntmps13 results13 (by simp) (by simp only[Kr,J7,Zeh,Js]) ?_;simp only[go_sem,Zt,doc,Zcd];refine vc2 X ?_;simp only[go_sem];refine Zsu (Zyt hd (λi=>rfl)) λQ V W=> ?_
 simp only[go_sem];refine Ul (ι:= { x:Nat×Nat×List Nat×Dc // At l d.rows.length d cs x.1 x.2.1 x.2.2.1 x.2.2.2 }) 52 (λx=> [(0,.sl .no (l.map fld)),(2,.sl .no (cs.map chg)),(6,.ptr 6 0),(9,.ptr 9 0),(20,.sl .no (cs.map chg)),(21,.int .i64 (cs.length:Int)),(22,.int .i64 (x.1.1:Int))]) (λx=> [(6,[.sl .nil [],.sl .nil []],Hf),(9,[.vsl 3000 x.1.2.2.2.head.length 5,.vsl x.1.2.1 x.1.2.2.2.rows.length 2],Hf)]) (λx=>Up x.1.2.1 x.1.2.2.1 x.1.2.2.2) (λ_=> []) (λ_=> []) (λx=>Uq x.1.2.1 x.1.2.2.1 x.1.2.2.2) (λ_=> []) [] [] [] (λx=>cs.length-x.1.1) ⟨(0,3001,nsU d.rows.length,d),⟨Jh _,⟨ZeE _,Wn _,λx n=>(Xi n).1,λx n=>(Xi n).2,by simp,by simp⟩,Z,rfl⟩⟩
  ?_ (λx=> ?_) (λx=> ?_)
 exact⟨⟨rfl,(Fc7 rfl rfl rfl rfl rfl rfl rfl),Fc2 ⟨rfl,rfl⟩ ⟨rfl,rfl⟩,λx n=>W.1 x n⟩,by simp,by simp,λx n=>W.2 x n,by simp,by simp,by simp⟩;obtain⟨⟨k,R,ns,d'⟩,Y,a,s,j⟩:=x;have lo:∀x∈ns,10000<=x:=a.lo;refine⟨⟨by simp[Jy,JW,ZR],by simp[Jy,JW,ZR,Up]⟩,λy A=> ?_,by simp,λy A=> ?_,by simp,by simp⟩;rcases Ja.1 A with rfl|A;exact ZdA λx n=>by simp only[Up,Jr,Xf];simp[n]
 have:∃l:List En,y.2=l.map ent:=by
  rcases Ja.1 A with rfl|A;exact⟨_,rfl⟩;obtain⟨_,r,_,e⟩:=Yg A;exact⟨_,e⟩
 obtain⟨l,e⟩:=this;rw[e,Xd YM l];rfl;have:y.1∈R::3000::TY ns d'.rows:=by
  rw[<-VB];rcases Ja.1 A with rfl|A;simp;rcases Ja.1 A with rfl|A;simp;exact Jb _ (Jb _ (Jm.2 ⟨y,A,rfl⟩))
 rw[List.contains_iff_mem];simp only[Up,Jr,Xf];exact this;obtain⟨⟨k,R,ns,d'⟩,Y,a,s,j⟩:=x;simp only at Y a s j ⊢;by_cases h:(k:Int)<(cs.length:Int);have C:k<cs.length:=by omega
 have S:=Wa C hm;have O:=JD k
 have q:=hc _ (Zh (d:=Jd) C);rw[Zrd C]at j;have B:R<10000:=by have:=a.r';omega
 have E:(cs.map chg).getD k .any=chg (cs.getD k Jd):=Zep C;generalize cs.getD k Jd=c at *;have t:=ZdJ (l:=l) (c:=c) s;by_cases F:c.kind=1;have p:Tr l d' c=Ui l d' c:=by unfold Tr;rw[if_pos F]
 have I:(c.kind==1)=true:=by simpa using F
 rw[p]at j t;have o:(Ui l d' c).2=0:=J9 λo=>by
  rw[if_neg o,J]at j;exact o (congrArg (λx=>x.2.2) j)
 rw[if_pos o]at j;simp only[go_sem,h,E,chg,O,I];refine Fq (ZtW o s M D q.fine q.n ⟨rfl,rfl,Zh5 a.n a.lo a.r B,DW a.n a.lo a.r B⟩ a (by omega)) λcs' T U u=> ?_
 obtain⟨G,ns',v,rfl,w,z⟩:=u rfl;simp only[go_sem,S];exact⟨⟨(k+1,G,ns',(Ui l d' c).1),⟨by omega,v,t o,j⟩⟩,nx9 (by omega),⟨rfl,(Fc7 rfl rfl rfl rfl rfl rfl rfl),Fc2 ⟨rfl,rfl⟩ ⟨rfl,rfl⟩,λx n=>w x n⟩,by simp,by simp,λx n=>z x n,by simp,by simp,by simp⟩;by_cases K:c.kind=2;have p:Tr l d' c=FN l d' c:=by unfold Tr;rw[if_neg F,if_pos K]
 have I:(c.kind==1)=false:=by simpa using F
 have L:(c.kind==2)=true:=by simpa using K
 rw[p]at j t;have o:(FN l d' c).2=0:=J9 λo=>by
  rw[if_neg o,J]at j;exact o (congrArg (λx=>x.2.2) j)
 rw[if_pos o]at j;simp only[go_sem,h,E,chg,O,I,L];refine Fq (Zvt o s M D q.fine q.l q.e ⟨rfl,rfl,Zh5 a.n a.lo a.r B,DW a.n a.lo a.r B⟩ a (by omega) (Zh6 (R:=R) (ns:=ns) (d:=d') (i:=3002+k) (by have:=a.r';omega) (by omega) (λh=>by have:=a.lo _ h;omega)) (Zh6 (R:=R) (ns:=ns) (d:=d') (i:=10000+d.rows.length+k) (by omega) (by omega) (λh=>by have:=a.hi _ h;omega))) λcs' T U u=> ?_
 obtain⟨G,ns',v,rfl,w,z⟩:=u rfl;simp only[go_sem,S];exact⟨⟨(k+1,G,ns',(FN l d' c).1),⟨by omega,v,t o,j⟩⟩,nx9 (by omega),⟨rfl,(Fc7 rfl rfl rfl rfl rfl rfl rfl),Fc2 ⟨rfl,rfl⟩ ⟨rfl,rfl⟩,λx n=>w x n⟩,by simp,by simp,λx n=>z x n,by simp,by simp,by simp⟩;by_cases P:c.kind=3;have p:Tr l d' c=Zb5 d' c:=by unfold Tr;rw[if_neg F,if_neg K,if_pos P]
 have I:(c.kind==1)=false:=by simpa using F
 have L:(c.kind==2)=false:=by simpa using K
 have b3:(c.kind==3)=true:=by simpa using P
 rw[p]at j t;have o:(Zb5 d' c).2=0:=J9 λo=>by
  rw[if_neg o,J]at j;exact o (congrArg (λx=>x.2.2) j)
 rw[if_pos o]at j;simp only[go_sem,h,E,chg,O,I,L,b3];refine Fq (Zxm o s M q.fine ⟨rfl,rfl,Zh5 a.n a.lo a.r B,DW a.n a.lo a.r B⟩ a (by omega) (Zh6 (R:=R) (ns:=ns) (d:=d') (i:=3002+k) (by have:=a.r';omega) (by omega) (λh=>by have:=a.lo _ h;omega))) λcs' T U u=> ?_
 obtain⟨G,ns',v,rfl,w,z⟩:=u rfl;simp only[go_sem,S];exact⟨⟨(k+1,G,ns',(Zb5 d' c).1),⟨by omega,v,t o,j⟩⟩,nx9 (by omega),⟨rfl,(Fc7 rfl rfl rfl rfl rfl rfl rfl),Fc2 ⟨rfl,rfl⟩ ⟨rfl,rfl⟩,λx n=>w x n⟩,by simp,by simp,λx n=>z x n,by simp,by simp,by simp⟩;have p:Tr l d' c=(d',2):=by unfold Tr;rw[if_neg F,if_neg K,if_neg P]
 rw[p,if_neg (show ¬((2:Int)=0)by decide),J]at j;exact absurd (congrArg (λx=>x.2.2) j) (show ¬((2:Int)=0)by decide);obtain rfl:k=cs.length:=by omega
 rw[JY]at j;have j:(d',(cs.length:Int),0)=goQ l d cs 0:=j;obtain rfl:d'=d2:=by rw[J]at j;exact congrArg (λx=>x.1) j
 have B:R<10000:=by have:=a.r';omega
 simp only[go_sem,h];refine⟨_,rfl,Pub.tup3 (DocIn.agg (b:=9) (R:=R) (ns:=ns) ⟨rfl,rfl,?_,?_,λx n=> ?_,a.l⟩) (.clean rfl) (.clean rfl)⟩;exact DW (d:=d') a.n a.lo a.r B (3000,_) (Jb _ (Ji ..));exact DW (d:=d') a.n a.lo a.r B (R,_) (Ji ..);exact DW (d:=d') a.n a.lo a.r B x (Jb _ (Jb _ n))
def ZnS (m:List Eg) (F:List Fd) (cart:Str) (b:Tg):List Opn->Dc->List Opn->List Mo->List Mo×Int
 |_,_,[],acc=>(acc,0)
 |ah,was,o::s,acc=>
  if Zby m o cart=Hf then ZnS m F cart b ah was s acc
  else if(ZF m (ah++ [o]) cart b).2≠0 then([],(ZF m (ah++ [o]) cart b).2)
  else if(Zh3 F was (ZF m (ah++ [o]) cart b).1).2≠0 then([],(Zh3 F was (ZF m (ah++ [o]) cart b).1).2)
  else ZnS m F cart b (ah++ [o]) (ZF m (ah++ [o]) cart b).1 s (if(Zh3 F was (ZF m (ah++ [o]) cart b).1).1= []then acc else acc++ [⟨o.id,(Zh3 F was (ZF m (ah++ [o]) cart b).1).1⟩])
theorem ZnT {m:List Eg} (j:OkM m) {F:List Fd} {cart:Str} {b:Tg}:∀(s i:List Opn) (a:Dc) (f:List Mo),OkDd a->FU m F cart b i a s f=ZnS m F cart b i a s f
 | [],i,a,f,h=>rfl
 |o::s,i,a,f,h=>by
  have hv:=Zaq (m:=m) (l:=i++ [o]) (cart:=cart) (b:=b) j;have hd:W5 F a (ZF m (i++ [o]) cart b).1=Zh3 F a (ZF m (i++ [o]) cart b).1:=ZqT (by have:=h.r;have:=hv.r;omega);unfold FU ZnS;rw[hd,ZnT j s i a f h,ZnT j s (i++ [o]) (ZF m (i++ [o]) cart b).1 _ hv]
def awP:Opn:=⟨⟨1,2⟩,Jd,2,[97],3,[112,101,97,114],⟨1,[],[113,116,121]⟩,3,Hf,[],[]⟩
def Zcc:Dc:=⟨[⟨⟨0,[],[99,111,117,112,111,110]⟩,0,[[]]⟩],[⟨[112,101,97,114],[⟨⟨1,[],[110,111,116,101]⟩,0,[[]]⟩,⟨⟨1,[],[113,116,121]⟩,3,[]⟩,⟨⟨1,[],[115,105,122,101]⟩,0,[[109,101,100,105,117,109]]⟩,⟨⟨1,[],[116,97,103,115]⟩,0,[]⟩]⟩]⟩
def awC:Cg:=⟨2,[112,101,97,114],Jd,Jd,[⟨⟨1,[],[110,111,116,101]⟩,0,[[]]⟩,⟨⟨1,[],[113,116,121]⟩,0,[]⟩,⟨⟨1,[],[115,105,122,101]⟩,0,[[109,101,100,105,117,109]]⟩,⟨⟨1,[],[116,97,103,115]⟩,0,[]⟩]⟩
def awO38:Cg:=⟨1,[112,101,97,114],⟨⟨1,[],[113,116,121]⟩,0,[]⟩,⟨⟨1,[],[113,116,121]⟩,3,[]⟩,[]⟩
def awH:List Mo:= [⟨⟨1,1⟩,[awC]⟩,⟨⟨1,2⟩,[awO38]⟩]
def awV:ZF [] [awP,svA] [97] Jd=(Zcc,0):=by decide+kernel
def ZAX:Xh Zcc [112,101,97,114] ⟨1,[],[113,116,121]⟩=(⟨⟨1,[],[113,116,121]⟩,3,[]⟩,0):=by decide+kernel
def ZAY:Xh Zcc [112,101,97,114] ⟨1,[],[110,111,116,101]⟩=(⟨⟨1,[],[110,111,116,101]⟩,0,[[]]⟩,0):=by decide+kernel
def ZAZ:ZnS [] (YC (Ze []) Jd).1 [97] Jd [] (ZF [] [] [97] Jd).1 (srt Ya [awP,svA]) []=(awH,0):=by decide+kernel
def ZA0:Zcj [] [awP,svA] [97] Jd=(awH,0):=by
 unfold Zcj;rw[if_neg (by rw[awV];simp),if_neg (by decide+kernel),if_neg (by decide+kernel),ZnT Gz _ _ _ _ (Zaq Gz),ZAZ]
def ZzA:∀o∈ [awP,svA],OkOp o:=by
 intro o a;simp only[Ja,JA,or_false]at a;rcases a with rfl|rfl<;>exact⟨by decide⟩
def Zjk:Zfd Zcc/\Zfq Zcc:=by
 refine⟨⟨by rw[Zd];decide,by rw[Zd];decide,?_,?_⟩,?_,?_⟩<;>simp[Zcc,Zd]
def ZAV:(awH.reverse.find? (Zp0 [112,101,97,114] ⟨1,[],[113,116,121]⟩)).elim Jd Mo.id=⟨1,2⟩:=by decide+kernel
def ZAW:(awH.reverse.find? (Zp0 [112,101,97,114] ⟨1,[],[110,111,116,101]⟩)).elim Jd Mo.id=⟨1,1⟩:=by decide+kernel
def Zoz (c:Cg):(chg c).nomap=true:=by simp only[chg,KQ,KJ,SM,VE _ ZoA,Kc]
def ZrB (x:Mo):(mo x).nomap=true:=by simp only[mo,KQ,KJ,VE _ Zoz,Kc]
def ZlF (x:List Mo×Int):(Zdl x).nomap=true:=by simp only[Zdl,mos,KQ,KJ,VE _ ZrB,Kc]
def Zgx (x:Tg×Int):(tgc x).nomap=true:=by simp only[tgc,tg,KQ,KJ,Kc]
def W4:Pp 4 [] (.bool Ht):=by
 have o:=VM [] [awP,svA] [97] Jd Gz ZbF (by simp) ZzA (by decide);have h:=Zfc Zcc [112,101,97,114] ⟨1,[],[113,116,121]⟩ Zjk.1 Zjk.2;have i:=Zfc Zcc [112,101,97,114] ⟨1,[],[110,111,116,101]⟩ Zjk.1 Zjk.2;have n:=Zfe [] awP [svA] [97] Jd Gz ZbF (by simp) ZzA (by decide);rw[awV]at o;rw[ZAX]at h;rw[ZAY]at i;rw[ZA0]at n;have j:∀x∈awH,x.l.length<=1000000:=by
  intro x j;simp only[awH,Ja,JA,or_false]at j;rcases j with rfl|rfl<;>simp
 have a:=Zcy [] [awP,svA] [97] Jd _ _ Zcc _ awH o h n (by simp[awH]) j;have f:=Zcy [] [awP,svA] [97] Jd _ _ Zcc _ awH o i n (by simp[awH]) j;rw[ZAV]at a;rw[ZAW]at f;have s:=ZlF (awH,0);have t:=Zgx (⟨1,2⟩,0);have u:=Zgx (⟨1,1⟩,0);have r:awH.map mo= [mo ⟨⟨1,1⟩,[awC]⟩,mo ⟨⟨1,2⟩,[awO38]⟩]:=rfl;have p:awC.kind=2:=rfl;have q:awO38.kind=1:=rfl;generalize awC=C at *;generalize awO38=O at *;refine PL.Pure.of_vs func4 (by decide) rfl ntmps4 results4 (by simp) rfl ?_;simp only[go_sem];refine Zkq ZsU ?_ ?_ (λb v=> ?_);simp only[go_sem];simp only[go_sem];simp only[go_sem];refine Zao n s ?_ ?_ ?_;simp only[go_sem];simp only[go_sem,mc];rfl;simp only[go_sem,Zdl,mos,r];refine Zao a t ?_ ?_ ?_;simp only[go_sem];simp only[go_sem,mc];rfl;simp only[go_sem,tgc,tg];refine Zao f u ?_ ?_ ?_;simp only[go_sem];simp only[go_sem,mc];rfl;simp only[go_sem,tgc,tg,mo,chg,p,q];exact⟨_,rfl,rfl⟩
def ZtT {c:Cg} (h:FineB c):OkCg c:=⟨by have:=h.w;omega,by have:=h.n;omega,by have:=h.l;omega,λe a=>by have:=h.e e a;omega⟩
theorem Zyj {H:List Mo} (o:(H.map Mo.id).Nodup) {j k:Nat} (n:j<k) (i:k<H.length):((H.getD j Jd).id.r==(H.getD k Jd).id.r&&(H.getD j Jd).id.n==(H.getD k Jd).id.n)=false:=by
 have h:=Jj.1 o j k (by simpa using Nat.lt_trans n i) (by simpa using i) n;rw[JJ,JJ]at h;rw[getD_lt (by omega),getD_lt i];cases f:(H[j].id.r==H[k].id.r&&H[j].id.n==H[k].id.n)with
 |false=>rfl
 |true=>
  simp only[Je,beq_iff_eq]at f;exfalso;apply h;generalize H[j].id=a at *;generalize H[k].id=c at *;obtain⟨p,q⟩:=a;obtain⟨c1,r⟩:=c;simp only at f;rw[f.1,f.2]
theorem Zd0 (l:List Eg) (ops:List Opn) (cart:Str) (b:Tg) (hl:l.length<=maxLen) (hx:∀e∈l,LenLn e.ln) (B:ops.length<=maxLen):Pp 3 [egs l,Z1 ops,.str cart,tg b] (.bool Ht):=by
 have n:=Zfj l 50 hl hx;have q:=Zb8 ops 20 B;have s:=ZhF ops B;cases W:Zbb l 50;rw[W]at n;cases r:Tf ops 20;rw[r]at q;cases T:apartB ops;rw[T]at s;refine ZM func3 rfl ntmps3 results3 ?_;simp only[go_sem,egs,Z1,tg];refine vc1 W4 ?_;simp only[go_sem];refine vc3 n ?_;simp only[go_sem];refine vc7 q ?_;simp only[go_sem];refine vc7 s ?_;simp only[go_sem];rw[T]at s;have I:(ops.map Opn.id).Nodup:=of_decide_eq_true T;obtain⟨o1,o2⟩:=okL W;obtain⟨p1,p2⟩:=Zyr (most:=20) r;have hG:=ZkK l (by omega) o2;have p:OkM (VX l):=Zix _ Gz o2;have J:RightM (VX l):=Zdw _ ZbF;generalize VX l=m at *;have v:Zfd (ZF m ops cart b).1:=(Zaq p).fine;have Q:=VM m ops cart b p J (by omega) p2 I;have i:=Zp9 m ops cart b p J (by omega) p2 I;rw[ZnU p J I]at i;have E:(SY m ops cart b).2=(ZF m ops cart b).2:=by
  unfold SY;split<;>simp_all
 by_cases hv:(ZF m ops cart b).2=0;obtain⟨k1,k2,k3,k4⟩:=ZnV p J (l:=ops) (by omega) I hv;have o:=Y6 m b p;have O:=Zdq p (a:=b) k1;unfold YX at o;rw[k1]at o;have xc:(SY m ops cart b).1.length<=100000:=by
  unfold SY;split;exact Jh _;exact JI (Zgm _ _ _ _ _ _) (by omega)
 have S:Pp 9 [tr (Ze m),Z1 ops,.str cart,tg b] (Zcg ((ZF m ops cart b).1,0)):=by rw[<-hv];exact Q
 have xa:Pp 10 [tr (Ze m),Z1 ops,.str cart,tg b] (Zdl ((SY m ops cart b).1,0)):=by rw[<-k2];exact i
 have M:=Zcz (YC (Ze m) b).1 (by have:=O.n;omega);have P:=O.c;clear Q i E hv k1 k2 O;generalize (SY m ops cart b).1=H at *;generalize (ZF m ops cart b).1=D at *;generalize (YC (Ze m) b).1=F at *;have u:=ZhJ D D v v;rw[decide_eq_true rfl]at u;have t:H.length<=maxLen:=by rw[Zd];omega
 refine ZM func3 rfl ntmps3 results3 ?_;simp only[go_sem,egs,Z1,tg];refine vc1 W4 ?_;simp only[go_sem];refine vc3 n ?_;simp only[go_sem];refine vc7 q ?_;simp only[go_sem];refine vc7 s ?_;simp only[go_sem];refine vc3 hG ?_;simp only[go_sem,grv];refine vc7 (S) ?_;simp only[go_sem,Zcg,doc];refine vc7 xa ?_;simp only[go_sem,Zdl,mos];refine vc5 o ?_;simp only[go_sem,Zt];refine vc2 M ?_;simp only[go_sem,doc];refine ZA (ι:= { x:Nat×Dc // x.1<=H.length/\Sums F x.2 (H.drop x.1) D }) 121 (λx=> [(12,.ptr 12 0),(14,mos H),(16,Zt F),(18,.ptr 18 0),(19,.int .i64 (x.1.1:Int))]) (λx=> [(12,[.sl .no (D.head.map ent),.sl .no (D.rows.map row)],Hf),(18,[.sl .no (x.1.2.head.map ent),.sl .no (x.1.2.rows.map row)],Hf)]) (λx=> []) (λx=>H.length-x.1.1) ⟨(0,⟨ZZ F 0,[]⟩),Jh _,k3⟩
  ⟨rfl,(Fc5 rfl rfl rfl rfl rfl),Fc2 ⟨rfl,rfl⟩ ⟨rfl,rfl⟩,fnl⟩ (λx=>⟨(Fc5 rfl rfl rfl rfl rfl),by simp[Jy,JW,ZR]⟩) (λx=> ?_)
 obtain⟨⟨k,x⟩,hk,C⟩:=x;simp only at hk C ⊢;by_cases h:(k:Int)<(H.length:Int);have f:k<H.length:=by omega
 have w1:=Wa f t;have i1:=JD k
 have w:=Zeq (l:=H) f;have X:=λj (r:j<k)=>Zyj k4 r f
 rw[JC f,<-getD_lt (d:=Jd) f]at C;generalize hy:H.getD k Jd=y at *;cases C with
 |cons r0 K r2 r3 r4 r5=>
  rename_i G;have K:S8 F x y.l=(G,(y.l.length:Int),0):=K;have xb:=(ZL.1 (Yk.1 r0).1).1;have hP:=ZkB F x y.l (by omega) P (Dq r0 (by omega)) r3 (λc hc=>ZtT (r4 c hc)) r0 G (by unfold S8 at K;rwa[if_pos r0]at K);have hz:((y.l.length:Int)==0)=false:=by rw[beq_eq_false_iff_ne];omega
  simp only[go_sem,Zt,mos,h];refine vDq ?_;simp only[go_sem,h,w,i1,mo];refine vc8 hP ?_;simp only[go_sem,doc,hz];refine ZA (ι:= { j:Nat // j<=k }) 121 (λz=> [(12,.ptr 12 0),(14,mos H),(16,Zt F),(18,.ptr 18 0),(19,.int .i64 (k:Int)),(23,.int .i64 (z.1:Int))]) (λz=> [(12,[.sl .no (D.head.map ent),.sl .no (D.rows.map row)],Hf),(18,[.sl .no (G.head.map ent),.sl .no (G.rows.map row)],Hf)]) (λz=> []) (λz=>k-z.1) ⟨0,Jh _⟩
   ⟨rfl,(Fc6 rfl rfl rfl rfl rfl rfl),Fc2 ⟨rfl,rfl⟩ ⟨rfl,rfl⟩,fnl⟩ (λz=>⟨(Fc6 rfl rfl rfl rfl rfl rfl),by simp[Jy,JW,ZR]⟩) (λz=> ?_)
  obtain⟨j,r⟩:=z;simp only
  by_cases L:(j:Int)<(k:Int)
  ·have Y:j<k:=by omega
   have A:j<H.length:=by omega
   have w2:=Wa A t;have j1:=JD j
   have j2:(j:Int)<(H.length:Int):=by omega
   have U:=Zeq (l:=H) A;have Z:=X j Y;simp only[go_sem,L,mos];refine vDq ?_;simp only[go_sem,L,h,U,w,i1,j1,j2,mo,Z,w2];exact⟨⟨j+1,by omega⟩,by show k-(j+1)<k-j;omega,⟨rfl,(Fc6 rfl rfl rfl rfl rfl rfl),Fc2 ⟨rfl,rfl⟩ ⟨rfl,rfl⟩,fnl⟩⟩
  ·simp only[go_sem,L,w1];exact⟨⟨(k+1,G),by omega,r5⟩,nx9 (by omega),⟨rfl,(Fc5 rfl rfl rfl rfl rfl),Fc2 ⟨rfl,rfl⟩ ⟨rfl,rfl⟩,fnl⟩⟩
 obtain rfl:k=H.length:=by omega
 rw[JY]at C;cases C;simp only[go_sem,Zt,mos,h];refine vc1 u ?_;simp only[go_sem];have e1:((ZF m ops cart b).2 !=0)=true:=by simpa using hv
 have e2:((ZF m ops cart b).2 !=(ZF m ops cart b).2)=false:=by simp
 have e3:(SY m ops cart b).1= []:=by unfold SY;rw[if_pos hv]
 rw[show SY m ops cart b=([],(ZF m ops cart b).2)by rw[<-e3,<-E]]at i;generalize ZF m ops cart b=V at *;obtain⟨vd,vc⟩:=V;simp only at e1 e2;refine ZM func3 rfl ntmps3 results3 ?_;simp only[go_sem,egs,Z1,tg];refine vc1 W4 ?_;simp only[go_sem];refine vc3 n ?_;simp only[go_sem];refine vc7 q ?_;simp only[go_sem];refine vc7 s ?_;simp only[go_sem];refine vc3 hG ?_;simp only[go_sem,grv];refine vc7 Q ?_;simp only[go_sem,Zcg,doc];refine vc7 i ?_;simp only[go_sem,Zdl,mos,e1,e2];rw[r]at q;refine ZM func3 rfl ntmps3 results3 ?_;simp only[go_sem,egs,Z1,tg];refine vc1 W4 ?_;simp only[go_sem];refine vc3 n ?_;simp only[go_sem];refine vc7 q ?_;simp only[go_sem];rw[W]at n;refine ZM func3 rfl ntmps3 results3 ?_;simp only[go_sem,egs,Z1,tg];refine vc1 W4 ?_;simp only[go_sem];refine vc3 n ?_;simp only[go_sem]
end Go.Proofs.YtcmpkokndngplaaGreat
