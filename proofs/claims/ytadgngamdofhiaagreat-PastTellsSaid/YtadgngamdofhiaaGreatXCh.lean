/- Lemmas of the proof. -/
import Derived.Test.YtadgngamdofhiaaGreatPlH
import Derived.Test.YtadgngamdofhiaaGreatXAa
import Derived.Test.YtadgngamdofhiaaGreatXAo
import Derived.Test.YtadgngamdofhiaaGreatXBc
import Derived.Test.YtadgngamdofhiaaGreatXBr
set_option maxHeartbeats 64000000
set_option maxRecDepth 20000
set_option linter.unusedVariables false
set_option linter.unusedSimpArgs false
open Inhabited renaming default→Jd
open Option renaming some→Hs
open Bool renaming true→Ht,false→Hf
open Go.Proofs.Tryz
open Go Go.PL
open _root_.Array renaming getElem?_eq_some_iff→JL,getElem?_modify→KD
open BelowF renaming refl→Qi
open Bool renaming and_eq_true→Jj,false_eq_true→JV,and_self→Kf,false_and→Kj,and_false→Kk,eq_iff_iff→KB,or_eq_false_iff→KJ,eq_false_iff→KU,not_eq_true'→KY,or_eq_true→K6,and_true→Qa
open Classical renaming not_not→JX
open Decidable renaming byContradiction→Kr,not_not→K1
open Int renaming natCast_nonneg→Jg,le_refl→JU,toNat_natCast→Ka,mul_le_mul_of_nonneg_right→Ke,mul_le_mul_of_nonneg_left→Kh,mul_comm→K3
open List renaming length_append→Ja,length_map→Jb,filter_cons_of_neg→Jc,map_append→Je,filter_cons_of_pos→Jf,length_cons→Jh,mem_singleton→Ji,take_of_length_le→Jk,append_nil→Jl,length_filter_le→Jm,mem_map→Jo,mem_filter→Jp,length_nil→Jq,map_cons→Jr,mem_cons→Jt,append_assoc→Jv,length_take_le→Jw,pairwise_cons→Jy,mem_append→Jz,getD_cons_zero→JA,filter_append→JB,length_take→JC,getElem_of_mem→JD,getElem_map→JE,getElem_append_left→JF,filterMap_cons_some→JG,flatMap_cons→JH,takeWhile_cons→JI,take_length→JJ,length_drop→JK,getElem_range→JM,mem_range→JN,find?_eq_none→JO,findIdx?_eq_some_iff_getElem→JP,pairwise_iff_getElem→JQ,filterMap_cons_none→JR,filter_sublist→JS,foldl_cons→JW,getD_eq_getElem?_getD→JZ,getElem_mem→J2,all_eq_true→J3,findIdx?_eq_none_iff→J4,getElem?_eq_getElem→J5,Pairwise→J6,filter_filter→J7,filter_eq_nil_iff→J8,map_nil→J9,take_append_drop→Kb,ext_getElem→Kc,range→Kd,mem_cons_of_mem→Kg,Nodup→Ki,mem_cons_self→Kl,mem_filterMap→Kn,mem_mergeSort→Ko,drop_eq_getElem_cons→Kq,foldl_append→Ks,filter_congr→Kt,map_take→Ku,getElem_set→Kv,length_eq_zero_iff→Kw,not_mem_nil→Ky,length_set→KC,takeWhile_prefix→KE,singleton_append→KF,pairwise_append→KL,getElem_set_ne→KN,getD_cons_succ→KO,finRange→KP,findIdx?_cons→KQ,pairwise_map→KT,size_toArray→KX,take_sublist→KZ,getElem_take→K0,getElem?_map→K2,any_eq_true→K4,nil_append→K5,findIdx?→Qb,map_drop→Qd,set_set→Qe,Sublist→Qg,set→Qj,map_id→Qk,take→Qn,drop→Qo,cons→Qp
open Nat renaming zero_le→Jn,le_trans→Js,le_refl→KG,add_zero→KW,lt_or_ge→Qf,mul_one→Qh
open Op renaming bytesLess→KA
open Option renaming some→KK,map_map→K8
open PV renaming ids→Ju,sl→JT,str→JY,didsL→Kx,idsL→Kz,givableL→KI,dids→KM,giveL→K9,agg→Ql,givable→Qm,ren→Qq,any→Qr
open Prod renaming ext→Km,mk→K7,fst→Qs
namespace Go.Proofs.YtadgngamdofhiaaGreat
open Go.PL
theorem FK {o:Opn} (h:ZK o=Ht):o.kind=3\/o.kind=4:=by simpa[ZK]using h
theorem Fa {x:Ln} {o:Opn} (hx:ZI x=Ht) (h:ZK o=Hf):XS x o=(o,Ht):=by
 unfold XS;rw[if_neg (by rw[hx];simp),if_pos];simpa[ZK]using h
open Go.PL Go.PL.Srt
def X8 (m:List Eg) (l:List Opn):List Opn:=l.filter λo=>X9 m o
def XQ (l:List Opn) (t:Tg):Bool:=l.any λo=>decide (t∈o.drops)
def UL (m:List Eg) (l:List Opn):List Opn:=(X8 m l).filter λo=> !XQ (X8 m l) o.id
def Xk (m:List Eg) (l:List Opn):List Opn:=srt ZJ (UL m l)
theorem Zbx (m:List Eg) (l:List Opn):(X8 m l).Sublist l:=JS
theorem UM (m:List Eg) (l:List Opn):(UL m l).Sublist l:=JS.trans (Zbx m l)
theorem ZbQ {l:List Opn} (h:(l.map Opn.id).Nodup):Unl ZJ l:=by
 rw[List.nodup_iff_pairwise_ne,KT]at h;exact h.imp λh=>ZnE h
theorem G2 (m:List Eg) (l:List Opn):(Xk m l).Perm (UL m l):=WQ _
theorem Uv (m:List Eg) (l:List Opn):(Xk m l).length<=l.length:=by rw[(G2 m l).length_eq];exact(UM m l).length_le
theorem Zi8 {m:List Eg} {l:List Opn} {o:Opn} (h:o∈Xk m l):o∈l:=(UM m l).mem ((G2 m l).mem_iff.1 h)
theorem ZfE (t:Tg):∀(l:List Tg) (i:Nat),Tn [.int,.int] [.int .i64 t.r,.int .i64 t.n] (l.map tg) i=Hs ((l.findIdx? λx=>decide (t=x)).map (· + i))
 | [],i=>rfl
 |n::l,i=>by
  have ih:=ZfE t l (i+1);simp only[Jr,tg,Tn,ZS,UV,if_true,KQ,Qa,Z4];by_cases h:t=n;simp[h];simp only[h,decide_false,ih];simp only[JV,if_false,K8];congr 2;funext x;simp;omega
theorem SC (t:Tg) (l:List Tg):Tn [.int,.int] [.int .i64 t.r,.int .i64 t.n] (l.map tg) 0=Hs (l.findIdx? λx=>decide (t=x)):=by
 rw[ZfE];congr 1;cases Qb (λx=>decide (t=x)) l<;>rfl
theorem Zec {t:Tg} {l:List Tg}:(l.findIdx? λx=>decide (t=x))=none↔t∉l:=by
 rw[J4];constructor;intro h hm;have:=h t hm;simp at this;intro h x hx;simp only[decide_eq_false_iff_not];intro e;exact h (e▸hx)
theorem Zk8 (m:List Eg) {l:List Opn} {k:Nat} (h:k<l.length):X8 m (l.take (k+1))=X8 m (l.take k)++(if X9 m (l.getD k Jd)=Ht then [l.getD k Jd]else []):=by
 unfold X8;rw[Z0 (d:=Jd) h,JB];congr 1;generalize l.getD k Jd=x;cases hr:X9 m x;rw[Jc (by rw[hr];simp),if_neg (by simp)];rfl;rw[Jf (by exact hr),if_pos rfl];rfl
structure LivS (m:List Eg) (l:List Opn) where
 k:Nat
 ks:List Tg
 hk:k<=l.length
 h:∀t,t∈ks↔XQ (X8 m (l.take k)) t=Ht
def tgm (ks:List Tg):MapC:=⟨ks.map tg,ks.map λ_=> .agg []⟩
theorem Zky (l:List Opn) (o:Opn) (t:Tg):XQ (l++ [o]) t=Ht↔XQ l t=Ht\/t∈o.drops:=by simp[XQ]
theorem Zle {i:Nat} {l:List Tg}:(l.map λ_=>Ql []).set i (Ql [])=l.map λ_=>Ql []:=by
 apply Kc;simp;intro j h1 h2;rw[Kv];split<;>simp
theorem Zda (m:List Eg) (l:List Opn) (hm:OkM m) (hl:l.length<=20) (ho:∀o∈l,OkOp o) (hU:(l.map Opn.id).Nodup):
  Eff prog 68 [tr (Zd m),Zu l] noV (.vsl 63 (Xk m l).length 15) (ZiA 63 (Xk m l).length 15 62 ((Xk m l).map opv)):=by
 have hcl:∀l:List Opn,∀p∈l.map opv,p.ids= []:=λl=>WJ UE l
 refine Eff.vn [63] func68 (by decide) rfl ntmps68 results68 (by simp) (hcl _) (by simp[Ju,tr,Zu]) (by simp[Ju]) ?_;have hlm:l.length<=maxLen:=by rw[Zb];omega
 simp only[go_sem,tr,Zu];intro b;refine Y8 5 32 15 62 rfl rfl ?_;refine SZ (ι:=LivS m l) 68 (λx=> [(0,tr (Zd m)),(5,.sl (.row 32) ((X8 m (l.take x.k)).map opv)),(6,.mref b),(19,Zu l),(20,.int .i64 (l.length:Int)),(21,.int .i64 (x.k:Int))]) (λ_=> []) (λx=> [(32,.live (X8 m (l.take x.k)).length 15 62)]) (λx=> [(b,tgm x.ks)]) (λ_=> []) (λ_=> []) (λ_=> []) [] [] [63] (λx=>l.length-x.k) ⟨0,[],Jn _,λt=>by simp[XQ,X8]⟩
  (Zc3 rfl (Fc6 rfl rfl rfl rfl rfl rfl) rfl (by simp[upd,Hp.setq,St.with,tgm])) (λx=>ZjL (Fc6 rfl rfl rfl rfl rfl rfl)) (λx=> ?_)
 obtain⟨k,ks,hk,h⟩:=x;simp only;by_cases hlt:(k:Int)<(l.length:Int);have hka:k<l.length:=by omega
 have i0:=Jg k
 have w1:=wk9 (k:=k) (by omega)
 have hR:=Zhg m (l.getD k Jd) hm (ho _ (Zp hka));have hsn:=Zk8 m hka;have hrl:(X8 m (l.take k)).length<=100000:=Js (Js (Zbx _ _).length_le (Jw _ _)) (by omega);cases hrd:X9 m (l.getD k Jd);rw[hrd]at hR;rw[hrd]at hsn;simp only[JV,if_false,Jl]at hsn;simp only[go_sem,Zu,hlt,Zw hka,opv,i0];refine vc7 hR ?_;simp only[go_sem,w1];exact⟨⟨k+1,ks,by omega,λt=>by rw[hsn];exact h t⟩,nx9 (by omega),Zc3 rfl (by simp only;rw[hsn];exact(Fc6 rfl rfl rfl rfl rfl rfl)) (by simp only;rw[hsn];rfl) (by simp[upd,Hp.setq,St.with,mkStX,YV])⟩;rw[hrd]at hR;rw[hrd]at hsn;simp only[if_true]at hsn;have hrm:=Ya (show(X8 m (l.take k)).length+1<=1000000 by omega) (show 176<=1000 by omega);have hdl:=(ho (l.getD k Jd) (Zp hka)).d;generalize hx:l.getD k Jd=x at *;have hsz:=Yv (X8 m (l.take k));have hsx:Sized 15 [opv x]:=Yv [x];have hax:XO [opv x]:=WE [x];have hml:((X8 m (l.take k)).map opv).length=(X8 m (l.take k)).length:=Jb _;simp only[opv]at hsx hax;simp only[go_sem,Zu,hlt,Zw hka,hx,opv,i0];refine vc7 hR ?_;simp only[go_sem,hml,hrm,hsz,hsx,hax];refine SZ (ι:= { jk:Nat×List Tg // jk.1<=x.drops.length/\ ∀t,t∈jk.2↔(XQ (X8 m (l.take k)) t=Ht\/t∈x.drops.take jk.1) }) 68 (λy=> [(0,tr (Zd m)),(5,.sl (.row 32) ((X8 m (l.take k)++ [x]).map opv)),(6,.mref b),(19,Zu l),(20,.int .i64 (l.length:Int)),(21,.int .i64 (k:Int)),(34,tgs x.drops),(35,.int .i64 (x.drops.length:Int)),(36,.int .i64 (y.1.1:Int))]) (λ_=> []) (λy=> [(32,.live ((X8 m (l.take k)).length+1) 15 62)]) (λy=> [(b,tgm y.1.2)]) (λ_=> []) (λ_=> []) (λ_=> []) [] [] [63] (λy=>x.drops.length-y.1.1) ⟨(0,ks),Jn _,λt=>by rw[h t];simp⟩
  (Zc3 rfl (by rw[Je];exact(Fc9 rfl rfl rfl rfl rfl rfl rfl rfl rfl)) rfl (by simp[upd,Hp.setq,St.with,mkStX,YV])) (λy=>ZjL (Fc9 rfl rfl rfl rfl rfl rfl rfl rfl rfl)) (λy=> ?_)
 obtain⟨⟨j,ks'⟩,hj,h'⟩:=y;simp only at hj h' ⊢;by_cases hjt:(j:Int)<(x.drops.length:Int);have hja:j<x.drops.length:=by omega
 have j0:=Jg j
 have w2:=wk9 (k:=j) (by omega)
 have hmem:∀t,t∈x.drops.take (j+1)↔t∈x.drops.take j\/t=x.drops.getD j Jd:=λt=>by rw[Z0 (d:=Jd) hja];simp
 generalize ht:x.drops.getD j Jd=t at *;cases hf:ks'.findIdx? (λy=>decide (t=y))with
 |none=>
  simp only[go_sem,tgs,hjt,Z7 hja,ht,tg,j0,tgm,SC,hf,w2];refine⟨⟨(j+1,ks'++ [t]),hja,λu=> ?_⟩,nx9 (by omega),Zc3 rfl (Fc9 rfl rfl rfl rfl rfl rfl rfl rfl rfl) rfl (by simp[upd,Hp.setq,St.with,mkStX,YV,tgm,tg])⟩;rw[hmem,Jz,h',Ji,or_assoc]
 |some i=>
  simp only[go_sem,tgs,hjt,Z7 hja,ht,tg,j0,tgm,SC,hf,w2];have hin:t∈ks':=JX.1 λhn=>by rw[Zec.2 hn]at hf;cases hf
  refine⟨⟨(j+1,ks'),hja,λu=> ?_⟩,nx9 (by omega),Zc3 rfl (Fc9 rfl rfl rfl rfl rfl rfl rfl rfl rfl) rfl (by simp[upd,Hp.setq,St.with,mkStX,YV,tgm,Zle])⟩;rw[hmem,<-or_assoc,<-h'];constructor
  ·exact .inl
  ·rintro (e|e)
   ·exact e
   ·rw[e];exact hin
 obtain rfl:j=x.drops.length:=by omega
 rw[JJ]at h';simp only[go_sem,hjt,w1];refine⟨⟨k+1,ks',by omega,λt=>by rw[hsn,Zky];exact h' t⟩,nx9 (by omega),Zc3 rfl (by simp only;rw[hsn];exact(Fc6 rfl rfl rfl rfl rfl rfl)) (by simp only;rw[hsn,Ja];rfl) (by simp[upd,Hp.setq,St.with,mkStX,YV])⟩;obtain rfl:k=l.length:=by omega
 rw[JJ]at h;simp only[go_sem,hlt,JJ];generalize hrd:X8 m l=rd at *;have hrl:rd.length<=100000:=by rw[<-hrd];exact Js (Zbx _ _).length_le (by omega)
 have hal:UL m l=rd.filter λo=> !XQ rd o.id:=by unfold UL;rw[hrd]
 refine Zkq 11 63 15 62 rfl rfl ?_;refine SZ (ι:= { k:Nat // k<=rd.length }) 68 (λy=> [(6,.mref b),(11,.vsl 63 ((rd.take y.1).filter λo=> !XQ rd o.id).length 15),(45,.sl (.row 32) (rd.map opv)),(46,.int .i64 (rd.length:Int)),(47,.int .i64 (y.1:Int))]) (λ_=> []) (λy=> [(63,.vec ((rd.take y.1).filter λo=> !XQ rd o.id).length 15 62),(32,.live rd.length 15 62)]) (λy=> [(b,tgm ks)]) (λ_=> []) (λy=> [(63,((rd.take y.1).filter λo=> !XQ rd o.id).map opv)]) (λ_=> []) [] [] [63] (λy=>rd.length-y.1) ⟨0,Jn _⟩
  (Zea rfl (Fc5 rfl rfl rfl rfl rfl) rfl rfl rfl (by simp[upd,Hp.setq,St.with,mkStX,YV,tgm])) (λy=>ZoS (by simp[Ju,Kz,ZX]) (Vq UE _)) (λy=> ?_)
 obtain⟨k,hk⟩:=y;simp only;by_cases hlt2:(k:Int)<(rd.length:Int);have hka:k<rd.length:=by omega
 have i0:=Jg k
 have w1:=wk9 (k:=k) (by omega)
 have hsn:(rd.take (k+1)).filter (λo=> !XQ rd o.id)=(rd.take k).filter (λo=> !XQ rd o.id)++(if XQ rd (rd.getD k Jd).id=Ht then []else [rd.getD k Jd]):=by
  rw[Z0 (d:=Jd) hka,JB];congr 1;generalize rd.getD k Jd=x;cases hr:XQ rd x.id;rw[Jf (by rw[hr];rfl),if_neg (by simp)];rfl;rw[Jc (by rw[hr];simp),if_pos rfl];rfl
 have hfl:((rd.take k).filter λo=> !XQ rd o.id).length<=k:=Js (Jm _ _) (Jw _ _);have hrm:=Ya (show((rd.take k).filter λo=> !XQ rd o.id).length+1<=1000000 by omega) (show 176<=1000 by omega);generalize hx:rd.getD k Jd=x at *;generalize hal2:(rd.take k).filter (λo=> !XQ rd o.id)=al at *;have hml:(al.map opv).length=al.length:=Jb _;have hai:∀p∈al.map opv,p.ids= []:=hcl al;cases hf:ks.findIdx? (λy=>decide (x.id=y))with
 |none=>
  have hd:XQ rd x.id=false:=by
   rw[KU];exact λhh=>Zec.1 hf ((h _).2 hh)
  rw[hd,if_neg (by simp)]at hsn;simp only[go_sem,Zu,hlt2,Zw hka,hx,opv,i0,tgm,tg,SC,hf,w1,hml,hrm];refine⟨λp hp=>by rw[Ji.1 hp];exact⟨rfl,rfl⟩,λp hp=>by rw[Ji.1 hp];exact UE x,λp hp=> ?_,⟨k+1,by omega⟩,nx9 (by omega),Zea rfl ?_ ?_ rfl ?_ ?_⟩
  ·rcases Jz.1 hp with hp|hp
   ·rw[hai p hp];simp
   ·rw[Ji.1 hp];simp[Ju,Kz]
  ·simp only;rw[hsn,Ja];exact(Fc5 rfl rfl rfl rfl rfl)
  ·simp only;rw[hsn,Ja];rfl
  ·simp only;rw[hsn,Je];rfl
  ·simp[upd,Hp.setq,St.with,mkStX,YV,Zpq]
 |some i=>
  have hd:XQ rd x.id=true:=(h _).1 (JX.1 λhn=>by rw[Zec.2 hn]at hf;cases hf);rw[hd,if_pos rfl,Jl]at hsn;have hik:i<ks.length:=(JP.1 hf).1;have hgd:(ks.map λ_=>Ql []).getD i .any= .agg []:=by rw[getD_lt (by simpa using hik)];simp
  simp only[go_sem,Zu,hlt2,Zw hka,hx,opv,i0,tgm,tg,SC,hf,w1,hgd];refine⟨⟨k+1,by omega⟩,nx9 (by omega),Zea rfl ?_ ?_ rfl ?_ ?_⟩
  ·simp only;rw[hsn];exact(Fc5 rfl rfl rfl rfl rfl)
  ·simp only;rw[hsn];rfl
  ·simp only;rw[hsn];rfl
  ·simp[upd,Hp.setq,St.with,mkStX,YV]
 have htk:rd.take k=rd:=Jk (by omega);have hSS:=SV ops_sort 62 (UL m l).length (by have:=(UM m l).length_le;omega) (UL m l) (ZbQ (Ki.sublist ((UM m l).map _) hU)) rfl _ rfl;rw[hal]at hSS;simp only[go_sem,Zu,hlt2,htk];refine Dv 63 hSS (by simp[Ju,Kz]) (hcl _) (hcl _) rfl rfl rfl ?_;simp only[go_sem];have hlv:Xk m l=srt ZJ (rd.filter λo=> !XQ rd o.id):=by unfold Xk;rw[hal]
 have hll:(Xk m l).length=(rd.filter λo=> !XQ rd o.id).length:=by rw[hlv,Wu]
 rw[hll,hlv];exact Zhz (r0:= .vsl 63 _ 15) (hcl _) rfl (.keep _ (by intro i hi;simp[Ju]at hi;subst hi;exact⟨_,Ji.2 rfl,rfl⟩)) rfl rfl
open Go.PL
open Go.Shelf Go.RowKit Go.Lib Go.Sort
def flatStr:Flat Str where
 p:= .str
 v:=λs=> [.string ⟨⟨s⟩⟩]
 sz:=1
 pos:=by decide
 hp:=λ_=>rfl
 hv:=λ_=>rfl
 to:=λS x j u hj h=>by
  match j,hj with
  |0,_=>cases h;rfl
 of:=λS x j hj=>by
  match j,hj with
  |0,_=>exact .str _
theorem Zwb {w:World} {b o:Nat} {vs:List Value} {e:TypeId} (h:w.heap[b]? = Hs (.cells ⟨vs⟩ e (0,0))) (ho:o<vs.length):w.cell? ⟨b,o,none⟩=Hs (vs.getD o undef):=by
 rw[XV h,J5 ho,PL.getD_lt ho]
theorem Zxw (xs:List Str) (j:Nat) (h:j<xs.length):xs.toArray[j]! = xs.getD j Jd:=by
 rw[PL.getD_lt h];simp[h]
theorem Zdi {w:World} {b:Nat} {xs:List Str} {e:TypeId} {vs:List Value} (hw:w.heap[b]? = Hs (.cells ⟨vs⟩ e (0,0))) (hl:xs.length*flatStr.sz<=vs.length)
  (hv:∀i j,i<xs.length->j<flatStr.sz->vs.getD (i*flatStr.sz+j) undef=(flatStr.v (xs.getD i Jd)).getD j undef):Holds encStr w b 0 xs.toArray:=by
 intro j hj;have hj':j<xs.length:=by simpa using hj
 have hl':xs.length<=vs.length:=by simpa[flatStr]using hl
 have h1:=hv j 0 hj' (by decide);simp only[flatStr,Qh,KW,JA]at h1;rw[Nat.zero_add,Zxw xs j hj'];refine⟨?_,?_⟩;rw[Zwb hw (by omega),h1];simp[World.frozen?,hw]
theorem Zjk {w:World} {b c n lo:Nat} {xs ys rest:List Str} {e:TypeId} {vs:List Value} {os:Array Obj} (hlo:lo<=b) (hc:xs.length<=c) (hw:w.heap[b]? = Hs (.cells ⟨vs⟩ e (0,0))) (hl:xs.length*flatStr.sz<=vs.length) (hy:(ys++rest).length=xs.length):
  Fw flatStr (grow (putRow encStr (Sort.ahead w n) b 0 (ys++rest).toArray) os) lo ys (.slice (Hs ⟨b,0,none⟩) ys.length c)/\BelowF (λk=>k<lo) w (grow (putRow encStr (Sort.ahead w n) b 0 (ys++rest).toArray) os):=by
 have hb:b<w.heap.size:=(JL.1 hw).1;have hl':xs.length<=vs.length:=by simpa[flatStr]using hl
 have hyl:ys.length<=xs.length:=by rw[<-hy];simp
 have hs:(grow (putRow encStr (Sort.ahead w n) b 0 (ys++rest).toArray) os).heap=w.heap.modify b (onCells (putCells encStr 0 (ys++rest).toArray))++os:=rfl;have hat:∀k,k<w.heap.size->(grow (putRow encStr (Sort.ahead w n) b 0 (ys++rest).toArray) os).heap[k]? = (w.heap.modify b (onCells (putCells encStr 0 (ys++rest).toArray)))[k]? :=λk hk=>by
  rw[hs,Array.getElem?_append_left (by simpa using hk)]
 refine⟨.inr ⟨b,c,e,(putCells encStr 0 (ys++rest).toArray ⟨vs⟩).toList,hlo,rfl,by omega,?_,?_,λi j hi hj=> ?_⟩,?_⟩;rw[hat b hb,KD,if_pos rfl,hw];rfl;show ys.length*1<=_;simp only[putCells,Array.length_toList,Array.size_mapIdx,KX];omega;have hj0:j=0:=by have:j<1:=hj;omega
 subst hj0;have hiv:i<vs.length:=by omega
 show(putCells encStr 0 (ys++rest).toArray ⟨vs⟩).toList.getD (i*1+0) undef= [Value.string ⟨⟨ys.getD i Jd⟩⟩].getD 0 undef;simp only[Qh,KW,JA];rw[PL.getD_lt (by simpa[putCells]using hiv)];simp only[putCells,Array.getElem_toList,Array.getElem_mapIdx];rw[if_pos ⟨Jn _,by simp;omega⟩];simp only[Nat.sub_zero];rw[Zxw (ys++rest) i (by simp;omega),PL.getD_lt (by simp;omega),PL.getD_lt hi,JF hi];refine⟨rfl,rfl,rfl,?_,λk hk=> ?_⟩;rw[hs];simp;have hk':k<lo:=hk;rw[hat k (by omega),KD,if_neg (by omega)]
def TN (xs:List Str):List Str:=xs.mergeSort λx y=>decide (x<=y)
theorem Zlg (xs:List Str) (lo:Nat) (w:World) (v:Value) (hx:xs.length<=1000000) (hr:Fw flatStr w lo xs v) (hlo:lo<=w.heap.size):
  Calls prog 115 #[v] w λe w'=>e= .returned (.tuple #[])/\Fw flatStr w' lo (TN xs) v/\BelowF (λk=>k<lo) w w':=by
 rcases hr with ⟨h0,rfl⟩|⟨b,c,e,vs,h1,rfl,h3,h4,h5,h6⟩;obtain rfl:=Kw.1 h0;refine(Any.slices_Sort_string_none Zn6 none 0 w).mono λe w' ⟨he,hw⟩=> ?_
 subst hw;exact⟨he,.inl ⟨by simp[TN],rfl⟩,Qi _ _⟩;have hb:b<w.heap.size:=(JL.1 h4).1;refine(Any.slices_Sort_string Zn6 b 0 c xs w (Zdi h4 h5 h6) hb (by omega)).mono λe w' ⟨he,n,os,hw⟩=>⟨he,?_⟩
 have hly:(TN xs++ []).length=xs.length:=by simp[TN]
 have hrs:=Zjk (ys:=TN xs) (rest:= []) (n:=n) (os:=os) h1 h3 h4 h5 hly;rw[Jl]at hrs hly;rw[hly]at hrs;rw[hw];exact hrs
theorem Tl (xs:List Str):(Lib.compact xs).length<=xs.length:=by
 unfold Lib.compact Lib.compactUpTo;rw[Jb];exact Js (Jm _ _) (by simp)
theorem Zkv (xs:List Str) (lo:Nat) (w:World) (v:Value) (hx:xs.length<=1000000) (hr:Fw flatStr w lo xs v):
  Calls prog 116 #[v] w λe w'=>∃u,e= .returned u/\Fw flatStr w' lo (Lib.compact xs) u/\BelowF (λk=>k<lo) w w':=by
 rcases hr with ⟨h0,rfl⟩|⟨b,c,e,vs,h1,rfl,h3,h4,h5,h6⟩;obtain rfl:=Kw.1 h0;refine(Any.slices_Compact_string_empty Zmr none 0 w).mono λe w' ⟨he,hw⟩=> ?_
 subst hw;exact⟨_,he,.inl ⟨by have:=Tl [];simpa using this,rfl⟩,Qi _ _⟩;refine(Any.slices_Compact_string Zmr b 0 c xs w (Zdi h4 h5 h6) (by omega) h3).mono λe w' ⟨he,n,hw⟩=>⟨_,he,?_⟩
 have hcl:=Tl xs;have hrs:=Zjk (ys:=Lib.compact xs) (rest:=List.replicate (xs.length-(Lib.compact xs).length) []) (n:=n) (os:= #[]) h1 h3 h4 h5 (by simp;omega);have hg:∀W:World,grow W #[]=W:=λW=>by simp[grow]
 rw[hg]at hrs;rw[hw];exact hrs
def Xm (l:List Opn) (c:Str):List Str:=(l.filter λo=>o.kind==1&&o.cart==c).map Opn.item
def Xc (l:List Opn) (c:Str):List Str:=Lib.compact (TN (Xm l c))
theorem Zbl {l:List Opn} {k:Nat} (c:Str) (h:k<l.length):Xm (l.take (k+1)) c=Xm (l.take k) c++(if((l.getD k Jd).kind==1&&(l.getD k Jd).cart==c)=Ht then [(l.getD k Jd).item]else []):=by
 unfold Xm;rw[Z0 (d:=Jd) h,JB,Je];congr 1;generalize l.getD k Jd=x;cases hr:(x.kind==1&&x.cart==c);rw[Jc (by rw[hr];simp),if_neg (by simp)];rfl;rw[Jf (by exact hr),if_pos rfl];rfl
theorem SI (l:List Opn) (c:Str):(Xm l c).length<=l.length:=by unfold Xm;rw[Jb];exact Jm _ _
theorem Fh (l:List Str):Sized 1 (l.map .str):=λe he=>by
 obtain⟨o,_,rfl⟩:=Jo.1 he;rfl
theorem ZkO (l:List Opn) (ct:Str) (hl:l.length<=100000) {c:Code} (hc:f73.body=Hs c):Zrx prog (λs=>s.n=33/\s.fr 5= .sl (.row 27) ((Xm l ct).map .str)/\s.m.q 27=Hs (.live (Xm l ct).length 1 9)) 3 c (St.init [Zu l,.str ct] 33):=by
 cases hc;have hlm:l.length<=maxLen:=by rw[Zb];omega
 refine VK ?_;simp only[go_sem];refine VK ?_;simp only[go_sem];refine VK ?_;simp only[go_sem,Zu];refine Y8 5 27 1 9 rfl rfl ?_;refine Zs (ι:= { x:Nat // x<=(l).length }) 33 (λx=> [(1,.str ct),(5,.sl (.row 27) ((Xm (l.take x.1) ct).map .str)),(8,Zu l),(9,.int .i64 (l.length:Int)),(10,.int .i64 (x.1:Int))]) (λx=> []) (λx=> [(27,.live ((Xm (l.take x.1) ct).length) (1) (9))]) (λx=>(l).length-x.1) ⟨0,Jn _⟩ ⟨rfl,(Fc5 rfl rfl rfl rfl rfl),fnl,(fcs rfl fnl)⟩ (λx=>⟨(Fc5 rfl (by simp[Ju,ZX]) rfl rfl rfl),fnl⟩) (λx=> ?_);obtain⟨k,hk⟩:=x;simp only at hk ⊢;by_cases h:(k:Int)<(l.length:Int)
 (have hka:k<(l).length:=by omega);(have w1:=Xi hka (hlm));(have i1:=Jg k)
 have hsn:=Zbl ct hka;have hnl:=SI (l.take k) ct;have htl:(l.take k).length<=k:=Jw _ _;have hrm:=Ya (show(Xm (l.take k) ct).length+1<=1000000 by omega) (show 16<=1000 by omega);have hml:((Xm (l.take k) ct).map JY).length=(Xm (l.take k) ct).length:=Jb _;have hsz:=Fh (Xm (l.take k) ct);generalize hx:l.getD k Jd=x at *;cases k1:(x.kind==1);rw[k1,Kj,if_neg (by simp),Jl]at hsn;simp only[go_sem,Zu,h,Zw hka,hx,opv,i1,k1,w1];exact⟨⟨k+1,by omega⟩,nx9 (by omega),⟨rfl,by simp only;rw[hsn];exact(Fc5 rfl rfl rfl rfl rfl),fnl,by simp only;rw[hsn];exact fcs rfl fnl⟩⟩;cases k2:(x.cart==ct);rw[k1,k2,Kk,if_neg (by simp),Jl]at hsn;simp only[go_sem,Zu,h,Zw hka,hx,opv,i1,k1,k2,w1];exact⟨⟨k+1,by omega⟩,nx9 (by omega),⟨rfl,by simp only;rw[hsn];exact(Fc5 rfl rfl rfl rfl rfl),fnl,by simp only;rw[hsn];exact fcs rfl fnl⟩⟩;rw[k1,k2,Kf,if_pos rfl]at hsn;simp only[go_sem,Zu,h,Zw hka,hx,opv,i1,k1,k2,w1,hml,hsz,hrm];exact⟨⟨k+1,by omega⟩,nx9 (by omega),⟨rfl,by simp only;rw[hsn,Je];exact(Fc5 rfl rfl rfl rfl rfl),fnl,by simp only;rw[hsn,Ja];exact fcs rfl fnl⟩⟩;have htk:l.take k=l:=Jk (by omega);simp only[go_sem,Zu,h,htk];exact⟨rfl,rfl,rfl⟩
theorem ZkN (l:List Opn) (ct:Str) (hl:l.length<=100000):Pp 73 [Zu l,.str ct] (.sl .no ((Xc l ct).map .str)):=by
 have hnl:=SI l ct;refine PL.Pure.tail flatStr (k:=3) (i:=5) (d:=27) (N:=33) (G:=λxs=>xs=Xm l ct) (g:=λxs=>Lib.compact (TN xs)) func73 (by decide) rfl (by show 2<=33;decide) (by simp only[KM,WF]) (ZkO l ct hl rfl) (λs ⟨h2,h3,h4⟩=>⟨Xm l ct,_,rfl,h2,h3,h4⟩) ?_ (λxs h=>by rw[h];rfl);intro xs lo a w hG hd hN hr hlo;subst hG;have hcall:=Zlg _ lo w _ (by omega) hr hlo;refine ZgU (N:=33) hN (by decide) (by decide) (by decide) (by decide) (by decide) (by decide) (by decide) func115 (by decide) (by intro h;cases h) func116 (by decide) (by intro h;cases h) ?_;refine hcall.mono λe w' ⟨he,h1,h2⟩=>⟨_,he,?_⟩
 refine(Zkv _ lo w' _ (by simp[TN];omega) h1).mono λe w'' ⟨u,he,h3,h4⟩=>⟨u,he,λa' hd' hr'=>⟨.inr rfl,by rw[hd',hd],?_⟩⟩
 exact⟨a'.tmps.getD 4 undef,Go.results_tmp rfl _ _ _,by rw[hr'];exact h3,h2.trans h4⟩
open Go.PL
def Zql (a b:Int):PV:=if YN a=Ht/\YN b=Ht then .tup [.cpx .f64 (WU a) (WU b),.int .i64 0]else .tup [.cpx .f64 0 0,.int .i64 3]
theorem ZmL:WU 0=0:=by decide+kernel
theorem ZlX (a b c d:Int) (ha:Lim a) (hb:Lim b) (hc:Lim c) (hd:Lim d):Pp 165 [.cpx .f64 (WU a) (WU b),.cpx .f64 (WU c) (WU d)] (Zql (a+c) (b+d)):=by
 have hW1:=DL a b ha hb;have hW2:=DL c d hc hd;have hP1:=Sv a b ha hb;have hP2:=Sv c d hc hd;have hO:=ZgZ (a+c) (b+d);have w1:IntKind.i64.wrap (a+c)=a+c:=w64 (by obtain⟨_,_⟩:=ha;obtain⟨_,_⟩:=hc;omega);have w2:IntKind.i64.wrap (b+d)=b+d:=w64 (by obtain⟨_,_⟩:=hb;obtain⟨_,_⟩:=hd;omega);unfold Zql;generalize YN (a+c)=x at *;generalize YN (b+d)=y at *;by_cases h:x=Ht/\y=Ht;rw[if_pos h]at hO ⊢;refine ZM func165 rfl ntmps165 results165 ?_;simp only[go_sem];refine vc1 hW1 ?_;simp only[go_sem];refine vc1 hW2 ?_;simp only[go_sem];refine vc1 hP1 ?_;simp only[go_sem];refine vc1 hP2 ?_;simp only[go_sem,w1,w2];refine vc1 hO ?_;simp only[go_sem];rw[if_neg h]at hO ⊢;refine ZM func165 rfl ntmps165 results165 ?_;simp only[go_sem];refine vc1 hW1 ?_;simp only[go_sem];refine vc1 hW2 ?_;simp only[go_sem];refine vc1 hP1 ?_;simp only[go_sem];refine vc1 hP2 ?_;simp only[go_sem,w1,w2];refine vc1 hO ?_;simp only[go_sem]
def UF (s:Int) (o:Opn):Int:=if o.kind=3/\YN o.delta=Ht/\YN (s+o.delta)=Ht then s+o.delta else s
def Zim (l:List Opn):Int:=l.foldl UF 0
theorem Zoi {s:Int} {o:Opn} (h:Lim s):Lim (UF s o):=by
 unfold UF;split;rename_i h2;exact Ys.1 h2.2.2;exact h
theorem Zal:∀(l:List Opn) {s:Int},Lim s->Lim (l.foldl UF s)
 | [],s,h=>h
 |o::l,s,h=>Zal l (Zoi h)
theorem Ztf:Lim 0:=by unfold Lim;omega
theorem Zop {l:List Opn} {k:Nat} (h:k<l.length):Zim (l.take (k+1))=UF (Zim (l.take k)) (l.getD k Jd):=by
 unfold Zim;rw[Z0 (d:=Jd) h,Ks];rfl
theorem Zls (l:List Opn) (hl:l.length<=maxLen):Pp 114 [Zu l] (.int .i64 (Zim l)):=by
 have f0:YN 0=true:=by decide
 have hP:=Sv (Zim l) 0 (Zal l Ztf) Ztf;have hl2:=hl;rw[Zb]at hl2;refine ZM func114 rfl ntmps114 results114 ?_;simp only[go_sem,Zu];refine Zs (ι:= { k:Nat // k<=l.length }) 47 (λx=> [(3,.cpx .f64 (WU (Zim (l.take x.1))) (WU 0)),(13,Zu l),(14,.int .i64 (l.length:Int)),(15,.int .i64 (x.1:Int))]) (λx=> []) (λx=> []) (λx=>l.length-x.1) ⟨0,Jn _⟩
  ⟨rfl,Fc4 (by show PV.cpx .f64 0 0=PV.cpx .f64 (WU 0) (WU 0);rw[ZmL]) rfl rfl rfl,fnl,fnl⟩ (λx=>⟨(Fc4 rfl rfl rfl rfl),fnl⟩) (λx=> ?_)
 obtain⟨k,hk⟩:=x;simp only;by_cases h:(k:Int)<(l.length:Int);have hka:k<l.length:=by omega
 have i1:=Jg k
 have w1:=wk9 (k:=k) (by omega)
 have hsn:=Zop hka;have hs:Lim (Zim (l.take k)):=Zal _ Ztf;generalize Zim (l.take k)=s at *;generalize hx:l.getD k Jd=x at *;by_cases k3:x.kind=3;have e3:(x.kind !=3)=false:=by simpa using k3
 have hO:=ZgZ x.delta 0;cases f1:YN x.delta;rw[f1]at hO;have hz:UF s x=s:=by unfold UF;rw[if_neg (by rw[f1];simp)]
 rw[hz]at hsn;simp only[JV,false_and,if_false]at hO;simp only[go_sem,Zu,h,Zw hka,hx,opv,i1,e3];refine vc1 hO ?_;simp only[go_sem,w1];exact⟨⟨k+1,by omega⟩,nx9 (by omega),⟨rfl,Fc4 (by simp only;rw[hsn];rfl) rfl rfl rfl,fnl,fnl⟩⟩;have hd:Lim x.delta:=Ys.1 f1;rw[f1,f0]at hO;simp only[and_self,if_true]at hO;have hPl:=ZlX s 0 x.delta 0 hs Ztf hd Ztf;cases f2:YN (s+x.delta);have hz:UF s x=s:=by unfold UF;rw[if_neg (by rw[f2];simp)]
 rw[hz]at hsn;unfold Zql at hPl;rw[f2]at hPl;simp only[JV,false_and,if_false]at hPl;simp only[go_sem,Zu,h,Zw hka,hx,opv,i1,e3];refine vc1 hO ?_;simp only[go_sem];refine vc1 hPl ?_;simp only[go_sem,w1];exact⟨⟨k+1,by omega⟩,nx9 (by omega),⟨rfl,Fc4 (by simp only;rw[hsn];rfl) rfl rfl rfl,fnl,fnl⟩⟩;have hz:UF s x=s+x.delta:=by unfold UF;rw[if_pos ⟨k3,f1,f2⟩]
 rw[hz]at hsn;unfold Zql at hPl;rw[f2,show YN (0+0)=Ht by decide]at hPl;simp only[and_self,if_true,Int.zero_add]at hPl;simp only[go_sem,Zu,h,Zw hka,hx,opv,i1,e3];refine vc1 hO ?_;simp only[go_sem];refine vc1 hPl ?_;simp only[go_sem,w1];exact⟨⟨k+1,by omega⟩,nx9 (by omega),⟨rfl,Fc4 (by simp only;rw[hsn];rfl) rfl rfl rfl,fnl,fnl⟩⟩;have e3:(x.kind !=3)=true:=by simpa using k3
 have hz:UF s x=s:=by unfold UF;rw[if_neg (λhh=>k3 hh.1)]
 rw[hz]at hsn;simp only[go_sem,Zu,h,Zw hka,hx,opv,i1,e3,w1];exact⟨⟨k+1,by omega⟩,nx9 (by omega),⟨rfl,Fc4 (by simp only;rw[hsn];rfl) rfl rfl rfl,fnl,fnl⟩⟩;have htk:l.take k=l:=Jk (by omega);simp only[go_sem,Zu,h,htk];refine vc1 hP ?_;simp only[go_sem]
def ZV (l:List Opn):List Str:=(l.filter λo=>o.kind==4&&o.has).map Opn.text
theorem Zij {l:List Opn} {k:Nat} (h:k<l.length):ZV (l.take (k+1))=ZV (l.take k)++(if((l.getD k Jd).kind==4&&(l.getD k Jd).has)=Ht then [(l.getD k Jd).text]else []):=by
 unfold ZV;rw[Z0 (d:=Jd) h,JB,Je];congr 1;generalize l.getD k Jd=x;cases hr:(x.kind==4&&x.has);rw[Jc (by rw[hr];simp),if_neg (by simp)];rfl;rw[Jf (by exact hr),if_pos rfl];rfl
theorem U7 (l:List Opn):(ZV l).length<=l.length:=by unfold ZV;rw[Jb];exact Jm _ _
def Ta (f:Fd) (ops:List Opn):En:=
 if f.kind=1 then⟨f.at',Zim ops,(Z6 f).l⟩
 else⟨f.at',0,if f.kind=4 then ZV ops else if(ZV ops).length=0 then(Z6 f).l else [(ZV ops).getD ((ZV ops).length-1) []]⟩
theorem ZlC (f:Fd) (l:List Opn) (hl:l.length<=100000):Pp 72 [fld f,Zu l] (ent (Ta f l)):=by
 have hV:=Zkj f;have hlm:l.length<=maxLen:=by rw[Zb];omega
 have hT:=Zls l hlm;have hva:(Z6 f).at'=f.at':=rfl;have hvn:(Z6 f).n=0:=rfl;unfold Ta;generalize Z6 f=v at *;obtain⟨va,vn,vl⟩:=v;simp only at hva hvn;subst hva hvn;by_cases k1:f.kind=1;have e1:(f.kind==1)=true:=by simpa using k1
 rw[if_pos k1];refine Zx func72 rfl ntmps72 results72 (Xq _) ?_;simp only[go_sem,fld,Zu];refine vc2 hV ?_;simp only[go_sem,ent,e1];refine vc7 hT ?_;simp only[go_sem,ent];have e1:(f.kind==1)=false:=by simpa using k1
 rw[if_neg k1];refine Zx func72 rfl ntmps72 results72 (Xq _) ?_;simp only[go_sem,fld,Zu];refine vc2 hV ?_;simp only[go_sem,ent,e1];refine Y8 6 35 1 9 rfl rfl ?_;refine Zs (ι:= { x:Nat // x<=(l).length }) 56 (λx=> [(2,.ptr 2 0),(4,.ptr 4 0),(5,.ptr 5 0),(6,.sl (.row 35) ((ZV (l.take x.1)).map .str)),(18,Zu l),(19,.int .i64 (l.length:Int)),(20,.int .i64 (x.1:Int))]) (λx=> [(2,[.int .i64 f.at'.sc,.str f.at'.gr,.str f.at'.nm,.int .i64 f.kind,.str f.df,.sl .no (f.cases'.map .str),.int .i64 f.worth],Hf),(4,[.int .i64 0,.str [],.str [],.int .i64 0,.sl .nil []],Hf),(5,[.int .i64 f.at'.sc,.str f.at'.gr,.str f.at'.nm,.int .i64 0,.sl .no (vl.map .str)],Hf)]) (λx=> [(35,.live ((ZV (l.take x.1)).length) (1) (9))]) (λx=>(l).length-x.1) ⟨0,Jn _⟩ ⟨rfl,(Fc7 rfl rfl rfl rfl rfl rfl rfl),(Fc3 ⟨rfl,rfl⟩ ⟨rfl,rfl⟩ ⟨rfl,rfl⟩),(fcs rfl fnl)⟩ (λx=>⟨(Fc7 rfl rfl rfl (by simp[Ju,ZX]) rfl rfl rfl),(Fc3 rfl rfl rfl)⟩) (λx=> ?_);obtain⟨k,hk⟩:=x;simp only at hk ⊢;by_cases h:(k:Int)<(l.length:Int)
 (have hka:k<(l).length:=by omega);(have w1:=Xi hka (hlm));(have i1:=Jg k)
 have hsn:=Zij hka;have hnl:=U7 (l.take k);have htl:(l.take k).length<=k:=Jw _ _;have hrm:=Ya (show(ZV (l.take k)).length+1<=1000000 by omega) (show 16<=1000 by omega);have hml:((ZV (l.take k)).map JY).length=(ZV (l.take k)).length:=Jb _;have hsz:=Fh (ZV (l.take k));generalize hx:l.getD k Jd=x at *;cases k1:(x.kind==4);rw[k1,Kj,if_neg (by simp),Jl]at hsn;simp only[go_sem,Zu,h,Zw hka,hx,opv,i1,k1,w1];exact⟨⟨k+1,by omega⟩,nx9 (by omega),⟨rfl,by simp only;rw[hsn];exact(Fc7 rfl rfl rfl rfl rfl rfl rfl),(Fc3 ⟨rfl,rfl⟩ ⟨rfl,rfl⟩ ⟨rfl,rfl⟩),by simp only;rw[hsn];exact fcs rfl fnl⟩⟩;cases k2:x.has;rw[k1,k2,Kk,if_neg (by simp),Jl]at hsn;simp only[go_sem,Zu,h,Zw hka,hx,opv,i1,k1,k2,w1];exact⟨⟨k+1,by omega⟩,nx9 (by omega),⟨rfl,by simp only;rw[hsn];exact(Fc7 rfl rfl rfl rfl rfl rfl rfl),(Fc3 ⟨rfl,rfl⟩ ⟨rfl,rfl⟩ ⟨rfl,rfl⟩),by simp only;rw[hsn];exact fcs rfl fnl⟩⟩;rw[k1,k2,Kf,if_pos rfl]at hsn;simp only[go_sem,Zu,h,Zw hka,hx,opv,i1,k1,k2,w1,hml,hsz,hrm];exact⟨⟨k+1,by omega⟩,nx9 (by omega),⟨rfl,by simp only;rw[hsn,Je];exact(Fc7 rfl rfl rfl rfl rfl rfl rfl),(Fc3 ⟨rfl,rfl⟩ ⟨rfl,rfl⟩ ⟨rfl,rfl⟩),by simp only;rw[hsn,Ja];exact fcs rfl fnl⟩⟩;have htk:l.take k=l:=Jk (by omega);rw[htk];have hnl:=U7 l;by_cases k4:f.kind=4;have e4:(f.kind==4)=true:=by simpa using k4
 rw[if_pos k4];simp only[go_sem,Zu,h,e4,ent];have e4:(f.kind==4)=false:=by simpa using k4
 rw[if_neg k4];have hml:((ZV l).map JY).length=(ZV l).length:=Jb _;by_cases k5:(ZV l).length=0;have e5:¬(0:Int)<((ZV l).length:Int):=by omega
 rw[if_pos k5];simp only[go_sem,Zu,h,e4,ent,hml,e5];have e5:(0:Int)<((ZV l).length:Int):=by omega
 have w5:IntKind.i64.wrap (((ZV l).length:Int)-1)=(((ZV l).length-1:Nat):Int):=by rw[w64 (by omega)];omega
 have hlt:(ZV l).length-1<(ZV l).length:=by omega
 have b5:(0:Int)<=(((ZV l).length-1:Nat):Int)/\(((ZV l).length-1:Nat):Int)<((ZV l).length:Int):=by omega
 rw[if_neg k5];simp only[go_sem,Zu,h,e4,ent,hml,e5,w5,b5.1,b5.2,ZQ hlt]
open Go.PL Go.PL.Srt
theorem ZjO (m:List Eg) (l:List Opn) (hm:OkM m) (hl:l.length<=20) (ho:∀o∈l,OkOp o) (hU:(l.map Opn.id).Nodup):Pp 78 [tr (Zd m),Zu l] (Zu (Xk m l)):=by
 have hcl:∀l:List Opn,∀p∈l.map opv,p.ids= []:=λl=>WJ UE l
 have hL:=Zda m l hm hl ho hU;have hll:=Uv m l;have hlo:∀o∈Xk m l,OkOp o:=λo h=>ho o (Zi8 h)
 generalize Xk m l=A at *;refine PL.Pure.of_p [] func78 (by decide) rfl ntmps78 results78 (by simp) (U2 _) ?_;simp only[go_sem,tr,Zu];refine Zao 10 hL (hcl _) (by simp[Ju,tr,Zu]) rfl rfl ?_;simp only[go_sem,Qq,id];refine SZ (ι:= { k:Nat // k<=A.length }) 25 (λx=> [(5,.vsl 10 A.length 15),(11,.vsl 10 A.length 15),(12,.int .i64 (A.length:Int)),(13,.int .i64 (x.1:Int))]) (λ_=> []) (λ_=> [(10,.vec A.length 15 62)]) (λ_=> []) (λ_=> []) (λ_=> [(10,A.map opv)]) (λ_=> []) [] [] [] (λx=>A.length-x.1) ⟨0,Jn _⟩
  (Zd9 rfl (Fc4 rfl rfl rfl rfl) rfl rfl) (λx=>ZgT (by simp[Ju,Kz,ZX]) (Vq UE _)) (λx=> ?_)
 obtain⟨k,hk⟩:=x;simp only;by_cases h:(k:Int)<(A.length:Int);have hka:k<A.length:=by omega
 have i0:=Jg k
 have w1:=wk9 (k:=k) (by omega)
 have hO:=ZlU (A.getD k Jd) (hlo _ (Zp hka));have hset:(A.map opv).set k (opv (A.getD k Jd))=A.map opv:=by
  rw[Zaf];congr 1;rw[getD_lt hka];exact List.set_getElem_self hka
 simp only[opv]at hset;simp only[go_sem,h,i0,Zw hka,opv];refine vc6 hO ?_;simp only[go_sem,h,i0,Zw hka,opv,hset,w1];exact⟨⟨k+1,by omega⟩,nx9 (by omega),Zd9 rfl (Fc4 rfl rfl rfl rfl) rfl rfl⟩;simp only[go_sem,h];exact⟨_,rfl,Pub.vec0 (by simp) rfl (Jb _) (hcl _)⟩
def YK (m:List Eg) (l:List Opn) (b:Tg):List Opn:=(l.filter λo=>(toT m o b).c==0&&(toT m o b).ok).map λo=>(toT m o b).o
theorem Zdo (m:List Eg) {l:List Opn} (b:Tg) {k:Nat} (h:k<l.length):YK m (l.take (k+1)) b=YK m (l.take k) b++(if((toT m (l.getD k Jd) b).c==0&&(toT m (l.getD k Jd) b).ok)=Ht then [(toT m (l.getD k Jd) b).o]else []):=by
 unfold YK;rw[Z0 (d:=Jd) h,JB,Je];congr 1;generalize l.getD k Jd=x;cases hr:((toT m x b).c==0&&(toT m x b).ok);rw[Jc (by rw[hr];simp),if_neg (by simp)];rfl;rw[Jf (by exact hr),if_pos rfl];rfl
theorem Ug (m:List Eg) (l:List Opn) (b:Tg):(YK m l b).length<=l.length:=by unfold YK;rw[Jb];exact Jm _ _
theorem Zki (m:List Eg) (l:List Opn) (b:Tg) (hm:OkM m) (hr:RightM m) (hl:l.length<=100000) (ho:∀o∈l,OkOp o):Pp 69 [tr (Zd m),Zu l,tg b] (Zu (YK m l b)):=by
 have hlm:l.length<=maxLen:=by rw[Zb];omega
 refine Zx func69 rfl ntmps69 results69 (U2 _) ?_;simp only[go_sem,tr,Zu,tg];refine Y8 7 35 15 62 rfl rfl ?_;refine Zs (ι:= { x:Nat // x<=(l).length }) 38 (λx=> [(0,tr (Zd m)),(5,.ptr 5 0),(7,.sl (.row 35) ((YK m (l.take x.1) b).map opv)),(13,Zu l),(14,.int .i64 (l.length:Int)),(15,.int .i64 (x.1:Int))]) (λx=> [(5,[.int .i64 b.r,.int .i64 b.n],Hf)]) (λx=> [(35,.live ((YK m (l.take x.1) b).length) (15) (62))]) (λx=>(l).length-x.1) ⟨0,Jn _⟩ ⟨rfl,(Fc6 rfl rfl rfl rfl rfl rfl),(fcs ⟨rfl,rfl⟩ fnl),(fcs rfl fnl)⟩ (λx=>⟨(Fc6 rfl rfl (by simp[Ju,ZX]) rfl rfl rfl),(fcs rfl fnl)⟩) (λx=> ?_);obtain⟨k,hk⟩:=x;simp only at hk ⊢;by_cases h:(k:Int)<(l.length:Int)
 (have hka:k<(l).length:=by omega);(have w1:=Xi hka (hlm));(have i1:=Jg k)
 have hT:=Zl1 m (l.getD k Jd) b hm hr (ho _ (Zp hka));have hsn:=Zdo m b hka;have hsl:=Ug m (l.take k) b;have htl:(l.take k).length<=k:=Jw _ _;have hrm:=Ya (show(YK m (l.take k) b).length+1<=1000000 by omega) (show 176<=1000 by omega);have hml:((YK m (l.take k) b).map opv).length=(YK m (l.take k) b).length:=Jb _;have hsz:=Yv (YK m (l.take k) b);generalize toT m (l.getD k Jd) b=y at *;obtain⟨yo,yk,yc⟩:=y;have hsx:Sized 15 [opv yo]:=Yv [yo];have hax:XO [opv yo]:=WE [yo];generalize hx:l.getD k Jd=x at *;simp only at hsn;simp only[opv]at hsx hax;cases k1:(yc==0);rw[k1,Kj,if_neg (by simp),Jl]at hsn;simp only[go_sem,Zu,h,Zw hka,hx,opv,i1];refine vc7 hT ?_;simp only[go_sem,Sj,opv,k1,w1];exact⟨⟨k+1,by omega⟩,nx9 (by omega),⟨rfl,by simp only;rw[hsn];exact(Fc6 rfl rfl rfl rfl rfl rfl),fcs ⟨rfl,rfl⟩ fnl,by simp only;rw[hsn];exact fcs rfl fnl⟩⟩;cases yk;rw[k1,Kk,if_neg (by simp),Jl]at hsn;simp only[go_sem,Zu,h,Zw hka,hx,opv,i1];refine vc7 hT ?_;simp only[go_sem,Sj,opv,k1,w1];exact⟨⟨k+1,by omega⟩,nx9 (by omega),⟨rfl,by simp only;rw[hsn];exact(Fc6 rfl rfl rfl rfl rfl rfl),fcs ⟨rfl,rfl⟩ fnl,by simp only;rw[hsn];exact fcs rfl fnl⟩⟩;rw[k1,Kf,if_pos rfl]at hsn;simp only[go_sem,Zu,h,Zw hka,hx,opv,i1];refine vc7 hT ?_;simp only[go_sem,Sj,opv,k1,w1,hml,hsz,hrm,hsx,hax];exact⟨⟨k+1,by omega⟩,nx9 (by omega),⟨rfl,by simp only;rw[hsn,Je];exact(Fc6 rfl rfl rfl rfl rfl rfl),fcs ⟨rfl,rfl⟩ fnl,by simp only;rw[hsn,Ja];exact fcs rfl fnl⟩⟩;have htk:l.take k=l:=Jk (by omega);simp only[go_sem,Zu,h,htk]
open Go.PL Go.PL.Srt
structure Sp where
 item:Str
 at':Rf
 deriving DecidableEq,Inhabited
def spv (s:Sp):PV:= .agg [.str s.item,.int .i64 s.at'.sc,.str s.at'.gr,.str s.at'.nm]
def spO (o:Opn):Sp:=⟨o.item,o.at'⟩
def ZA (seen:List Opn) (s:Sp):List Opn:=seen.filter λo=>decide (spO o=s)
theorem Zsl (a b:Sp):(a.item==b.item&&(a.at'.sc==b.at'.sc&&(a.at'.gr==b.at'.gr&&a.at'.nm==b.at'.nm)))=decide (a=b):=by
 obtain⟨i1,r1⟩:=a;obtain⟨i2,r2⟩:=b;cases r1;cases r2;rw[KB];simp
theorem ZfD (s:Sp):∀(l:List Sp) (i:Nat),Tn [.str,.int,.str,.str] [.str s.item,.int .i64 s.at'.sc,.str s.at'.gr,.str s.at'.nm] (l.map spv) i=Hs ((l.findIdx? λx=>decide (s=x)).map (· + i))
 | [],i=>rfl
 |n::l,i=>by
  have ih:=ZfD s l (i+1);simp only[Jr,spv,Tn,ZS,UV,if_true,KQ,Qa,Zsl];by_cases h:s=n;simp[h];simp only[h,decide_false,ih];simp only[JV,if_false,K8];congr 2;funext x;simp;omega
theorem ZcQ (s:Sp) (l:List Sp):Tn [.str,.int,.str,.str] [.str s.item,.int .i64 s.at'.sc,.str s.at'.gr,.str s.at'.nm] (l.map spv) 0=Hs (l.findIdx? λx=>decide (s=x)):=by
 rw[ZfD];congr 1;cases Qb (λx=>decide (s=x)) l<;>rfl
theorem Zi2 {t:Sp} {l:List Sp}:(l.findIdx? λx=>decide (t=x))=none↔t∉l:=by
 rw[J4];constructor;intro h hm;have:=h t hm;simp at this;intro h x hx;simp only[decide_eq_false_iff_not];intro e;exact h (e▸hx)
theorem Zm1 {t:Sp} {l:List Sp} {i:Nat} (h:(l.findIdx? λx=>decide (t=x))=Hs i):i<l.length/\l.getD i Jd=t:=by
 obtain⟨h1,h2,_⟩:=JP.1 h;exact⟨h1,by rw[getD_lt h1];exact(of_decide_eq_true h2).symm⟩
theorem Zdy {seen:List Opn} {s:Sp} (h:¬ ∃o∈seen,spO o=s):ZA seen s= []:=by
 unfold ZA;rw[J8];intro o ho hd;exact h ⟨o,ho,of_decide_eq_true hd⟩
theorem ZbN (seen:List Opn) (s:Sp):(ZA seen s).length<=seen.length:=Jm _ _
def WV (F:List Fd) (seen:List Opn) (sc:Int) (item:Str):List En:=(ZY F sc).map λf=>Ta f (ZA seen ⟨item,f.at'⟩)
theorem ZmH (F:List Fd) (seen:List Opn) (ks:List Sp) (sc:Int) (item:Str) (hF:OkFs F) (hs:seen.length<=100000) (hks:∀s,s∈ks↔ ∃o∈seen,spO o=s):
  Pp 70 [.int .i64 sc,.str item,.rptr [Zh F],.rptr [.rmap (ks.map spv) (ks.map λs=>Zu (ZA seen s))]] (Yd (WV F seen sc item)):=by
 have hFn:=hF.n;have hSc:=DI F sc (by omega) hF.c;have hscl:(ZY F sc).length<=F.length:=Jm _ _;unfold WV;generalize hA:ZY F sc=A at *;have hAm:A.length<=maxLen:=by rw[Zb];omega
 have hV:∀f s,Pp 72 [fld f,Zu (ZA seen s)] (ent (Ta f (ZA seen s))):=λf s=>ZlC f _ (Js (ZbN _ _) hs)
 refine Zx func70 rfl ntmps70 results70 (UU _) ?_;simp only[go_sem,Zh];refine vc2 hSc ?_;simp only[go_sem,Zh];refine Y8 7 28 5 65 rfl rfl ?_;refine Zs (ι:= { x:Nat // x<=(A).length }) 31 (λx=> [(1,.str item),(3,.rptr [.rmap (ks.map spv) (ks.map λs=>Zu (ZA seen s))]),(7,.sl (.row 28) (((A.take x.1).map λf=>Ta f (ZA seen ⟨item,f.at'⟩)).map ent)),(12,Zh A),(13,.int .i64 (A.length:Int)),(14,.int .i64 (x.1:Int))]) (λx=> []) (λx=> [(28,.live (x.1) (5) (65))]) (λx=>(A).length-x.1) ⟨0,Jn _⟩ ⟨rfl,(Fc6 rfl rfl rfl rfl rfl rfl),fnl,(fcs rfl fnl)⟩ (λx=>⟨(Fc6 rfl rfl (by simp[Ju,ZX]) rfl rfl rfl),fnl⟩) (λx=> ?_);obtain⟨k,hk⟩:=x;simp only at hk ⊢;by_cases h:(k:Int)<(A.length:Int)
 (have hka:k<(A).length:=by omega);(have w1:=Xi hka (hAm));(have i1:=Jg k)
 have htk:((A.take (k+1)).map λf=>Ta f (ZA seen ⟨item,f.at'⟩))=((A.take k).map λf=>Ta f (ZA seen ⟨item,f.at'⟩))++ [Ta (A.getD k Jd) (ZA seen ⟨item,(A.getD k Jd).at'⟩)]:=by rw[Z0 (d:=Jd) hka,Je];rfl
 have hlk:((A.take k).map λf=>Ta f (ZA seen ⟨item,f.at'⟩)).length=k:=by simp;omega
 have hrm:=Ya (show k+1<=1000000 by omega) (show 72<=1000 by omega);have hsz:=Sk ((A.take k).map λf=>Ta f (ZA seen ⟨item,f.at'⟩));have hV1:=hV (A.getD k Jd) ⟨item,(A.getD k Jd).at'⟩;have hfp:=ZcQ ⟨item,(A.getD k Jd).at'⟩ ks;have hget:∀i,i<ks.length->(ks.map λs=>Zu (ZA seen s)).getD i .any=Zu (ZA seen (ks.getD i Jd)):=λi hi=>by rw[getD_lt (by simpa using hi),getD_lt hi,JE]
 generalize hx:A.getD k Jd=x at *;generalize ((A.take k).map λf=>Ta f (ZA seen ⟨item,f.at'⟩))=E at *;generalize hv:Ta x (ZA seen ⟨item,x.at'⟩)=v at *;have hsx:Sized 5 [ent v]:=Sk [v];have hax:XO [ent v]:=Zfl [v];have hml:(E.map ent).length=k:=by rw[Jb];exact hlk
 simp only[ent]at hsx hax;simp only at hfp;cases hf:ks.findIdx? (λy=>decide ((⟨item,x.at'⟩:Sp)=y))with
 |none=>
  rw[hf]at hfp;have hn:ZA seen ⟨item,x.at'⟩= []:=Zdy (λhh=>Zi2.1 hf ((hks _).2 hh));rw[hn]at hV1;simp only[go_sem,Zh,h,Zy hka,hx,fld,i1];refine vDq ?_;simp only[go_sem,hfp];refine vc7 hV1 ?_;simp only[go_sem,ent,hsz,hsx,hax,hml,hrm,w1];exact⟨⟨k+1,by omega⟩,nx9 (by omega),⟨rfl,by simp only;rw[htk,Je];exact(Fc6 rfl rfl rfl rfl rfl rfl),fnl,fcs rfl fnl⟩⟩
 |some i=>
  rw[hf]at hfp;obtain⟨hi,he⟩:=Zm1 hf;have hg:=hget i hi;rw[he]at hg;simp only[go_sem,Zh,h,Zy hka,hx,fld,i1];refine vDq ?_;simp only[go_sem,hfp,hg];refine vc7 hV1 ?_;simp only[go_sem,ent,hsz,hsx,hax,hml,hrm,w1];exact⟨⟨k+1,by omega⟩,nx9 (by omega),⟨rfl,by simp only;rw[htk,Je];exact(Fc6 rfl rfl rfl rfl rfl rfl),fnl,fcs rfl fnl⟩⟩
 have htk:A.take k=A:=Jk (by omega);simp only[go_sem,Zh,h,htk,Yd]
open Go.PL Go.PL.Srt
def UG (y:Dc×Int):PV:= .tup [doc y.1,.int .i64 y.2]
theorem Vo (y:Dc×Int):(UG y).dids= []:=by simp only[UG,KM,Kx,ZpI,Jl]
def Yq (A:List Opn) (c:Str):List Opn:=A.filter λo=>o.cart==c
theorem ZkV {l:List Opn} {k:Nat} (c:Str) (h:k<l.length):Yq (l.take (k+1)) c=Yq (l.take k) c++(if((l.getD k Jd).cart==c)=Ht then [l.getD k Jd]else []):=by
 unfold Yq;rw[Z0 (d:=Jd) h,JB];congr 1;generalize l.getD k Jd=x;cases hr:(x.cart==c);rw[Jc (by rw[hr];simp),if_neg (by simp)];rfl;rw[Jf (by exact hr),if_pos rfl];rfl
def ZT (m:List Eg) (l:List Opn) (cart:Str) (b:Tg):Dc×Int:=
 if 400<(l.length:Int)then(Jd,14)else if Yj cart=Hf then(Jd,5)else if(Ye (Zd m) b).2≠0 then(Jd,(Ye (Zd m) b).2)
 else(⟨WV (Ye (Zd m) b).1 (YK m (Yq (Xk m l) cart) b) 0 [],(Xc (Yq (Xk m l) cart) cart).map λi=>⟨i,WV (Ye (Zd m) b).1 (YK m (Yq (Xk m l) cart) b) 1 i⟩⟩,0)
def vsV (pre:List Opn) (ks:List Sp):List PV:=(Kd ks.length).map λj=> .sl (.row (1000+j)) ((ZA pre (ks.getD j Jd)).map opv)
def qV (n:Nat) (pre:List Opn) (ks:List Sp):PL.Rows:=λi=>if i=59 then Hs (.live n 15 62)else if 1000<=i/\i<1000+ks.length then Hs (.live (ZA pre (ks.getD (i-1000) Jd)).length 15 62)else none
theorem Ul (pre:List Opn) (ks:List Sp):(vsV pre ks).length=ks.length:=by simp[vsV]
theorem ZrC (pre:List Opn) {ks:List Sp} {j:Nat} (h:j<ks.length):(vsV pre ks).getD j .any= .sl (.row (1000+j)) ((ZA pre (ks.getD j Jd)).map opv):=by
 unfold vsV;rw[getD_lt (by simpa using h),JE,JM]
theorem Wv (pre:List Opn) (o:Opn) (s:Sp):ZA (pre++ [o]) s=ZA pre s++(if spO o=s then [o]else []):=by
 unfold ZA;rw[JB];congr 1;by_cases h:spO o=s<;>simp[h]
theorem Zdg {ks:List Sp} (h:ks.Nodup) {i j:Nat} (hi:i<ks.length) (hj:j<ks.length) (e:ks.getD i Jd=ks.getD j Jd):i=j:=by
 rw[getD_lt hi,getD_lt hj]at e;exact(List.getElem_inj h).1 e
theorem Zs3 {pre:List Opn} {ks:List Sp} {o:Opn} {j:Nat} (hn:ks.Nodup) (hj:j<ks.length) (hs:ks.getD j Jd=spO o):
  (vsV pre ks).set j (.sl (.row (1000+j)) ((ZA pre (spO o)++ [o]).map opv))=vsV (pre++ [o]) ks:=by
 apply Kc;simp[vsV];intro i h1 h2;have hi:i<ks.length:=by simpa[vsV]using h2
 rw[Kv];by_cases e:j=i;subst e;rw[if_pos rfl];simp only[vsV,JE,JM];rw[Wv,hs,if_pos rfl];rw[if_neg e];simp only[vsV,JE,JM];rw[Wv,if_neg (λh=>e (Zdg hn hj hi (by rw[hs,h]))),Jl]
theorem Zs2 {pre:List Opn} {ks:List Sp} {o:Opn} (hn:spO o∉ks) (h0:ZA pre (spO o)= []) (z:PV):
  (vsV pre ks++ [z]).set ks.length (.sl (.row (1000+ks.length)) ([o].map opv))=vsV (pre++ [o]) (ks++ [spO o]):=by
 apply Kc;simp[vsV];intro i h1 h2;have hi:i<ks.length+1:=by simpa[vsV]using h2
 rw[Kv];by_cases e:ks.length=i;subst e;rw[if_pos rfl];simp only[vsV,JE,JM];have:(ks++ [spO o]).getD ks.length Jd=spO o:=by rw[getD_lt (by simp)];simp
 rw[this,Wv,if_pos rfl,h0,K5];have hi':i<ks.length:=by omega
 rw[if_neg e,JF (by simpa[vsV]using hi')];simp only[vsV,JE,JM];have:(ks++ [spO o]).getD i Jd=ks.getD i Jd:=by rw[getD_lt (by simp;omega),getD_lt hi',JF hi']
 rw[this,Wv,if_neg,Jl];intro h;rw[getD_lt hi']at h;exact hn (h▸J2 hi')
theorem Zgl (n:Nat) (pre:List Opn) {ks:List Sp} {j:Nat} (h:j<ks.length):qV n pre ks (1000+j)=Hs (.live (ZA pre (ks.getD j Jd)).length 15 62):=by
 unfold qV;rw[if_neg (by omega),if_pos (by omega),show 1000+j-1000=j by omega]
theorem ZoK {pre:List Opn} {ks:List Sp} {i:Nat} (h:i<ks.length):∀r∈((vsV pre ks).getD i .any).ids,r= .r (1000+i):=λr hr=>by
 rw[ZrC pre h]at hr;simpa[Ju]using hr
theorem ZnP {n:Nat} {pre:List Opn} {ks:List Sp} {x:Opn} {j i:Nat} (hnd:ks.Nodup) (hj:j<ks.length) (hje:ks.getD j Jd=spO x) (hi:i≠1000+j):qV n (pre++ [x]) ks i=qV n pre ks i:=by
 unfold qV;by_cases h1:i=59;rw[if_pos h1,if_pos h1];rw[if_neg h1,if_neg h1];by_cases h2:1000<=i/\i<1000+ks.length;rw[if_pos h2,if_pos h2,Wv,if_neg,Jl];intro e;have:=Zdg hnd hj (show i-1000<ks.length by omega) (by rw[hje,e]);omega;rw[if_neg h2,if_neg h2]
theorem Zrq {n:Nat} {pre:List Opn} {ks:List Sp} {x:Opn} {i:Nat} (hn:spO x∉ks) (hi:i≠1000+ks.length):qV n (pre++ [x]) (ks++ [spO x]) i=qV n pre ks i:=by
 unfold qV;by_cases h1:i=59;rw[if_pos h1,if_pos h1];rw[if_neg h1,if_neg h1];by_cases h2:1000<=i/\i<1000+ks.length;have hlt:i-1000<ks.length:=by omega
 have e:(ks++ [spO x]).getD (i-1000) Jd=ks.getD (i-1000) Jd:=by rw[getD_lt (by simp;omega),getD_lt hlt,JF hlt]
 rw[if_pos h2,if_pos (by simp;omega),e,Wv,if_neg,Jl];intro e;rw[getD_lt hlt]at e;exact hn (e▸J2 hlt);rw[if_neg h2,if_neg (by simp;omega)]
def vwL (cart:Str) (mine seen:List Opn) (k:Nat):List (Nat×PV):= [(2,.str cart),(8,.ptr 8 0),(10,.ptr 10 0),(12,.sl (.row 59) (mine.map opv)),(15,.ptr 15 0),(65,Zu seen),(66,.int .i64 (seen.length:Int)),(67,.int .i64 (k:Int))]
def vwH (F:List Fd) (x:PV):List (Nat×List PV):= [(8,[.sl .nil [],.sl .nil []]),(10,[.sl .no (F.map fld)]),(15,[x])]
theorem ZeO {cart:Str} {mine seen:List Opn} {k:Nat} {F:List Fd} {x:PV} {q:PL.Rows} (h:q 59≠none):∀y∈vwL cart mine seen k,∀r∈y.2.ids,Zi5 (vwH F x) q r/\ ∀d,1000<=d->r≠ .r d:=by
 refine fcs ?_ (fcs ?_ (fcs ?_ (fcs ?_ (fcs ?_ (fcs ?_ (fcs ?_ (fcs ?_ fnl)))))))<;>intro r hr<;>simp[Ju,Zu]at hr<;>subst hr
 exact⟨⟨_,Kl,rfl⟩,λd _=>by simp⟩;exact⟨⟨_,Kg _ Kl,rfl⟩,λd _=>by simp⟩;exact⟨h,λd hd=>by simp;omega⟩;exact⟨⟨_,Kg _ (Kg _ Kl),rfl⟩,λd _=>by simp⟩
theorem ZeN {F:List Fd} {x:PV} (hx:x.ids= []):∀y∈vwH F x,∀c∈y.2,c.ids= []:=
 Fc3 (by simp[Ju]) (by simp[Ju]) (by simp[hx])
theorem Zsg (n:Nat) (pre:List Opn) (ks:List Sp):qV n pre ks 59≠none:=by unfold qV;simp
theorem ZoL (pre:List Opn) (ks:List Sp):(vsV pre ks).map PV.share=ks.map λs=>Zu (ZA pre s):=by
 apply Kc;simp[vsV];intro i h1 h2;have hi:i<ks.length:=by simpa using h2
 simp only[vsV,JE,JM,PV.share,Tok.sh,Zu];rw[getD_lt hi]
theorem ZoJ (pre:List Opn) (ks:List Sp):∀p∈vsV pre ks,p.clean=true:=λp hp=>by
 obtain⟨j,_,rfl⟩:=Jo.1 hp;rfl
def q59 (n:Nat):PL.Rows:=upd (λ_=>none) 59 (Hs (.live n 15 62))
theorem Zl3 (m:List Eg) (l:List Opn) (cart:Str) (b:Tg) (hm:OkM m) (hr:RightM m) (hl:l.length<=20) (ho:∀o∈l,OkOp o) (hU:(l.map Opn.id).Nodup) (hn:Yj cart=Ht) (hc:(Ye (Zd m) b).2=0):
  Pp 28 [tr (Zd m),Zu l,.str cart,tg b] (UG (⟨WV (Ye (Zd m) b).1 (YK m (Yq (Xk m l) cart) b) 0 [],(Xc (Yq (Xk m l) cart) cart).map λi=>⟨i,WV (Ye (Zd m) b).1 (YK m (Yq (Xk m l) cart) b) 1 i⟩⟩,0)):=by
 have hcl:∀l:List Opn,∀p∈l.map opv,p.ids= []:=λl=>WJ UE l
 have hN:=Xv cart;rw[hn]at hN;have hS:=XH m b hm;have hF:=G9 hm (a:=b) hc;have hL:=Zda m l hm (by omega) ho hU;have hll:=Uv m l;have hlo:∀o∈Xk m l,OkOp o:=λo h=>ho o (Zi8 h)
 generalize Xk m l=A at *;have hmo:∀o∈Yq A cart,OkOp o:=λo h=>hlo o (Jp.1 h).1
 have hml0:(Yq A cart).length<=A.length:=Jm _ _;have hT:=Zki m (Yq A cart) b hm hr (by omega) hmo;have hI:=ZkN (Yq A cart) cart (by omega);have hsl:=Ug m (Yq A cart) b;have hfill:=λsc it ks hks=>ZmH (Ye (Zd m) b).1 (YK m (Yq A cart) b) ks sc it hF (by omega) hks
 have c1:¬(400:Int)<(l.length:Int):=by omega
 have c2:((Ye (Zd m) b).2 !=0)=false:=by simp[hc]
 generalize Ye (Zd m) b=X at *;obtain⟨F,xc⟩:=X;simp only at hc hF hfill c2 ⊢;subst hc;refine Zx func28 rfl ntmps28 results28 (Vo _) ?_;simp only[go_sem,tr,Zu,tg,c1];refine vc1 hN ?_;simp only[go_sem];refine vc5 hS ?_;simp only[go_sem,ZP,Zh,c2];refine Zao 46 hL (hcl _) (by simp[Ju,tr,Zu]) rfl rfl ?_;simp only[go_sem,Qq,id];refine Y8 12 59 15 62 rfl rfl ?_;refine SZ (ι:= { k:Nat // k<=A.length }) 109 (λx=> [(0,tr (Zd m)),(2,.str cart),(7,.ptr 7 0),(8,.ptr 8 0),(10,.ptr 10 0),(12,.sl (.row 59) ((Yq (A.take x.1) cart).map opv)),(46,.vsl 46 A.length 15),(47,.int .i64 (A.length:Int)),(48,.int .i64 (x.1:Int))]) (λ_=> [(7,[.int .i64 b.r,.int .i64 b.n],Hf),(8,[.sl .nil [],.sl .nil []],Hf),(10,[.sl .no (F.map fld)],Hf)]) (λx=> [(46,.vec A.length 15 62),(59,.live (Yq (A.take x.1) cart).length 15 62)]) (λ_=> []) (λ_=> []) (λ_=> [(46,A.map opv)]) (λ_=> []) [] [] [] (λx=>A.length-x.1) ⟨0,Jn _⟩
  ⟨⟨rfl,(Fc9 rfl rfl rfl rfl rfl rfl rfl rfl rfl),(Fc3 ⟨rfl,rfl⟩ ⟨rfl,rfl⟩ ⟨rfl,rfl⟩),(Fc2 rfl rfl)⟩,fnl,fnl,(fcs rfl fnl),fnl,fnl,fnl⟩ (λx=>⟨⟨(Fc9 rfl rfl rfl rfl rfl rfl rfl rfl rfl),(Fc3 rfl rfl rfl)⟩,by simp[Vq UE],fnl,by simp,fnl,fnl⟩) (λx=> ?_)
 obtain⟨k,hk⟩:=x;simp only;by_cases h:(k:Int)<(A.length:Int);have hka:k<A.length:=by omega
 have i0:=Jg k
 have w1:=wk9 (k:=k) (by omega)
 have hsn:=ZkV cart hka;have hml1:(Yq (A.take k) cart).length<=k:=Js (Jm _ _) (Jw _ _);have hrm:=Ya (show(Yq (A.take k) cart).length+1<=1000000 by omega) (show 176<=1000 by omega);have hml:((Yq (A.take k) cart).map opv).length=(Yq (A.take k) cart).length:=Jb _;have hsz:=Yv (Yq (A.take k) cart);generalize hx:A.getD k Jd=x at *;have hsx:Sized 15 [opv x]:=Yv [x];have hax:XO [opv x]:=WE [x];simp only[opv]at hsx hax;cases k1:(x.cart==cart);rw[k1,if_neg (by simp),Jl]at hsn;simp only[go_sem,h,i0,Zw hka,hx,opv,k1,w1];exact⟨⟨k+1,by omega⟩,nx9 (by omega),⟨⟨rfl,by simp only;rw[hsn];exact(Fc9 rfl rfl rfl rfl rfl rfl rfl rfl rfl),(Fc3 ⟨rfl,rfl⟩ ⟨rfl,rfl⟩ ⟨rfl,rfl⟩),by simp only;rw[hsn];exact(Fc2 rfl rfl)⟩,fnl,fnl,(fcs rfl fnl),fnl,fnl,fnl⟩⟩;rw[k1,if_pos rfl]at hsn;simp only[go_sem,h,i0,Zw hka,hx,opv,k1,w1,hml,hsz,hrm,hsx,hax];exact⟨⟨k+1,by omega⟩,nx9 (by omega),⟨⟨rfl,by simp only;rw[hsn,Je];exact(Fc9 rfl rfl rfl rfl rfl rfl rfl rfl rfl),(Fc3 ⟨rfl,rfl⟩ ⟨rfl,rfl⟩ ⟨rfl,rfl⟩),by simp only;rw[hsn,Ja];exact(Fc2 rfl rfl)⟩,fnl,fnl,(fcs rfl fnl),fnl,fnl,fnl⟩⟩;have htk:A.take k=A:=Jk (by omega);simp only[go_sem,h,htk];intro mb;refine vc7 hT ?_;simp only[go_sem,Zu];generalize hse:YK m (Yq A cart) b=seen at *;generalize hmi:Yq A cart=mine at *;refine ZsK (ι:= { x:Nat×List Sp // x.1<=seen.length/\(∀s,s∈x.2↔ ∃o∈seen.take x.1,spO o=s)/\x.2.Nodup })
  (λx=>vst 109 (vwL cart mine seen x.1.1) (vwH F (.mref mb)) (qV mine.length (seen.take x.1.1) x.1.2) (TM mb ⟨x.1.2.map spv,vsV (seen.take x.1.1) x.1.2⟩))
  (λx=>seen.length-x.1.1) ⟨(0,[]),Jn _,λs=>by simp,List.nodup_nil⟩ ?_ (λx=> ?_)
 refine(Gh.oToOm (b:=mb) (c:=⟨[],[]⟩) (by simp[upd,St.with,Hp.new])).trans (ZiZ rfl (Fc8 rfl rfl rfl rfl rfl rfl rfl rfl) (Fc3 ⟨rfl,rfl⟩ ⟨rfl,rfl⟩ ⟨rfl,rfl⟩) (λi=> ?_) (λi=> ?_) (λy hy r hr=>(ZeO (Zsg _ _ _) y hy r hr).1) (λy hy c hc r hr=>by rw[ZeN (x:= .mref mb) rfl y hy c hc]at hr;cases hr) (λb' c' hbc p hp r hr=> ?_));by_cases e:i=59;right;subst e;rfl;left;show qV mine.length [] [] i=none;unfold qV;rw[if_neg e,if_neg (by rintro ⟨h1,h2⟩;rw[Jq]at h2;omega)];by_cases e:mb=i;right;subst e;show TM mb _ mb=upd _ mb _ mb;rw[SK,Za];rfl;left;unfold TM;exact Zl _ _ e;obtain⟨rfl,rfl⟩:=Zeq hbc;simp[vsV]at hp;obtain⟨⟨k,ks⟩,hk,hks,hnd⟩:=x;simp only at hk hks hnd ⊢;by_cases h:(k:Int)<(seen.length:Int);refine⟨_,Gh.refl _,?_⟩;have hka:k<seen.length:=by omega
 have i0:=Jg k
 have w1:=wk9 (k:=k) (by omega)
 have htk1:seen.take (k+1)=seen.take k++ [seen.getD k Jd]:=Z0 (d:=Jd) hka;generalize hx:seen.getD k Jd=x at *;have hfp:=ZcQ (spO x) ks;simp only[spO]at hfp;have hsx:Sized 15 [opv x]:=Yv [x];have hax:XO [opv x]:=WE [x];simp only[opv]at hsx hax;have q80:qV mine.length (seen.take k) ks 80=none:=by unfold qV;rw[if_neg (by omega),if_neg (by omega)]
 have q82:qV mine.length (seen.take k) ks 82=none:=by unfold qV;rw[if_neg (by omega),if_neg (by omega)]
 have hr1:=Ya (show 1<=1000000 by omega) (show 176<=1000 by omega);cases hf:ks.findIdx? (λy=>decide (spO x=y))with
 |none=>
  have hnk:spO x∉ks:=Zi2.1 hf;have h00:ZA (seen.take k) (spO x)= []:=Zdy λhh=>hnk ((hks _).2 hh)
  have hnew:=Zs2 hnk h00 (.sl .nil []);simp only[spO]at hf;rw[hf]at hfp;simp only[go_sem,vst,vwL,vwH,h,i0,Zu,Zw hka,hx,opv,SK,hfp,q80,q82,hr1,w1];refine⟨by omega,by simp,⟨(k+1,ks++ [spO x]),hka,λs=> ?_,?_⟩,nx9 (by omega),?_⟩
  ·rw[htk1,Jz,hks s,Ji];constructor
   ·rintro (⟨o,h1,h2⟩|rfl)
    ·exact⟨o,Jz.2 (.inl h1),h2⟩
    ·exact⟨x,by simp,rfl⟩
   ·rintro ⟨o,h1,h2⟩
    rcases Jz.1 h1 with h1|h1
    ·exact .inl ⟨o,h1,h2⟩
    ·rw[Ji.1 h1]at h2;exact .inr h2.symm
  ·refine List.nodup_append.2 ⟨hnd,by simp,λa ha c hc e=> ?_⟩;rw[Ji.1 hc]at e;exact hnk (e▸ha)
  ·show Gh _ (vst 109 (vwL cart mine seen (k+1)) (vwH F (.mref mb)) (qV mine.length (seen.take (k+1)) (ks++ [spO x])) (TM mb ⟨(ks++ [spO x]).map spv,vsV (seen.take (k+1)) (ks++ [spO x])⟩));have e:((vsV (seen.take k) ks++ [JT .nil []]).set ks.length (.sl (.row 82) [opv x])).set ks.length (.sl (.row (1000+ks.length)) [opv x])=vsV (seen.take k++ [x]) (ks++ [spO x]):=by rw[Qe];exact hnew
   rw[htk1,<-e,Je];refine ZfQ (kk:=82) (d:=1000+ks.length) (sz:=15) (k:=1) (e:=62) (c:=⟨ks.map spv++ [spv (spO x)],(vsV (seen.take k) ks++ [JT .nil []]).set ks.length (.sl (.row 82) [opv x])⟩) (es:= [opv x]) rfl (Fc8 rfl rfl rfl rfl rfl rfl rfl rfl) (Fc3 ⟨rfl,rfl⟩ ⟨rfl,rfl⟩ ⟨rfl,rfl⟩) ?_ ?_ ?_ rfl (by omega) ?_ ?_ (λi h1 h2=> ?_) (λy hy r hr=> ?_) (λy hy c hc r hr=>by rw[ZeN (x:= .mref mb) rfl y hy c hc]at hr;cases hr) (λi h1 h2 r hr=> ?_)
   ·show upd _ mb _ mb=_;rw[Za];rfl
   ·simp[Ul]
   ·rw[getD_lt (by simp[Ul])];simp
   ·have hl0:ks.length<(ks++ [spO x]).length:=by simp
    rw[Zgl _ _ hl0,getD_lt hl0,List.getElem_append_right (KG _)];simp only[Nat.sub_self,List.getElem_cons_zero];rw[Wv,h00,if_pos rfl];rfl
   ·rw[Zrq hnk (by omega)];exact q82
   ·rw[Zrq hnk h1]
    by_cases e80:i=80
    ·left;rw[e80];exact q80
    ·right;show _=upd (upd (qV mine.length (seen.take k) ks) 80 _) 82 _ i;rw[Zl _ _ (λe=>h2 e.symm),Zl _ _ (λe=>e80 e.symm)]
   ·have:=ZeO (F:=F) (x:= .mref mb) (Zsg mine.length (seen.take k++ [x]) (ks++ [spO x])) y hy r hr;exact⟨this.1,this.2 _ (by omega)⟩
   ·have hi:i<ks.length:=by simp[Ul]at h1;omega
    have hg:((vsV (seen.take k) ks++ [JT .nil []]).set ks.length (.sl (.row 82) [opv x])).getD i .any=(vsV (seen.take k) ks).getD i .any:=by
     rw[getD_lt (by simp[Ul];omega),getD_lt (by rw[Ul];exact hi),KN (by omega),JF (by rw[Ul];exact hi)]
    rw[show(({ ks:=ks.map spv++ [spv (spO x)],vs:=(vsV (seen.take k) ks++ [JT .nil []]).set ks.length (.sl (.row 82) [opv x]) }:MapC).vs.getD i .any)=(vsV (seen.take k) ks).getD i .any from hg]at hr;rw[ZoK hi r hr];refine⟨?_,by simp;omega⟩;show qV _ _ _ (1000+i)≠none;rw[Zgl _ _ (by simp;omega)];simp
 |some j=>
  obtain⟨hj,hje⟩:=Zm1 hf;have hvs:=ZrC (seen.take k) hj;have hqj:=Zgl mine.length (seen.take k) hj;rw[hje]at hvs hqj;have hset:=Zs3 hnd hj hje (pre:=seen.take k);have htl:=ZbN (seen.take k) (spO x);have htk2:(seen.take k).length<=k:=Jw _ _;generalize hth:ZA (seen.take k) (spO x)=th at *;have hml2:(th.map opv).length=th.length:=Jb _;have hszt:=Yv th;have hrm:=Ya (show th.length+1<=1000000 by omega) (show 176<=1000 by omega);simp only[spO]at hf;rw[hf]at hfp;have n80:¬(80=1000+j):=by omega
  have n82:¬(82=1000+j):=by omega
  simp only[go_sem,vst,vwL,vwH,h,i0,Zu,Zw hka,hx,opv,SK,hfp,q80,q82,hr1,w1,n80,n82,hvs,hqj,hml2,hszt,hrm,hsx,hax];refine⟨by omega,hj,⟨(k+1,ks),hka,λs=> ?_,hnd⟩,nx9 (by omega),?_⟩
  ·rw[htk1,hks s];constructor
   ·rintro ⟨o,h1,h2⟩;exact⟨o,Jz.2 (.inl h1),h2⟩
   ·rintro ⟨o,h1,h2⟩
    rcases Jz.1 h1 with h1|h1
    ·exact⟨o,h1,h2⟩
    ·rw[Ji.1 h1]at h2;have:spO x∈ks:=by rw[<-hje,getD_lt hj];exact J2 hj
     obtain⟨o',h3,h4⟩:=(hks _).1 this;exact⟨o',h3,h4.trans h2⟩
  ·show Gh _ (vst 109 (vwL cart mine seen (k+1)) (vwH F (.mref mb)) (qV mine.length (seen.take (k+1)) ks) (TM mb ⟨ks.map spv,vsV (seen.take (k+1)) ks⟩));rw[Je]at hset;have e:((vsV (seen.take k) ks).set j (.sl (.row 82) (th.map opv++ [opv x]))).set j (.sl (.row (1000+j)) (th.map opv++ [opv x]))=vsV (seen.take k++ [x]) ks:=by rw[Qe];exact hset
   rw[htk1,<-e];refine ZfQ (kk:=82) (d:=1000+j) (sz:=15) (k:=th.length+1) (e:=62) (c:=⟨ks.map spv,(vsV (seen.take k) ks).set j (.sl (.row 82) (th.map opv++ [opv x]))⟩) (es:=th.map opv++ [opv x]) rfl (Fc8 rfl rfl rfl rfl rfl rfl rfl rfl) (Fc3 ⟨rfl,rfl⟩ ⟨rfl,rfl⟩ ⟨rfl,rfl⟩) ?_ ?_ ?_ rfl (by omega) ?_ ?_ (λi h1 h2=> ?_) (λy hy r hr=> ?_) (λy hy c hc r hr=>by rw[ZeN (x:= .mref mb) rfl y hy c hc]at hr;cases hr) (λi h1 h2 r hr=> ?_)
   ·show upd _ mb _ mb=_;rw[Za];rfl
   ·show j<(Qj _ _ _).length;rw[KC,Ul];exact hj
   ·show(Qj _ _ _).getD j Qr=_;rw[getD_lt (by rw[KC,Ul];exact hj)];simp
   ·rw[Zgl _ _ hj,hje,Wv,hth,if_pos rfl,Ja];rfl
   ·rw[ZnP hnd hj hje (by omega)];exact q82
   ·rw[ZnP hnd hj hje h1]
    by_cases e80:i=80
    ·left;rw[e80];exact q80
    ·right;show _=upd (upd (upd (qV mine.length (seen.take k) ks) 80 _) (1000+j) _) 82 _ i;rw[Zl _ _ (λe=>h2 e.symm),Zl _ _ (λe=>h1 e.symm),Zl _ _ (λe=>e80 e.symm)]
   ·have:=ZeO (F:=F) (x:= .mref mb) (Zsg mine.length (seen.take k++ [x]) ks) y hy r hr;exact⟨this.1,this.2 _ (by omega)⟩
   ·have hi:i<ks.length:=by simpa[Ul]using h1
    have hr:r∈((Qj (vsV (seen.take k) ks) j (.sl (.row 82) (th.map opv++ [opv x]))).getD i .any).ids:=hr;rw[getD_lt (d:=Qr) (by rw[KC,Ul];exact hi),KN (Ne.symm h2),<-getD_lt (d:=Qr) (by rw[Ul];exact hi)]at hr;rw[ZoK hi r hr];refine⟨?_,by simp;omega⟩;show qV _ _ _ (1000+i)≠none;rw[Zgl _ _ hi];simp
 have htk2:seen.take k=seen:=Jk (by omega);have hks2:=hks;rw[htk2]at hks2;have g:Gh (vst 109 (vwL cart mine seen k) (vwH F (.mref mb)) (qV mine.length seen ks) (TM mb ⟨ks.map spv,vsV seen ks⟩)) (vst 109 (vwL cart mine seen k) (vwH F (.rmap (ks.map spv) (ks.map λs=>Zu (ZA seen s)))) (q59 mine.length) (λ_=>none)):=by
  refine(Gh.omToO (b:=mb) (c:=⟨ks.map spv,vsV seen ks⟩) (SK _ _) (ZoJ _ _)).trans ?_;rw[ZoL];refine(Gh.pubMap (b:=mb) (i:=15) (c:=⟨ks.map spv,ks.map λs=>Zu (ZA seen s)⟩) (Za _ _ _) rfl rfl).trans ?_;refine ZiZ rfl (Fc8 rfl rfl rfl rfl rfl rfl rfl rfl) (Fc3 ⟨rfl,rfl⟩ ⟨rfl,rfl⟩ ⟨rfl,rfl⟩) (λi=> ?_) (λi=> .inl rfl) (λy hy r hr=>(ZeO (q:=q59 mine.length) (by simp[q59,upd]) y hy r hr).1) (λy hy c hc r hr=>by rw[ZeN (x:= .rmap (ks.map spv) (ks.map λs=>Zu (ZA seen s))) rfl y hy c hc]at hr;cases hr) (λb' c' hbc=>by cases hbc);by_cases e:59=i;right;subst e;rfl;left;exact Zl _ _ e
 refine⟨_,by rw[htk2];exact g,?_⟩;have hf0:=hfill 0 [] ks hks2;have hf1:=λit=>hfill 1 it ks hks2
 generalize WV F seen 0 []=E0 at *;have hrl:(Xc mine cart).length<=1000:=by
  unfold Xc;have h1:=Tl (TN (Xm mine cart));have h2:=SI mine cart;have h3:(TN (Xm mine cart)).length=(Xm mine cart).length:=by simp[TN]
  omega
 generalize Xc mine cart=its at *;generalize hfm:(λi=>WV F seen 1 i)=fm at *;have hf1:∀it,Pp 70 [.int .i64 1,.str it,.rptr [Zh F],.rptr [.rmap (ks.map spv) (ks.map λs=>Zu (ZA seen s))]] (Yd (fm it)):=λit=>by rw[<-hfm];exact hf1 it
 have hrw:(its.map λi=>(⟨i,WV F seen 1 i⟩:Rw))=its.map λi=>⟨i,fm i⟩:=by rw[<-hfm]
 rw[hrw];obtain⟨rws,hrws⟩:∃rws:List Rw,rws=its.map λi=>⟨i,fm i⟩:=⟨_,rfl⟩
 rw[<-hrws];have hlr:its.length=rws.length:=by rw[hrws];simp
 have hgr:∀k,k<rws.length->rws.getD k Jd=⟨its.getD k [],fm (its.getD k [])⟩:=λk hk=>by
  have hki:k<its.length:=by omega
  subst hrws;rw[getD_lt hk,getD_lt hki];simp
 clear hrw hfill hrws;have him:its.length<=maxLen:=by rw[Zb];omega
 simp only[go_sem,vst,vwL,vwH,h,q59];refine vc2 hf0 ?_;simp only[go_sem,Yd];refine vc7 hI ?_;simp only[go_sem];rw[hlr];refine Zs (ι:= { k:Nat // k<=rws.length }) 109 (λx=> [(8,.ptr 8 0),(19,.fn 70 [.ptr 10 0,.ptr 15 0]),(20,.ptr 20 0),(91,.sl .no (its.map .str)),(92,.int .i64 (rws.length:Int)),(93,.int .i64 (x.1:Int))]) (λx=> [(8,[.sl .nil [],.sl .nil []],Hf),(10,[.sl .no (F.map fld)],Ht),(15,[.rmap (ks.map spv) (ks.map λs=>Zu (ZA seen s))],Ht),(20,[.sl .no (E0.map ent),ZlK 105 rws x.1],Hf)]) (λx=>ZlL 105 x.1) (λx=>rws.length-x.1) ⟨0,Jn _⟩
  ⟨rfl,(Fc6 rfl rfl rfl rfl rfl rfl),Fc4 ⟨rfl,rfl⟩ ⟨rfl,rfl⟩ ⟨rfl,rfl⟩ ⟨rfl,rfl⟩,fnl⟩ (λx=> ?_) (λx=> ?_)
 obtain⟨k,hk⟩:=x;cases k with
 |zero=>exact⟨(Fc6 rfl rfl rfl rfl rfl rfl),(Fc4 rfl rfl rfl rfl)⟩
 |succ k=>exact⟨(Fc6 rfl rfl rfl rfl rfl rfl),Fc4 rfl rfl rfl (by simp[ZlK,ZlL,Ju,Kz,ZX])⟩
 clear hk hks hks2 hnd g h htk2;obtain⟨k,hk⟩:=x;simp only;by_cases h:(k:Int)<(rws.length:Int);have hka:k<rws.length:=by omega
 have hki:k<its.length:=by omega
 have w1:=wk9 (k:=k) (by omega)
 have i1:=Jg k
 have hli:(its.map JY).length=rws.length:=by rw[Jb,hlr]
 have hO:=hf1 (its.getD k []);have hsn:(rws.take (k+1)).map row=(rws.take k).map row++ [row (rws.getD k Jd)]:=by rw[Z0 (d:=Jd) hka,Je];rfl
 rw[hgr k hka]at hsn;have hsz:=WP (rws.take k);have hr0:=Ya (show 1<=1000000 by omega) (show 40<=1000 by omega);have hln:((rws.take k).map row).length=k:=by simp;omega
 have g0:=ZQ hki;generalize its.getD k []=it at *;have hat:=Zmd [⟨it,fm it⟩];have hst:=WP [⟨it,fm it⟩];cases k with
 |zero=>
  have h':(0:Int)<(rws.length:Int):=by simpa using h
  simp only[go_sem,ZlK,ZlL,h',g0,i1,hli];refine vDq ?_;simp only[go_sem];refine vc2 hO ?_;have w0:IntKind.i64.wrap 1=1:=w64 (by omega);simp only[go_sem,Yd,w1,w0];refine⟨hr0,⟨⟨0+1,by omega⟩,nx9 (by omega),⟨rfl,(Fc6 rfl rfl rfl rfl rfl rfl),Fc4 ⟨rfl,rfl⟩ ⟨rfl,rfl⟩ ⟨rfl,rfl⟩ ⟨?_,rfl⟩,fcs rfl fnl⟩⟩⟩;show Hs [JT .no _,JT (.row 105) _]=Hs [JT .no _,JT (.row 105) _];rw[hsn];rfl
 |succ k=>
  have hl3:(rws.take (k+1)).length=k+1:=by rw[JC];omega
  have hr:=Ya (show k+1+1<=1000000 by omega) (show 40<=1000 by omega);simp only[go_sem,ZlK,ZlL,h,g0,i1,hli];refine vDq ?_;simp only[go_sem];refine vc2 hO ?_;simp only[go_sem,Yd,w1];refine⟨⟨hl3.symm,WP _,by rw[hl3];exact hr⟩,⟨⟨k+1+1,by omega⟩,by show rws.length-(k+1+1)<rws.length-(k+1);omega,⟨rfl,(Fc6 rfl rfl rfl rfl rfl rfl),Fc4 ⟨rfl,rfl⟩ ⟨rfl,rfl⟩ ⟨rfl,rfl⟩ ⟨?_,rfl⟩,fcs ?_ fnl⟩⟩⟩
  ·show Hs [JT .no _,JT (.row 105) _]=Hs [JT .no _,JT (.row 105) _];rw[hsn];rfl
  ·show Hs _=Hs _;rw[hl3]
 obtain rfl:k=rws.length:=by omega
 cases rws with
 |nil=>
  have h':¬(0:Int)<0:=by omega
  simp only[go_sem,ZlK,ZlL,h'];rfl
 |cons r rs=>
  have ht:(r::rs).take (rs.length+1)=r::rs:=JJ (l:=r::rs);have h':¬((rs.length+1:Nat):Int)<((rs.length+1:Nat):Int):=by omega
  simp only[go_sem,ZlK,ZlL,h',ht];rw[JJ];rfl
theorem Us:doc Jd= .agg [.sl .no [],.sl .no []]:=rfl
theorem VX (m:List Eg) (l:List Opn) (cart:Str) (b:Tg) (hm:OkM m) (hr:RightM m) (hl:l.length<=20) (ho:∀o∈l,OkOp o) (hU:(l.map Opn.id).Nodup):
  Pp 28 [tr (Zd m),Zu l,.str cart,tg b] (UG (ZT m l cart b)):=by
 unfold ZT;have h1:¬400<(l.length:Int):=by omega
 rw[if_neg h1];have hN:=Xv cart;cases h2:Yj cart;rw[h2]at hN;rw[if_pos rfl];refine Zx func28 rfl ntmps28 results28 (Vo _) ?_;simp only[go_sem,tr,Zu,tg,h1];refine vc1 hN ?_;simp only[go_sem];simp only[UG,Us];rw[if_neg (by simp)];by_cases h3:(Ye (Zd m) b).2=0;rw[if_neg (by simpa using h3)];exact Zl3 m l cart b hm hr (by omega) ho hU h2 h3;rw[if_pos h3];rw[h2]at hN;have hS:=XH m b hm;have e3:((Ye (Zd m) b).2 !=0)=true:=by simpa using h3
 generalize Ye (Zd m) b=X at *;obtain⟨F,xc⟩:=X;simp only at h3 e3 ⊢;refine Zx func28 rfl ntmps28 results28 (Vo _) ?_;simp only[go_sem,tr,Zu,tg,h1];refine vc1 hN ?_;simp only[go_sem];refine vc5 hS ?_;simp only[go_sem,ZP,Zh,e3];simp only[UG,Us]
open Go.PL Go.PL.Srt
def svA:Opn:=⟨⟨1,1⟩,Jd,1,[97],1,[112,101,97,114],Jd,0,Hf,[],[]⟩
theorem Znx (e:En):(ent e).nomap=true:=by simp only[ent,PV.nomap,PV.nomapL,SJ,Kf]
open Go.PL Go.PL.Srt
theorem ZqW (f:Fd) (ops:List Opn):(Ta f ops).l.length<=ops.length+1:=by
 have h1:(Z6 f).l.length<=1:=by unfold Z6;simp only;split<;>simp
 have h2:=U7 ops;unfold Ta;split;simp only;omega;simp only;split;omega;split;omega;simp
theorem GZ (l:List Opn) (c:Str):(Xc l c).length<=l.length:=by
 unfold Xc;have h1:=Tl (TN (Xm l c));have h2:=SI l c;have h3:(TN (Xm l c)).length=(Xm l c).length:=by simp[TN]
 omega
theorem ZfB {F:List Fd} {seen:List Opn} {sc:Int} {it:Str}:(WV F seen sc it).length<=F.length/\ ∀e∈WV F seen sc it,e.l.length<=seen.length+1:=by
 refine⟨by unfold WV;rw[Jb];exact Jm _ _,λe he=> ?_⟩;obtain⟨f,_,rfl⟩:=Jo.1 he;have:=ZqW f (ZA seen ⟨it,f.at'⟩);have:=ZbN seen ⟨it,f.at'⟩;omega
theorem ZoI {m:List Eg} {l:List Opn} {cart:Str} {b:Tg} (hm:OkM m):ZoX (ZT m l cart b).1:=by
 have hd:ZoX (Jd:Dc):=⟨Jn _,Jn _,(λe h=>by cases h),(λe h=>by cases h)⟩;unfold ZT;split;exact hd;split;exact hd;split;exact hd;rename_i h1 _ h3;have hF:=(G9 hm (a:=b) (show(Ye (Zd m) b).2=0 from JX.1 h3)).n;have hs:=Ug m (Yq (Xk m l) cart) b;have hmi:(Yq (Xk m l) cart).length<=(Xk m l).length:=Jm _ _;have hli:=Uv m l;have hit:=GZ (Yq (Xk m l) cart) cart;generalize (Ye (Zd m) b).1=F at *;generalize YK m (Yq (Xk m l) cart) b=seen at *;have f:=λsc it=>ZfB (F:=F) (seen:=seen) (sc:=sc) (it:=it)
 refine⟨by have:=(f 0 []).1;rw[Zb];simp only;omega,by rw[Zb];simp only[Jb];omega,λe he=> ?_,λr hr=> ?_⟩;have:=(f 0 []).2 e he;rw[Zb];omega;simp only[Jo]at hr;obtain⟨i,_,rfl⟩:=hr;refine⟨by have:=(f 1 i).1;rw[Zb];simp only;omega,λe he=> ?_⟩;have:=(f 1 i).2 e he;rw[Zb];omega
theorem Zll {α:Type} {lt:α->α->Bool} (g:Srt.Good lt) {L:List α} (h:Unl lt L) (p:α->Bool):(srt lt L).filter p=srt lt (L.filter p):=by
 symm;exact Zrw g (J6.sublist JS (ZbL g h)) ((WQ L).filter p)
theorem Zhi {m:List Eg} {l:List Opn} (h:(l.map Opn.id).Nodup):Unl ZJ (UL m l):=ZbQ (Ki.sublist ((UM m l).map _) h)
theorem Znj {m:List Eg} {l:List Opn} (h:(l.map Opn.id).Nodup) (c:Str):Yq (Xk m l) c=srt ZJ (l.filter λo=>(o.cart==c)&&((!XQ (X8 m l) o.id)&&X9 m o)):=by
 unfold Yq Xk;rw[Zll oless_good (Zhi h)];unfold UL X8;rw[J7,J7];exact congrArg _ (Kt λo _=>Bool.and_assoc _ _ _)
theorem ZlF {m:List Eg} {l l':List Opn} {cart:Str} {b:Tg} (h1:l.length<=400) (h2:l'.length<=400) (h:Yq (Xk m l) cart=Yq (Xk m l') cart):ZT m l cart b=ZT m l' cart b:=by
 unfold ZT;rw[if_neg (show ¬400<(l.length:Int)by omega),if_neg (show ¬400<(l'.length:Int)by omega),h]
theorem Znu {l l':List Opn} (h:(l.map Opn.id).Nodup) (s:l'.Sublist l):(l'.map Opn.id).Nodup:=Ki.sublist (s.map _) h
open Go.PL
structure OkDd (d:Dc):Prop where
 h:d.head.length<=100000
 r:d.rows.length<=100000
 e:∀e∈d.head,e.l.length<=1000000
 s:∀r∈d.rows,r.l.length<=100000/\ ∀e∈r.l,e.l.length<=1000000
theorem OkDd.fine {d:Dc} (h:OkDd d):ZoX d:=by
 have e:=Zb;refine⟨by have:=h.h;omega,by have:=h.r;omega,λx hx=>by have:=h.e x hx;omega,λr hr=>⟨by have:=(h.s r hr).1;omega,λx hx=>by have:=(h.s r hr).2 x hx;omega⟩⟩
theorem ZiU {L:List Fd} {es:List En} (h:Yr L es=Ht):es.length=L.length:=by
 simp only[Yr,Jj,decide_eq_true_eq]at h;exact h.1.symm
theorem VS {m:List Fd} {d:Dc} (h:YB m d=Ht):d.head.length=(ZY m 0).length/\d.rows.length<=400/\(∀r∈d.rows,r.l.length=(ZY m 1).length)/\(ZY m 0).length<=16/\(ZY m 1).length<=16:=by
 simp only[YB,T4,Jj,KY,decide_eq_false_iff_not,J3,JN]at h;obtain⟨⟨h1,h2,h3⟩,h4⟩:=h;have h16:=Fe h1;have hs:∀sc,(ZY m sc).length<=16:=λsc=>Js (Jm _ _) h16
 refine⟨ZiU h3,by omega,λr hr=> ?_,hs 0,hs 1⟩;obtain⟨i,hi,rfl⟩:=JD hr;have:=h4 i hi;simp only[XT,Jj]at this;have e1:=ZiU this.2;rw[getD_lt hi]at e1;exact e1
theorem Vc (it:Str) (a b:List En):(Z2 it a b).length<=a.length:=Ud it a b a.length
theorem GO (x:PV) (l:List Rw):PL.cut (x::l.map row) 1 ((l.length+1:Nat):Int)=l.map row:=by
 have e:((l.length+1:Nat):Int).toNat=l.length+1:=by omega
 simp[PL.cut,e,Jk]
structure DiX (p q:List Rw) (h0:List Cg) where
 P:List Rw
 Q:List Rw
 acc:List Cg
 id:Nat
 hP:∀r∈P,r∈p
 hQ:∀r∈Q,r∈q
 hl:acc.length+16*(P.length+Q.length)<=16+16*(p.length+q.length)
 h:acc++Y9 P Q=h0++Y9 p q
 hid:id=25\/id=91\/id=121\/id=44
def SU (x:List Cg) (c:Int):PV:= .tup [Tk x,.int .i64 c]
theorem VN (x:List Cg) (c:Int):(SU x c).dids= []:=by simp only[SU,KM,Kx,ZaO,Jl]
theorem ZjT (l:List Fd) (a b:Dc) (hl:l.length<=maxLen) (hl':∀f∈l,f.cases'.length<=1000000) (ha:OkDd a) (hb:OkDd b):
  Pp 34 [Zh l,doc a,doc b] (SU (WG l a b).1 (WG l a b).2):=by
 have hRa:=Zar l a hl hl' ha.fine;have hRb:=Zar l b hl hl' hb.fine;unfold WG;cases hra:YB l a;rw[hra]at hRa;rw[if_pos (.inl rfl)];refine Zx func34 rfl ntmps34 results34 (VN _ _) ?_;simp only[go_sem,Zh,doc];refine TA ?_;simp only[go_sem];refine vc2 hRa ?_;simp only[go_sem,SU,Tk];cases hrb:YB l b;rw[hra]at hRa;rw[hrb]at hRb;rw[if_pos (.inr rfl)];refine Zx func34 rfl ntmps34 results34 (VN _ _) ?_;simp only[go_sem,Zh,doc];refine TA ?_;simp only[go_sem];refine vc2 hRa ?_;simp only[go_sem,SU,Tk];refine vc2 hRb ?_;simp only[go_sem,SU,Tk];rw[hra]at hRa;rw[hrb]at hRb;rw[if_neg (by simp)];obtain⟨a1,a2,a3,a4,a5⟩:=VS hra;obtain⟨b1,b2,b3,_,_⟩:=VS hrb;have hO:=Zk0 [] a.head b.head ha.h (by omega) ha.e hb.e;refine Zx func34 rfl ntmps34 results34 (VN _ _) ?_;simp only[go_sem,Zh,doc];refine ZeM (ι:=DiX a.rows b.rows (Z2 [] a.head b.head)) 124 (λx=> [(8,.sl (.row x.id) (x.acc.map chg)),(9,.sl .no (x.P.map row)),(10,.sl .no (x.Q.map row))]) (λx=> []) (λx=> [(x.id,.live x.acc.length 13 67)]) (λx=>x.P.length+x.Q.length) 0 _ (by exact rfl) (λx=>⟨Fc3 (by simp[Ju,ZX]) rfl rfl,fnl⟩) (λx=> ?_) (λcut=> ?_)
 ·obtain⟨P,Q,acc,id,hP,hQ,hl,h,hid⟩:=x;simp only;cases P with
  |nil=>
   cases Q with
   |nil=>
    rw[Y9,Jl]at h;rw[<-h];simp only[go_sem,SU,Tk]
   |cons q qs=>
    have r0:(0:Int)<=0:=by omega
    have hml:(acc.map chg).length=acc.length:=Jb _;have hsz:=Wb acc;have hrm:=Ya (show acc.length+1<=1000000 by have:=Jn;simp only[Jh,Jq]at hl;omega) (show 192<=1000 by omega);have hl0:True:=trivial;have hg0:True:=trivial;have kl0:(((qs.length+1:Nat):Int)==0)=false:=by simp;omega
    have kg0:(0:Int)<((qs.length+1:Nat):Int):=by omega
    have ks1:(1:Int)<=((qs.length+1:Nat):Int):=by omega
    have ksr:=WP qs;have hO2:=GA q.l (hb.s q (hQ q (by simp))).1 (hb.s q (hQ q (by simp))).2;simp only[go_sem,row,hl0,hg0,kl0,kg0,r0];refine vDq ?_;simp only[go_sem,row,hl0,hg0,kl0,kg0,r0];refine vDq ?_;simp only[go_sem,row,hl0,hg0,kl0,kg0,r0];refine vDq ?_;simp only[go_sem,row,hl0,hg0,kl0,kg0,r0];refine vc1 hO2 ?_;rcases hid with rfl|rfl|rfl|rfl
    all_goals
     simp only[go_sem,row,hl0,hg0,kl0,kg0,r0,Yd,hml,hsz,hrm,ZZ,Yz,JU,GO,ks1,ksr];exact⟨⟨[],qs,acc++ [DP q],121,hP,λx hx=>hQ x (by simp[hx]),by simp only[Ja,Jh,Jq]at hl ⊢;omega,by rw[<-h,Y9,Jv];rfl,.inr (.inr (.inl rfl))⟩,by show _+qs.length<_+(q::qs).length;simp only[Jh];omega,⟨rfl,Fc3 (by show JT _ _=JT _ _;rw[Je];rfl) rfl rfl,fnl,fcs (by show Hs (Row.live _ 13 _)=Hs (Row.live _ 13 _);rw[Ja];rfl) fnl⟩⟩
  |cons r ps=>
   cases Q with
   |nil=>
    have r0:(0:Int)<=0:=by omega
    have hml:(acc.map chg).length=acc.length:=Jb _;have hsz:=Wb acc;have hrm:=Ya (show acc.length+1<=1000000 by have:=Jn;simp only[Jh,Jq]at hl;omega) (show 192<=1000 by omega);have hl0:(((ps.length+1:Nat):Int)==0)=false:=by simp;omega
    have hg0:(0:Int)<((ps.length+1:Nat):Int):=by omega
    have hs1:(1:Int)<=((ps.length+1:Nat):Int):=by omega
    have hsr:=WP ps;have kl0:True:=trivial;have kg0:True:=trivial;have hO1:=GA r.l (ha.s r (hP r (by simp))).1 (ha.s r (hP r (by simp))).2;simp only[go_sem,row,hl0,hg0,kl0,kg0,r0];refine vDq ?_;simp only[go_sem,row,hl0,hg0,kl0,kg0,r0];refine vDq ?_;simp only[go_sem,row,hl0,hg0,kl0,kg0,r0];refine vc1 hO1 ?_;rcases hid with rfl|rfl|rfl|rfl
    all_goals
     simp only[go_sem,row,hl0,hg0,kl0,kg0,r0,Yd,hml,hsz,hrm,ZZ,Yz,JU,GO,hs1,hsr];exact⟨⟨ps,[],acc++ [Fq r],91,λx hx=>hP x (by simp[hx]),hQ,by simp only[Ja,Jh,Jq]at hl ⊢;omega,by rw[<-h,Y9,Jv];rfl,.inr (.inl rfl)⟩,by show ps.length+_<(r::ps).length+_;simp only[Jh];omega,⟨rfl,Fc3 (by show JT _ _=JT _ _;rw[Je];rfl) rfl rfl,fnl,fcs (by show Hs (Row.live _ 13 _)=Hs (Row.live _ 13 _);rw[Ja];rfl) fnl⟩⟩
   |cons q qs=>
    have r0:(0:Int)<=0:=by omega
    have hml:(acc.map chg).length=acc.length:=Jb _;have hsz:=Wb acc;have hrm:=Ya (show acc.length+1<=1000000 by have:=Jn;simp only[Jh,Jq]at hl;omega) (show 192<=1000 by omega);have hl0:(((ps.length+1:Nat):Int)==0)=false:=by simp;omega
    have hg0:(0:Int)<((ps.length+1:Nat):Int):=by omega
    have hs1:(1:Int)<=((ps.length+1:Nat):Int):=by omega
    have hsr:=WP ps;have kl0:(((qs.length+1:Nat):Int)==0)=false:=by simp;omega
    have kg0:(0:Int)<((qs.length+1:Nat):Int):=by omega
    have ks1:(1:Int)<=((qs.length+1:Nat):Int):=by omega
    have ksr:=WP qs;have hO1:=GA r.l (ha.s r (hP r (by simp))).1 (ha.s r (hP r (by simp))).2;have hO2:=GA q.l (hb.s q (hQ q (by simp))).1 (hb.s q (hQ q (by simp))).2;cases c1:ZH r.item q.item
    ·cases c2:ZH q.item r.item
     ·have hO3:=ZhZ q.item r.l q.l (ha.s r (hP r (by simp))).1 (by rw[a3 r (hP r (by simp)),b3 q (hQ q (by simp))];exact KG _) (ha.s r (hP r (by simp))).2 (hb.s q (hQ q (by simp))).2;have hol:=Vc q.item r.l q.l;have ha3:=a3 r (hP r (by simp));rw[Y9,if_neg (by rw[c1];simp),if_neg (by rw[c2];simp)]at h;have hos:=Wb (Z2 q.item r.l q.l);have hoa:=Zfk (Z2 q.item r.l q.l);have hom:((Z2 q.item r.l q.l).map chg).length=(Z2 q.item r.l q.l).length:=Jb _;have hro:=Ya (show acc.length+(Z2 q.item r.l q.l).length<=1000000 by simp only[Jh,Jq]at hl;omega) (show 192<=1000 by omega);simp only[go_sem,row,hl0,hg0,kl0,kg0,r0,c1,c2];refine vDq ?_;simp only[go_sem,row,hl0,hg0,kl0,kg0,r0,c1,c2];refine vDq ?_;simp only[go_sem,row,hl0,hg0,kl0,kg0,r0,c1,c2];refine vDq ?_;simp only[go_sem,row,hl0,hg0,kl0,kg0,r0,c1,c2];refine vc1 hO3 ?_;rcases hid with rfl|rfl|rfl|rfl
      all_goals
       simp only[go_sem,row,hl0,hg0,kl0,kg0,r0,c1,c2,Tk,hml,hsz,hos,hoa,hom,hro,ZZ,Yz];refine vDq ?_;simp only[go_sem,row,hl0,hg0,kl0,kg0,r0,c1,c2,JU,GO,hs1,hsr,ks1,ksr];exact⟨⟨ps,qs,acc++Z2 q.item r.l q.l,44,λx hx=>hP x (by simp[hx]),λx hx=>hQ x (by simp[hx]),by simp only[Ja,Jh,Jq]at hl ⊢;omega,by rw[<-h,Jv],.inr (.inr (.inr rfl))⟩,by show ps.length+qs.length<(r::ps).length+(q::qs).length;simp only[Jh];omega,⟨rfl,Fc3 (by show JT _ _=JT _ _;rw[Je]) rfl rfl,fnl,fcs (by show Hs (Row.live _ 13 _)=Hs (Row.live _ 13 _);rw[Ja]) fnl⟩⟩
     ·rw[Y9,if_neg (by rw[c1];simp),if_pos c2]at h;simp only[go_sem,row,hl0,hg0,kl0,kg0,r0,c1,c2];refine vDq ?_;simp only[go_sem,row,hl0,hg0,kl0,kg0,r0,c1,c2];refine vDq ?_;simp only[go_sem,row,hl0,hg0,kl0,kg0,r0,c1,c2];refine vDq ?_;simp only[go_sem,row,hl0,hg0,kl0,kg0,r0,c1,c2];refine vc1 hO2 ?_;rcases hid with rfl|rfl|rfl|rfl
      all_goals
       simp only[go_sem,row,hl0,hg0,kl0,kg0,r0,c1,c2,Yd,hml,hsz,hrm,ZZ,Yz,JU,GO,hs1,hsr,ks1,ksr];exact⟨⟨r::ps,qs,acc++ [DP q],121,hP,λx hx=>hQ x (by simp[hx]),by simp only[Ja,Jh,Jq]at hl ⊢;omega,by rw[<-h,Jv];rfl,.inr (.inr (.inl rfl))⟩,by show _+qs.length<_+(q::qs).length;simp only[Jh];omega,⟨rfl,Fc3 (by show JT _ _=JT _ _;rw[Je];rfl) rfl rfl,fnl,fcs (by show Hs (Row.live _ 13 _)=Hs (Row.live _ 13 _);rw[Ja];rfl) fnl⟩⟩
    ·rw[Y9,if_pos c1]at h;simp only[go_sem,row,hl0,hg0,kl0,kg0,r0,c1];refine vDq ?_;simp only[go_sem,row,hl0,hg0,kl0,kg0,r0,c1];refine vDq ?_;simp only[go_sem,row,hl0,hg0,kl0,kg0,r0,c1];refine vc1 hO1 ?_;rcases hid with rfl|rfl|rfl|rfl
     all_goals
      simp only[go_sem,row,hl0,hg0,kl0,kg0,r0,c1,Yd,hml,hsz,hrm,ZZ,Yz,JU,GO,hs1,hsr,ks1,ksr];exact⟨⟨ps,q::qs,acc++ [Fq r],91,λx hx=>hP x (by simp[hx]),hQ,by simp only[Ja,Jh,Jq]at hl ⊢;omega,by rw[<-h,Jv];rfl,.inr (.inl rfl)⟩,by show ps.length+_<(r::ps).length+_;simp only[Jh];omega,⟨rfl,Fc3 (by show JT _ _=JT _ _;rw[Je];rfl) rfl rfl,fnl,fcs (by show Hs (Row.live _ 13 _)=Hs (Row.live _ 13 _);rw[Ja];rfl) fnl⟩⟩
 simp only[go_sem];refine vc2 hRa ?_;simp only[go_sem];refine vc2 hRb ?_;simp only[go_sem];refine ZjF 25 hO (by simp[Ju,Yd]) rfl ?_ ?_;simp only[go_sem,Yd];simp only[go_sem];refine vDq ?_;simp only[go_sem];refine YX (cut ⟨a.rows,b.rows,Z2 [] a.head b.head,25,λ_ h=>h,λ_ h=>h,?_,rfl,.inl rfl⟩ _ ⟨rfl,Fc3 rfl rfl rfl,fnl,fcs rfl fnl⟩);have:=Vc [] a.head b.head;omega
open Go.PL
def ZyB (v:List Int):PV:= .agg (v.map (.int .i64))
def ZyM (v:List Int) (t:Tg):Bool:=F0 t&&decide (t.n<=v.getD (t.r-1).toNat 0)
structure Mo where
 id:Tg
 l:List Cg
deriving DecidableEq,Inhabited
def mo (x:Mo):PV:= .agg [.int .i64 x.id.r,.int .i64 x.id.n,.sl .no (x.l.map chg)]
def mos (l:List Mo):PV:= .sl .no (l.map mo)
theorem vc9 {x:Bool} {M:KH} {g:FuncId} {args args':List PV} {K:KR} {r:PV} (h1:Pp g args' r) (h2:K.k r M.m) (h0:KI M.m args:=by first|(simp only[go_sem,ref,ent,Yd,doc,Yo,row,Zh,fld,lns,tg,refs,prs,pr,eg,egs,tgs,lg,lgs,Zf,opv,tr,Zu,chg,Tk,mo,mos,ZyB];done)|exact rfl) (he:K9 M.m args=args':=by first|(simp only[go_sem,ref,ent,Yd,doc,Yo,row,Zh,fld,lns,tg,refs,prs,pr,eg,egs,tgs,lg,lgs,Zf,opv,tr,Zu,chg,Tk,mo,mos,ZyB];done)|exact rfl):@U9 prog x M (Hs (g,args)) K:=YD h1 h0 he h2
def Gx (x:List Mo×Int):PV:= .tup [mos x.1,.int .i64 x.2]
def Zb9:Nat->List Rw->List Rw->List Cg
 |0,_,_=> []
 |_+1,[],[]=> []
 |n+1,p::ps,[]=>Fq p::Zb9 n ps []
 |n+1,[],q::qs=>DP q::Zb9 n [] qs
 |n+1,p::ps,q::qs=>if ZH p.item q.item=Ht then Fq p::Zb9 n ps (q::qs)else if ZH q.item p.item=Ht then DP q::Zb9 n (p::ps) qs else Z2 q.item p.l q.l++Zb9 n ps qs
theorem SB:∀(n:Nat) (p q:List Rw),p.length+q.length<n->Y9 p q=Zb9 n p q
 |0,_,_,h=>by omega
 |n+1,[],[],_=>by rw[Y9];rfl
 |n+1,p::ps,[],h=>by
  rw[Y9,Zb9,SB n ps [] (by simp at h ⊢;omega)]
 |n+1,[],q::qs,h=>by
  rw[Y9,Zb9,SB n [] qs (by simp at h ⊢;omega)]
 |n+1,p::ps,q::qs,h=>by
  rw[Y9,Zb9,SB n ps (q::qs) (by simp at h ⊢;omega),SB n (p::ps) qs (by simp at h ⊢;omega),SB n ps qs (by simp at h ⊢;omega)]
def Zhv (l:List Fd) (a b:Dc):List Cg×Int:=if YB l a=Hf\/YB l b=Hf then([],5)else(Z2 [] a.head b.head++Zb9 1000000 a.rows b.rows,0)
theorem ZpH {l:List Fd} {a b:Dc} (h:a.rows.length+b.rows.length<1000000):WG l a b=Zhv l a b:=by
 unfold WG Zhv;rw[SB 1000000 _ _ h]
def Zbu (m:List Eg) (o:Opn) (cart:Str):Bool:=((o.cart==cart)||decide (0<o.drops.length))&&decide (0<(Xk m [o]).length)
def FS (m:List Eg) (F:List Fd) (cart:Str) (b:Tg):List Opn->Dc->List Opn->List Mo->List Mo×Int
 |_,_,[],acc=>(acc,0)
 |ah,was,o::s,acc=>
  if Zbu m o cart=Hf then FS m F cart b ah was s acc
  else if(ZT m (ah++ [o]) cart b).2≠0 then([],(ZT m (ah++ [o]) cart b).2)
  else if(WG F was (ZT m (ah++ [o]) cart b).1).2≠0 then([],(WG F was (ZT m (ah++ [o]) cart b).1).2)
  else FS m F cart b (ah++ [o]) (ZT m (ah++ [o]) cart b).1 s (if(WG F was (ZT m (ah++ [o]) cart b).1).1= []then acc else acc++ [⟨o.id,(WG F was (ZT m (ah++ [o]) cart b).1).1⟩])
def Zcb (m:List Eg) (l:List Opn) (cart:Str) (b:Tg):List Mo×Int:=
 if(ZT m l cart b).2≠0 then([],(ZT m l cart b).2)else if(Ye (Zd m) b).2≠0 then([],(Ye (Zd m) b).2)
 else if(ZT m [] cart b).2≠0 then([],(ZT m [] cart b).2)else FS m (Ye (Zd m) b).1 cart b [] (ZT m [] cart b).1 (Srt.srt ZJ l) []
def Vx (c:Cg) (item:Str) (place:Rf):Bool:=(c.item==item)&&((c.kind==2)||((c.kind==1)&&decide (c.now.at'=place)))
open Go.PL
@[go_sem] theorem Ztb (m:Hp) (k:IntKind) (l:List Int):K9 m (l.map (.int k))=l.map (.int k):=by
 induction l with
 |nil=>rfl
 |cons a l ih=>simp only[Jr,K9,ih,PV.give]
@[go_sem] theorem ZpR (m:Hp) (k:IntKind) (l:List Int):KI m (l.map (.int k))=True:=by
 induction l with
 |nil=>rfl
 |cons a l ih=>simp only[Jr,KI,ih,Qm,and_self]
end Go.Proofs.YtadgngamdofhiaaGreat
namespace Go.PL
end Go.PL
namespace Go.Proofs.YtadgngamdofhiaaGreat
open Go.PL
open Go.PL
open Go.PL Go.PL.Srt
theorem Zg0 (a b:Opn):Pp 32 [opv a,opv b] (.int .i64 (Zgc a b)):=by
 have h1:=Su a b;have h2:=Su b a;unfold Zgc;cases e1:ZJ a b
 ·cases e2:ZJ b a;all_goals
   rw[e1]at h1;rw[e2]at h2;refine ZM func32 rfl ntmps32 results32 ?_;simp only[go_sem,opv];refine vc6 h1 ?_;simp only[go_sem];refine vc6 h2 ?_;simp only[go_sem]
 rw[e1]at h1;refine ZM func32 rfl ntmps32 results32 ?_;simp only[go_sem,opv];refine vc6 h1 ?_;simp only[go_sem]
theorem ZnI:SortK opv 32 ZJ Zgc where
 len _:=rfl
 atom a:=rfl
 ids a:=by simp[opv,Ju,Kz]
 known _:=rfl
 give a m:=by simp[opv,PV.give,K9]
 givable a m:=by simp[opv,Qm,KI]
 part a:=rfl
 cmp:=Zg0
 cv a b:=by
  unfold Zgc;cases h1:ZJ a b
  ·cases h2:ZJ b a<;>simp
  ·simp
 good:=oless_good
theorem ZeU (x:Opn) (l:List Opn) (hl:(x::l).length<=100000):
  Eff prog 30 [Zu (x::l)] noV (.vsl 7 (x::l).length 15) (ZiA 7 (x::l).length 15 62 ((x::l).map opv)):=by
 have hcl:∀l:List Opn,∀p∈l.map opv,p.ids= []:=λl=>WJ UE l
 refine Eff.vn [5,7] func30 (by decide) rfl ntmps30 results30 (by simp) (hcl _) (by simp[Ju,Zu]) (by simp[Ju]) ?_;simp only[go_sem,Zu];have hm:∀p∈opv x::l.map opv,∃y,p=opv y:=λp hp=>by
  rcases Jt.1 hp with rfl|hp;exact⟨x,rfl⟩;obtain⟨y,_,rfl⟩:=Jo.1 hp;exact⟨y,rfl⟩
 have hc:∀p∈opv x::l.map opv,p.ids= []:=λp hp=>by obtain⟨y,rfl⟩:=hm p hp;exact UE y
 have hrm:=Ya (show l.length+1<=1000000 by simp only[Jh]at hl;omega) (show 176<=1000 by omega);refine⟨λp hp=>by obtain⟨y,rfl⟩:=hm p hp;exact⟨rfl,rfl⟩,hc,λp hp=>by rw[hc p hp];simp,hrm,?_⟩;exact Zhz (r0:= .vsl 7 _ 15) hc rfl (.keep _ (by intro i hi;simp[Ju]at hi;subst hi;exact⟨_,Ji.2 rfl,rfl⟩)) rfl rfl
theorem ZjY (m:List Eg) (o:Opn) (cart:Str) (hm:OkM m) (ho:OkOp o):Pp 33 [tr (Zd m),opv o,.str cart] (.bool (Zbu m o cart)):=by
 have hA:=ZjO m [o] hm (by simp) (λx hx=>by rw[Ji.1 hx];exact ho) (by simp);have hr0:=Ya (show 1<=1000000 by omega) (show 176<=1000 by omega);have hsx:Sized 15 [opv o]:=Yv [o];have hax:XO [opv o]:=WE [o];have hll:=Uv m [o];generalize hL:Xk m [o]=L at *;have hml:(L.map opv).length=L.length:=Jb _;simp only[Zu,Jr,J9]at hA;simp only[opv]at hsx hax;have hd:(o.drops.map tg).length=o.drops.length:=Jb _;unfold Zbu;rw[hL];cases k1:(o.cart==cart);by_cases k2:o.drops.length=0;have e2:(((o.drops.length:Nat):Int)==0)=true:=by rw[k2];rfl
 have e3:decide (0<o.drops.length)=false:=by simp[k2]
 rw[e3];refine ZM func33 rfl ntmps33 results33 ?_;simp only[go_sem,tr,opv,tgs,k1,hd,e2];rfl;have e2:(((o.drops.length:Nat):Int)==0)=false:=by rw[beq_eq_false_iff_ne];omega
 have e3:decide (0<o.drops.length)=true:=by simp;omega
 rw[e3];refine ZM func33 rfl ntmps33 results33 ?_;simp only[go_sem,tr,opv,tgs,k1,hd,e2,hsx,hax,hr0];refine vc7 hA ?_;simp only[go_sem,hml];simp;refine ZM func33 rfl ntmps33 results33 ?_;simp only[go_sem,tr,opv,tgs,k1,hsx,hax,hr0];refine vc7 hA ?_;simp only[go_sem,hml];simp
theorem Zd7 {l:List Mo} {k:Nat} (h:k<l.length):(l.map mo).getD k .any=mo (l.getD k Jd):=XR h
theorem Zah (l:List Mo):Sized 3 (l.map mo):=λe he=>by
 obtain⟨t,_,rfl⟩:=Jo.1 he;rfl
theorem ZiK (l:List Mo):XO (l.map mo):=λe he=>by
 obtain⟨t,_,rfl⟩:=Jo.1 he;rfl
theorem Znl (x:Mo):(mo x).dids= []:=by simp only[mo,KM,Kx,Zfu,Jl]
theorem ZiO (l:List Mo):Kx (l.map mo)= []:=by
 induction l with
 |nil=>rfl
 |cons t l ih=>simp only[Jr,Kx,ih,Znl,Jl]
theorem Zqb (l:List Mo):(mos l).dids= []:=by simp only[mos,KM,ZiO]
theorem Uc (x:List Mo×Int):(Gx x).dids= []:=by simp only[Gx,KM,Kx,Zqb,Jl]
theorem TC {m:List Eg} {l:List Opn} {cart:Str} {b:Tg} (hm:OkM m):OkDd (ZT m l cart b).1:=by
 have hd:OkDd (Jd:Dc):=⟨Jn _,Jn _,(λe h=>by cases h),(λe h=>by cases h)⟩;unfold ZT;split;exact hd;split;exact hd;split;exact hd;rename_i h1 _ h3;have hF:=(G9 hm (a:=b) (show(Ye (Zd m) b).2=0 from JX.1 h3)).n;have hs:=Ug m (Yq (Xk m l) cart) b;have hmi:(Yq (Xk m l) cart).length<=(Xk m l).length:=Jm _ _;have hli:=Uv m l;have hit:=GZ (Yq (Xk m l) cart) cart;generalize (Ye (Zd m) b).1=F at *;generalize YK m (Yq (Xk m l) cart) b=seen at *;have f:=λsc it=>ZfB (F:=F) (seen:=seen) (sc:=sc) (it:=it)
 refine⟨by have:=(f 0 []).1;simp only;omega,by simp only[Jb];omega,λe he=> ?_,λr hr=> ?_⟩;have:=(f 0 []).2 e he;omega;simp only[Jo]at hr;obtain⟨i,_,rfl⟩:=hr;refine⟨by have:=(f 1 i).1;simp only;omega,λe he=> ?_⟩;have:=(f 1 i).2 e he;omega
structure HisS (m:List Eg) (F:List Fd) (cart:Str) (b:Tg) (s:List Opn) (R:List Mo×Int) where
 k:Nat
 ah:List Opn
 was:Dc
 acc:List Mo
 hk:k<=s.length
 ha:ah.Sublist (s.take k)
 hw:OkDd was
 hl:acc.length<=k
 h:FS m F cart b ah was (s.drop k) acc=R
open Go.PL Go.PL.Srt
theorem ZlS (m:List Eg) (x0:Opn) (l0:List Opn) (cart:Str) (b:Tg) (hm:OkM m) (hr:RightM m) (hl:(x0::l0).length<=20) (ho:∀o∈x0::l0,OkOp o) (hU:((x0::l0).map Opn.id).Nodup)
  (hv:(ZT m (x0::l0) cart b).2=0) (hs:(Ye (Zd m) b).2=0) (hn:(ZT m [] cart b).2=0):
  Pp 10 [tr (Zd m),Zu (x0::l0),.str cart,tg b] (Gx (FS m (Ye (Zd m) b).1 cart b [] (ZT m [] cart b).1 (srt ZJ (x0::l0)) [])):=by
 have hcl:∀l:List Opn,∀p∈l.map opv,p.ids= []:=λl=>WJ UE l
 have hV:=VX m (x0::l0) cart b hm hr hl ho hU;have hS:=XH m b hm;have hN:=VX m [] cart b hm hr (by simp) (λo h=>by cases h) (by simp);have hC:=ZeU x0 l0 (by omega);have hSS:=SV ZnI 62 (x0::l0).length (by omega) (x0::l0) (ZbQ hU) rfl _ rfl;have hF:=G9 hm (a:=b) hs;have hpm:=WQ (lt:=ZJ) (x0::l0);have hVa:=λah (h0:ah.length<=20) (h1:∀o∈ah,OkOp o) (h2:(ah.map Opn.id).Nodup)=>VX m ah cart b hm hr h0 h1 h2
 have hPl:=λo (h:OkOp o)=>ZjY m o cart hm h
 have hvo:=λah=>TC (m:=m) (l:=ah) (cart:=cart) (b:=b) hm
 have hsU:((srt ZJ (x0::l0)).map Opn.id).Nodup:=(hpm.map Opn.id).nodup_iff.2 hU;have hso:∀o∈srt ZJ (x0::l0),OkOp o:=λo h=>ho o (hpm.mem_iff.1 h)
 have hsl:(srt ZJ (x0::l0)).length=(x0::l0).length:=hpm.length_eq;have hwd:=hvo [];have e1:((ZT m (x0::l0) cart b).2 !=0)=false:=by simp[hv]
 have e2:((Ye (Zd m) b).2 !=0)=false:=by simp[hs]
 have e3:((ZT m [] cart b).2 !=0)=false:=by simp[hn]
 generalize hL:x0::l0=L at *;generalize srt ZJ L=s at *;generalize ZT m L cart b=V at *;generalize hW:ZT m [] cart b=W at *;obtain⟨vd,vc⟩:=V;obtain⟨⟨wh,wr⟩,wc⟩:=W;generalize Ye (Zd m) b=X at *;obtain⟨F,xc⟩:=X;simp only at hv hs hn e1 e2 e3 hF hwd ⊢;subst hv hs hn;generalize hR:FS m F cart b [] ⟨wh,wr⟩ s []=R;have hlm:s.length<=maxLen:=by rw[Zb];omega
 simp only[Zu,J9]at hN;refine Zx func10 rfl ntmps10 results10 (Uc _) ?_;simp only[go_sem,tr,Zu,tg];refine vc7 hV ?_;simp only[go_sem,UG,doc,e1];refine vc5 hS ?_;simp only[go_sem,ZP,Zh,e2];refine vc7 hN ?_;simp only[go_sem,UG,doc,e3];refine Zao 54 hC (hcl _) (by simp[Ju,Zu]) rfl rfl ?_;simp only[go_sem,Qq,id];refine Dv 54 hSS (by simp[Ju,Kz]) (hcl _) (hcl _) rfl rfl rfl ?_;simp only[go_sem];have hsm:(s.map opv).length=L.length:=by rw[Jb,hsl]
 refine Zhn 57 54 15 62 (s.map opv) (by rw[hsm];rfl) (by rw[hsm];rfl) rfl (hcl _) ?_;refine Y8 16 102 3 70 rfl rfl ?_;refine Y8 17 71 15 62 rfl rfl ?_;refine Zs (ι:=HisS m F cart b s R) 106 (λx=> [(0,tr (Zd m)),(2,.str cart),(7,.ptr 7 0),(12,Zh F),(14,.ptr 14 0),(16,.sl (.row 102) (x.acc.map mo)),(17,.sl (.row 71) (x.ah.map opv)),(57,Zu s),(58,.int .i64 (L.length:Int)),(59,.int .i64 (x.k:Int))]) (λx=> [(7,[.int .i64 b.r,.int .i64 b.n],Hf),(14,[.sl .no (x.was.head.map ent),.sl .no (x.was.rows.map row)],Hf)]) (λx=> [(102,.live x.acc.length 3 70),(71,.live x.ah.length 15 62)]) (λx=>s.length-x.k) ⟨0,[],⟨wh,wr⟩,[],Jn _,by simp,hwd,by simp,by rw[List.drop_zero];exact hR⟩
  ⟨rfl,(Fc10 rfl rfl rfl rfl rfl rfl rfl rfl rfl rfl),Fc2 ⟨rfl,rfl⟩ ⟨rfl,rfl⟩,(Fc2 rfl rfl)⟩ (λx=>⟨Fc10 rfl rfl rfl rfl rfl (by simp[Ju,ZX]) (by simp[Ju,ZX]) rfl rfl rfl,Fc2 rfl rfl⟩) (λx=> ?_)
 clear hV hS hN hC hSS hR hwd hW;obtain⟨k,ah,was,acc,hk,ha,hw,hal,hR⟩:=x;obtain⟨ws,wt⟩:=was;simp only;by_cases h:(k:Int)<(L.length:Int);have hka:k<s.length:=by omega
 have hls:(k:Int)<(s.length:Int):=by omega
 have i1:=Jg k
 have w1:=Xi hka hlm;have hox:=hso _ (Zp (d:=Jd) hka);have hdr:s.drop k=s.getD k Jd::s.drop (k+1):=by rw[Kq hka,getD_lt hka]
 rw[hdr]at hR;have hP:=hPl _ hox;have htk:s.take (k+1)=s.take k++ [s.getD k Jd]:=Z0 hka;have hsub:(ah++ [s.getD k Jd]).Sublist (s.take (k+1)):=by rw[htk];exact ha.append (.refl _)
 have hsub0:ah.Sublist (s.take (k+1)):=by rw[htk];exact ha.trans (List.sublist_append_left _ _)
 have hss:=hsub.trans (KZ _ _);have hVa':=hVa (ah++ [s.getD k Jd]) (Js hss.length_le (by omega)) (λo h=>hso o (hss.mem h)) (Ki.sublist (hss.map _) hsU);have hvo':=hvo (ah++ [s.getD k Jd]);have hall:ah.length<=k:=Js ha.length_le (Jw _ _);have hrm:=Ya (show ah.length+1<=1000000 by omega) (show 176<=1000 by omega);have hrm2:=Ya (show acc.length+1<=1000000 by omega) (show 40<=1000 by omega);have hsz:=Yv ah;have hml:(ah.map opv).length=ah.length:=Jb _;have hsz2:=Zah acc;have hml2:(acc.map mo).length=acc.length:=Jb _;generalize hx:s.getD k Jd=x at *;have hsx:Sized 15 [opv x]:=Yv [x];have hax:XO [opv x]:=WE [x];simp only[opv]at hsx hax;unfold FS at hR;cases hp:Zbu m x cart;rw[hp]at hP;rw[if_pos hp]at hR;simp only[go_sem,Zu,h,hls,Zw hka,hx,opv,i1];refine vc7 hP ?_;simp only[go_sem,w1];exact⟨⟨k+1,ah,⟨ws,wt⟩,acc,by omega,hsub0,hw,by omega,hR⟩,nx9 (by omega),⟨rfl,(Fc10 rfl rfl rfl rfl rfl rfl rfl rfl rfl rfl),Fc2 ⟨rfl,rfl⟩ ⟨rfl,rfl⟩,(Fc2 rfl rfl)⟩⟩;rw[hp]at hP;rw[if_neg (by rw[hp];simp)]at hR;have hD:=ZjT F ⟨ws,wt⟩ (ZT m (ah++ [x]) cart b).1 (by rw[Zb];have:=hF.n;omega) hF.c hw hvo';simp only[Zu,Je,Jr,J9,opv]at hVa';generalize ZT m (ah++ [x]) cart b=Y at *;obtain⟨⟨yh,yr⟩,yc⟩:=Y;simp only at hR hD hvo';by_cases hyc:yc=0;subst hyc;rw[if_neg (by simp)]at hR;generalize WG F ⟨ws,wt⟩ ⟨yh,yr⟩=D at *;obtain⟨dl,dc⟩:=D;simp only at hR hD;by_cases hdc:dc=0;subst hdc;rw[if_neg (by simp)]at hR;cases dl with
 |nil=>
  rw[if_pos rfl]at hR;simp only[go_sem,Zu,h,hls,Zw hka,hx,opv,i1];refine vc7 hP ?_;simp only[go_sem,hml,hrm,hsz,hsx,hax];refine vc7 (hVa') ?_;simp only[go_sem,UG,doc];refine vc2 hD ?_;simp only[go_sem,SU,Tk,w1];exact⟨⟨k+1,ah++ [x],⟨yh,yr⟩,acc,by omega,hsub,hvo',by omega,hR⟩,nx9 (by omega),⟨rfl,by simp only;rw[Je];exact(Fc10 rfl rfl rfl rfl rfl rfl rfl rfl rfl rfl),Fc2 ⟨rfl,rfl⟩ ⟨rfl,rfl⟩,by simp only;rw[Ja];exact(Fc2 rfl rfl)⟩⟩
 |cons d0 dl=>
  rw[if_neg (by simp)]at hR;have hsm:Sized 3 [mo ⟨x.id,d0::dl⟩]:=Zah [⟨x.id,d0::dl⟩];have ham:XO [mo ⟨x.id,d0::dl⟩]:=ZiK [⟨x.id,d0::dl⟩];have hdl:(0:Int)<((d0::dl).length:Int):=by rw[Jh];omega
  generalize d0::dl=ds at *;simp only[mo]at hsm ham;simp only[go_sem,Zu,h,hls,Zw hka,hx,opv,i1];refine vc7 hP ?_;simp only[go_sem,hml,hrm,hsz,hsx,hax];refine vc7 (hVa') ?_;simp only[go_sem,UG,doc];refine vc2 hD ?_;simp only[go_sem,SU,Tk,hdl,hml2,hrm2,hsz2,hsm,ham,w1];exact⟨⟨k+1,ah++ [x],⟨yh,yr⟩,acc++ [⟨x.id,ds⟩],by omega,hsub,hvo',by rw[Ja];simp;omega,hR⟩,nx9 (by omega),⟨rfl,by simp only;rw[Je,Je];exact(Fc10 rfl rfl rfl rfl rfl rfl rfl rfl rfl rfl),Fc2 ⟨rfl,rfl⟩ ⟨rfl,rfl⟩,by simp only;rw[Ja,Ja];exact(Fc2 rfl rfl)⟩⟩
 have e5:(dc !=0)=true:=by simpa using hdc
 rw[if_pos hdc]at hR;subst hR;simp only[go_sem,Zu,h,hls,Zw hka,hx,opv,i1];refine vc7 hP ?_;simp only[go_sem,hml,hrm,hsz,hsx,hax];refine vc7 (hVa') ?_;simp only[go_sem,UG,doc];refine vc2 hD ?_;simp only[go_sem,SU,Tk,e5,Gx,mos];have e4:(yc !=0)=true:=by simpa using hyc
 rw[if_pos hyc]at hR;subst hR;simp only[go_sem,Zu,h,hls,Zw hka,hx,opv,i1];refine vc7 hP ?_;simp only[go_sem,hml,hrm,hsz,hsx,hax];refine vc7 (hVa') ?_;simp only[go_sem,UG,doc,e4,Gx,mos];obtain rfl:k=s.length:=by omega
 rw[List.drop_length]at hR;unfold FS at hR;subst hR;simp only[go_sem,Zu,h,Gx,mos]
theorem ZeX (m:List Eg) (x0:Opn) (l0:List Opn) (cart:Str) (b:Tg) (hm:OkM m) (hr:RightM m) (hl:(x0::l0).length<=20) (ho:∀o∈x0::l0,OkOp o) (hU:((x0::l0).map Opn.id).Nodup):
  Pp 10 [tr (Zd m),Zu (x0::l0),.str cart,tg b] (Gx (Zcb m (x0::l0) cart b)):=by
 unfold Zcb;by_cases hv:(ZT m (x0::l0) cart b).2=0;rw[if_neg (by simpa using hv)];by_cases hs:(Ye (Zd m) b).2=0;rw[if_neg (by simpa using hs)];by_cases hn:(ZT m [] cart b).2=0;rw[if_neg (by simpa using hn)];exact ZlS m x0 l0 cart b hm hr hl ho hU hv hs hn;exfalso;apply hn;unfold ZT at hv ⊢;rw[if_neg (by simp)];split at hv;simp at hv;split at hv;simp at hv;rename_i h2;rw[if_neg h2,if_neg (by simpa using hs)];exfalso;unfold ZT at hv;split at hv;simp at hv;split at hv;simp at hv;exact hs hv;rw[if_pos hv];have hV:=VX m (x0::l0) cart b hm hr hl ho hU;have e1:((ZT m (x0::l0) cart b).2 !=0)=true:=by simpa using hv
 generalize x0::l0=L at *;generalize ZT m L cart b=V at *;obtain⟨vd,vc⟩:=V;simp only at e1 ⊢;refine Zx func10 rfl ntmps10 results10 (Uc _) ?_;simp only[go_sem,tr,Zu,tg];refine vc7 hV ?_;simp only[go_sem,UG,doc,e1,Gx,mos]
open Go.PL Go.RowKit
theorem Zkh (c:Cg) (item:Str) (place:Rf):Pp 40 [chg c,.str item,ref place] (.bool (Vx c item place)):=by
 unfold Vx;cases k1:(c.item==item);refine ZM func40 rfl ntmps40 results40 ?_;simp only[go_sem,chg,ref,k1];simp;cases k2:(c.kind==2);cases k3:(c.kind==1);refine ZM func40 rfl ntmps40 results40 ?_;simp only[go_sem,chg,ref,k1,k2,k3];simp;refine ZM func40 rfl ntmps40 results40 ?_;simp only[go_sem,chg,ref,k1,k2,k3,Zr];simp;refine ZM func40 rfl ntmps40 results40 ?_;simp only[go_sem,chg,ref,k1,k2]
theorem ZjQ (l:List Mo):Pp 39 [mos l] (.fn 90 [.rptr [mos l]]):=by
 have hd:(PV.fn 90 [.rptr [mos l]]).dids= []:=by simp only[KM,Kx,mos,ZiO,Jl]
 refine Zx func39 rfl ntmps39 results39 (hd) ?_;simp only[go_sem,mos]
set_option maxRecDepth 100000 in
theorem Zhp (l:List Mo) (hlen:l.length<=100000):ZlR prog 90 [.rptr [mos l]] l.reverse (λc=> [.any,mo c]) 2:=by
 refine⟨⟨_,func90,by decide,rfl⟩,λm S w lb hst hsz hrep=> ?_⟩;obtain⟨v,rfl⟩:∃v,lb= #[v]:=Array.size_eq_one_iff.1 hsz;have h0:=hrep 0 (by simp);have h0:Rep S v (.rptr [mos l]):=h0;obtain⟨b,o,vals,rfl,e2,e3⟩:=(RepS.clean (M:=⟨id,id,id⟩) (q:=λ_=>none) h0).rptr_inv;have e2:=e2 0 (by simp);have e3:Rep S (vals 0) (.sl .no (l.map mo)):=e3 0 (by simp);obtain⟨A,cap,vs,hv,hA,hR⟩:=e3.cells_at (sz:=3) (λi hi=>by
  have hi':i<l.length:=by simpa using hi
  rw[Zd7 hi'];rfl)
 simp only[Jb]at hv hA hR;rw[hv]at e2;refine⟨λk=> #[.int .i64 ((l.length:Int)-1-(k.val:Int)),.agg ⟨(Kd 3).map λj=>vs (l.length-1-k.val) j⟩],λk=>⟨rfl,rfl,λi hi=> ?_⟩,?_⟩;have hk:k.val<l.length:=by simpa using k.isLt
 have hk':l.length-1-k.val<l.length:=by omega
 have hx:l.reverse[k]=l.getD (l.length-1-k.val) Jd:=by rw[getD_lt hk'];simp
 rw[hx];match i,hi with
 |0,_=>exact .any _
 |1,_=>
  show Rep S (.agg ⟨(Kd 3).map λj=>vs (l.length-1-k.val) j⟩) (mo _);have h1:=λj hj=>hR (l.length-1-k.val) j hk' hj
  rw[Zd7 hk']at h1;refine .agg _ _ (by rfl) λj hj=> ?_
  have h13:j<3:=hj;have e:((Kd 3).map λj=>vs (l.length-1-k.val) j).getD j undef=vs (l.length-1-k.val) j:=by
   rw[getD_lt (by simpa using h13)];simp
  rw[e];exact h1 j h13
 intro lp J Jx W hW hJ hJx hY hJ0;have hstW:StabS S W:=⟨λb o u h=>by
  have h1:=hst.c b o u h;rw[World.cell?_of_block (hW.block _ (DQ h1))];exact h1,λb es h=>by
  have h1:=hst.m b es h;rw[hW.block _ (JL.1 h1).1];exact h1,λb h=>by
  obtain⟨vs1,t1,h1⟩:=hst.y b h;exact⟨vs1,t1,by rw[hW.block _ (JL.1 h1).1];exact h1⟩⟩
 refine callsIn_of_wp func90 rfl trivial ?_ rfl;simp only[ntmps90,KX,Jh,Jq,Nat.reduceAdd,Nat.reduceSub,Array.replicate_succ,Array.replicate_zero,List.push_toArray,List.append_toArray,K5,List.cons_append];have hc0:=hstW.c _ _ _ e2;rw[KW]at hc0 e2;have u0:IntKind.i64.wrap ((l.length:Int)-1)=(l.length:Int)-1:=w64 (by omega)
 gi_wp2
 gi_loopw [3] (λi wr=>∃k:Nat,k<=l.length/\i= .int .i64 ((l.length:Int)-1-k)/\StabS S wr/\J ((KP l.reverse.length).take k) wr)
  (λi _=>(intOf i+1).toNat)
 case atStart=>exact⟨0,Jn _,by simp,hstW,hJ0⟩
 case round=>
  obtain⟨k,hk,rfl,hstr,hJs⟩:=hrel;have hcx:=hstr.c _ _ _ e2
  by_cases hlt:k<l.length
  ·obtain⟨b',o',rfl,hcl⟩:=hA (by omega);have hk':l.length-1-k<l.length:=by omega
   have hkx:k<l.reverse.length:=by simpa using hlt
   have hkk:((l.length-1-k:Nat):Int)=(l.length:Int)-1-(k:Int):=by omega
   have i0:(l.length:Int)-1-(k:Int)>=0:=by omega
   have hto:((l.length:Int)-1-(k:Int)).toNat=l.length-1-k:=by omega
   have hld:(loadVar 70 ⟨b',o'+(l.length-1-k)*3,none⟩).run prog wr= .ok (.agg ⟨(Kd 3).map λj=>vs (l.length-1-k) j⟩) wr:=
    ZnX underlying70 rfl rfl λj hj=>hstr.c _ _ _ (hcl _ j hk' hj)
   obtain⟨fn,tmps,assign,body,hy,hRR⟩:=hY _ ⟨k,hkx⟩ wr hJs (by simp;omega);obtain⟨val,hval⟩:∃val,val=Value.agg ⟨(Kd 3).map λj=>vs (l.length-1-k) j⟩:=⟨_,rfl⟩;have hy:(Instr.yield lp #[.int .i64 ((l.length:Int)-1-(k:Int)),val]).run prog wr= .ok (.round lp fn tmps assign body) wr:=by rw[hval];exact hy
   rw[<-hval]at hld;clear hval
   gi_wp2_with (first|(refine ZiD rfl hld ?_)|gi_in)
   refine hRR.mono ?_
   rintro e W3 (⟨rfl,hJ3,hk3⟩|⟨rfl,hJx3⟩)
   ·have u2:IntKind.i64.wrap ((l.length:Int)-1-(k:Int)-1)=(l.length:Int)-1-((k+1:Nat):Int):=by rw[w64 (by omega)];omega
    gi_wp2
    go_roundw
    case rel=>exact⟨k+1,by omega,rfl,hk3 hstr,by rw[GU hkx];exact hJ3⟩
    case measure=>simp[intOf];omega
   ·gi_wp2
    refine bodyPost_ret (results_none rfl _ _ _) rfl ?_;exact⟨⟨_,rfl⟩,.inr ⟨_,by rw[<-GU hkx];exact List.take_prefix _ _,hJx3⟩⟩
  ·obtain rfl:k=l.length:=by omega
   have i0:¬((l.length:Int)-1-(l.length:Int)>=0):=by omega
   gi_wp2
   go_end0
   have e:(KP l.reverse.length).take l.length=KP l.reverse.length:=Jk (by simp);rw[e]at hJs;exact⟨⟨_,rfl⟩,.inl hJs⟩
open Go.PL
theorem US:∀(n:Nat) (P Q:List Rw),P.length+Q.length<=n->(∀r∈P,r.l.length<=40)->(Y9 P Q).length<=41*n
 |n,[],[],_,_=>by rw[Y9];simp
 |0,p::ps,Q,h,_=>by simp at h
 |0,[],q::qs,h,_=>by simp at h
 |n+1,p::ps,[],h,hP=>by
  rw[Y9,Jh];have:=US n ps [] (by simp at h ⊢;omega) (λr hr=>hP r (by simp[hr]));omega
 |n+1,[],q::qs,h,hP=>by
  rw[Y9,Jh];have:=US n [] qs (by simp at h ⊢;omega) hP;omega
 |n+1,p::ps,q::qs,h,hP=>by
  have hP':∀r∈ps,r.l.length<=40:=λr hr=>hP r (by simp[hr])
  rw[Y9];split;rw[Jh];have:=US n ps (q::qs) (by simp at h ⊢;omega) hP';omega;split;rw[Jh];have:=US n (p::ps) qs (by simp at h ⊢;omega) hP;omega;rw[Ja];have:=US n ps qs (by simp at h ⊢;omega) hP';have:=Vc q.item p.l q.l;have:=hP p (by simp);omega
theorem Zkx (F:List Fd) (a b:Dc):(WG F a b).1.length<=1000000:=by
 unfold WG;split;simp;rename_i h;simp only[not_or,Bool.not_eq_false]at h;obtain⟨a1,a2,a3,a4,a5⟩:=VS h.1;obtain⟨b1,b2,b3,b4,b5⟩:=VS h.2;rw[Ja];have h1:=Vc [] a.head b.head;have h2:=US 800 a.rows b.rows (by omega) (λr hr=>by have:=a3 r hr;omega);omega
def blL:List (Nat×PV):= [(10,.ptr 10 0),(11,.ptr 11 0),(12,.ptr 12 0),(13,.ptr 13 0)]
def blM (item:Str) (place:Rf) (t:Tg):MemT:=⟨[(10,[.str item],Hf),(11,[.int .i64 place.sc,.str place.gr,.str place.nm],Hf),(12,[.int .i64 t.r,.int .i64 t.n],Hf),(13,[.int .i64 0],Hf)],[],[]⟩
theorem ZjM (item:Str) (place:Rf) (t:Tg) (φ:Nat->Nat):WholeT blL (blM item place t) (Sc [10,11,12,13] φ):=
 ⟨⟨(Fc4 rfl rfl rfl rfl),(Fc4 rfl rfl rfl rfl)⟩,fnl,fnl,fnl,(Fc4 rfl rfl rfl rfl),fnl⟩
def Zne (pre:List Mo):Tg:=(pre.getLast?.elim Jd Mo.id)
def ZgV (item:Str) (place:Rf) (x:Mo):Bool:=x.l.any λc=>Vx c item place
theorem Zkz {l:List Mo} {p:Mo->Bool} {pre:List Mo} {x:Mo} (h:pre++ [x] <+:l) (hn:∀y∈pre,p y=Hf) (hx:p x=Ht):l.find? p=Hs x:=by
 obtain⟨r,rfl⟩:=h;rw[Jv,List.find?_append,JO.2 (λy hy=>by rw[hn y hy];simp)];simp[hx]
theorem DA (m:List Eg) (L:List Opn) (cart:Str) (b:Tg) (item:Str) (place:Rf) (vd:Dc) (fe:En) (H:List Mo)
  (hV:Pp 28 [tr (Zd m),Zu L,.str cart,tg b] (UG (vd,0)))
  (hFi:Pp 38 [doc vd,.str item,ref place] (ZaT (fe,0)))
  (hH:Pp 10 [tr (Zd m),Zu L,.str cart,tg b] (Gx (H,0)))
  (hl:H.length<=100000) (hx:∀x∈H,x.l.length<=1000000):
  Pp 12 [tr (Zd m),Zu L,.str cart,tg b,.str item,ref place] (tgc ((H.reverse.find? (ZgV item place)).elim Jd Mo.id,0)):=by
 have hbw:=ZjQ H;have hT:=λc=>Zkh c item place
 refine Pure.range (A:=Mo) 6 (Q1:=λs=>s.eval (.tmp 59)= .fn 90 [.rptr [mos H]]/\HasT 77 blL (blM item place Jd) [] s) (pin:= [10,11,12,13]) (mt:=λ_=>blM item place Jd) (mx:=λpre=>blM item place (Zne pre)) (Y:=λpre=>∀y∈pre,ZgV item place y=Hf) (X:=λpre=>∃pre' x,pre=pre'++ [x]/\(∀y∈pre',ZgV item place y=Hf)/\ZgV item place x=Ht)
  func12 (by decide) rfl ntmps12 results12 (by simp) (WS _) ?_ rfl (λs hs=>⟨hs.1,hs.2,λi hi=> ?_⟩) (by simp[Ju,Kz,mos]) (Zhp H hl) ?_ ?_ ?_ (λy hy=>by cases hy) (λ_ φ=>ZjM _ _ _ φ) (λ_ φ=>ZjM _ _ _ φ) ?_ ?_ ?_
 refine VK ?_;simp only[go_sem,tr,Zu,tg,ref];refine VK ?_;simp only[go_sem,tr,Zu,tg,ref];refine vc7 hV ?_;simp only[go_sem,UG,doc];refine VK ?_;simp only[go_sem];refine VK ?_;simp only[go_sem];refine vc1 hFi ?_;simp only[go_sem,ZaT,ent];refine VK ?_;simp only[go_sem,tr,Zu,tg];refine vc7 hH ?_;simp only[go_sem,Gx,mos];refine VK ?_;simp only[go_sem];refine ZqF (Yb _ _ _ (show @vC _ ⟨_⟩ ⟨_⟩ _ from ?_));simp only[go_sem];refine vc9 hbw ?_;simp only[go_sem,mos];exact⟨rfl,⟨⟨rfl,(Fc4 rfl rfl rfl rfl),Fc4 ⟨rfl,rfl⟩ ⟨rfl,rfl⟩ ⟨rfl,rfl⟩ ⟨rfl,rfl⟩,fnl⟩,fnl,fnl,fnl,fnl,fnl,fnl⟩⟩;have h:=λx hx=>(hs.2.b.h x hx).1
 simp only[Jt,Ky,or_false]at hi;rcases hi with rfl|rfl|rfl|rfl;rw[h (10,[.str item],Hf) (by simp[blM])];simp;rw[h (11,[.int .i64 place.sc,.str place.gr,.str place.nm],Hf) (by simp[blM])];simp;rw[h (12,[.int .i64 (Jd:Tg).r,.int .i64 (Jd:Tg).n],Hf) (by simp[blM])];simp;rw[h (13,[.int .i64 0],Hf) (by simp[blM])];simp;intro x hxx p hp;rcases Jt.1 hp with rfl|hp;rfl;rw[Ji.1 hp];exact List.eq_nil_iff_forall_not_mem.2 λi hi=>by have:=Tq _ hi;rw[Znl]at this;cases this
 intro t ht;have:t=60\/t=61:=by simpa using ht
 rcases this with rfl|rfl<;>decide
 intro x hxx r hr;simp only[blL,Jt,Ky,or_false]at hxx;rcases hxx with rfl|rfl|rfl|rfl;exact⟨10,by simp,by simpa[Ju]using hr⟩;exact⟨11,by simp,by simpa[Ju]using hr⟩;exact⟨12,by simp,by simpa[Ju]using hr⟩;exact⟨13,by simp,by simpa[Ju]using hr⟩;intro l φ pre x hxc hpl hY;have hfx:=hx x (List.mem_reverse.1 hxc);have hlm:x.l.length<=maxLen:=by rw[Zb];omega
 refine ZaH ?_;change @vR l 0 prog ⟨_⟩ ⟨_⟩ (((mkT 77 blL (blM item place Jd) (Sc [10,11,12,13] φ)).put (Hs 60) .any).put (Hs 61) (mo x));simp only[go_sem,blL,blM,mo];refine ZaH ?_;simp only[go_sem,blL,blM,mo,Tk];refine Zve (ι:= { k:Nat // k<=x.l.length/\ ∀j,j<k->Vx (x.l.getD j Jd) item place=Hf }) (λy=> [(10,.ptr 10 0),(11,.ptr 11 0),(12,.ptr 12 0),(13,.ptr 13 0),(20,.ptr 20 0),(63,.sl .no (x.l.map chg)),(64,.int .i64 (x.l.length:Int)),(65,.int .i64 (y.1:Int))]) (λy=>⟨[(20,[.int .i64 x.id.r,.int .i64 x.id.n,.sl .no (x.l.map chg)],Hf),(10,[.str item],Hf),(11,[.int .i64 place.sc,.str place.gr,.str place.nm],Hf),(12,[.int .i64 0,.int .i64 0],Hf),(13,[.int .i64 0],Hf)],[],[]⟩) (Sc [10,11,12,13] φ) (λy=>x.l.length-y.1) ⟨0,Jn _,λj hj=>absurd hj (Nat.not_lt_zero j)⟩
  ⟨⟨rfl,(Fc8 rfl rfl rfl rfl rfl rfl rfl rfl),Fc5 ⟨rfl,rfl⟩ ⟨rfl,rfl⟩ ⟨rfl,rfl⟩ ⟨rfl,rfl⟩ ⟨rfl,rfl⟩,fnl⟩,fnl,fnl,fnl,fnl,(Fc4 rfl rfl rfl rfl),fnl⟩ (λy=>⟨⟨(Fc8 rfl rfl rfl rfl rfl rfl rfl rfl),(Fc5 rfl rfl rfl rfl rfl)⟩,fnl,fnl,fnl,(Fc4 rfl rfl rfl rfl),fnl⟩) (λy=> ?_)
 obtain⟨k,hk,hno⟩:=y;simp only;by_cases h:(k:Int)<(x.l.length:Int);have hka:k<x.l.length:=by omega
 have i1:=Jg k
 have w1:=Xi hka hlm;have hTc:=hT (x.l.getD k Jd);cases ht:Vx (x.l.getD k Jd) item place;rw[ht]at hTc;simp only[go_sem,blL,blM,h,To hka,i1,chg];refine vc8 hTc ?_;simp only[go_sem,w1];refine⟨⟨k+1,by omega,λj hj=> ?_⟩,nx9 (by omega),⟨⟨rfl,(Fc8 rfl rfl rfl rfl rfl rfl rfl rfl),Fc5 ⟨rfl,rfl⟩ ⟨rfl,rfl⟩ ⟨rfl,rfl⟩ ⟨rfl,rfl⟩ ⟨rfl,rfl⟩,fnl⟩,fnl,fnl,fnl,fnl,(Fc4 rfl rfl rfl rfl),fnl⟩⟩;rcases Qf j k with hlt|hge;exact hno j hlt;obtain rfl:j=k:=by omega
 exact ht;rw[ht]at hTc;have hit:ZgV item place x=true:=K4.2 ⟨_,Ze (d:=Jd) hka,ht⟩;have hlt:Zne (pre++ [x])=x.id:=by simp[Zne]
 simp only[go_sem,blL,blM,h,To hka,i1,chg];refine vc8 hTc ?_;simp only[go_sem];refine⟨⟨pre,x,rfl,hY,hit⟩,⟨⟨rfl,fnl,?_,fnl⟩,fnl,fnl,fnl,fnl,(Fc4 rfl rfl rfl rfl),fnl⟩⟩;rw[hlt];exact Fc4 ⟨rfl,rfl⟩ ⟨rfl,rfl⟩ ⟨rfl,rfl⟩ ⟨rfl,rfl⟩;have hmiss:ZgV item place x=false:=by
  unfold ZgV;rw[List.any_eq_false];intro c hc;obtain⟨j,hj,rfl⟩:=JD hc;have:=hno j (by omega);rw[getD_lt hj]at this;rw[this];simp
 simp only[go_sem,blL,blM,h];refine⟨λy hy=> ?_,⟨⟨rfl,fnl,Fc4 ⟨rfl,rfl⟩ ⟨rfl,rfl⟩ ⟨rfl,rfl⟩ ⟨rfl,rfl⟩,fnl⟩,fnl,fnl,fnl,fnl,(Fc4 rfl rfl rfl rfl),fnl⟩⟩;rcases Jz.1 hy with hy|hy;exact hY y hy;rw[Ji.1 hy];exact hmiss;intro hY φ;have hf:H.reverse.find? (ZgV item place)=none:=JO.2 λy hy=>by rw[hY y hy];simp
 rw[hf];refine ZqY ?_;simp only[go_sem,blL,blM,tgc,tg];rfl;intro pre hp hX φ;obtain⟨pre',x,rfl,h1,h2⟩:=hX;rw[Zkz hp h1 h2];have hlt:Zne (pre'++ [x])=x.id:=by simp[Zne]
 show ZbV _ _ _ _ _;rw[hlt];simp only[go_sem,blL,blM,tgc,tg];rfl
open Go.PL
structure RAtS (l:List Opn) where
 k:Nat
 hk:k<=l.length
 id:Nat
 hid:id=27
open Go.PL
end Go.Proofs.YtadgngamdofhiaaGreat
namespace Go.PL
end Go.PL
namespace Go.Proofs.YtadgngamdofhiaaGreat
open Go.PL
structure ClS (v:List Int) (A:List Opn) where
 k:Nat
 ks:List Tg
 hk:k<=A.length
 h:∀t,t∈ks↔t∈(A.take k).map Opn.id
 hd:∀j,j<k-> ∀t∈(A.getD j Jd).drops,ZyM v t=Ht
open Go.PL Go.PL.Srt
def ZaG (x y:Opn):Bool:= !ZJ x y
def Wf (out:List Opn) (x:Opn):Nat:=(out.takeWhile (ZaG x)).length
theorem Zh2 (out:List Opn) (x:Opn):Wf out x<=out.length:=(KE (ZaG x)).length_le
theorem Zeu:∀(out:List Opn) (x:Opn) (k:Nat),k<Wf out x->ZJ x (out.getD k Jd)=Hf
 | [],x,k,h=>by simp[Wf]at h
 |y::out,x,k,h=>by
  unfold Wf at h;rw[JI]at h;by_cases hx:ZaG x y=Ht;rw[if_pos hx]at h;cases k with
  |zero=>simpa[ZaG]using hx
  |succ k=>exact Zeu out x k (by simpa[Wf]using h)
  rw[if_neg hx]at h;simp at h
theorem De:∀(out:List Opn) (x:Opn),Wf out x<out.length->ZJ x (out.getD (Wf out x) Jd)=Ht
 | [],x,h=>by simp at h
 |y::out,x,h=>by
  by_cases hx:ZaG x y=Ht;have hp:Wf (y::out) x=Wf out x+1:=by unfold Wf;rw[JI,if_pos hx];rfl
  rw[hp]at h ⊢;exact De out x (by simpa using h);have hp:Wf (y::out) x=0:=by unfold Wf;rw[JI,if_neg hx];rfl
  rw[hp];have:ZaG x y=false:=by simpa using hx
  simpa[ZaG]using this
theorem Zjt {L:List Opn} {x:Opn} (hU:Unl ZJ (L++ [x])):srt ZJ (L++ [x])=(srt ZJ L).take (Wf (srt ZJ L) x)++ [x]++(srt ZJ L).drop (Wf (srt ZJ L) x):=by
 obtain⟨u1,_,u3⟩:=Unl.append.1 hU;have hI:=ZbL oless_good u1;have hp:(srt ZJ L).Perm L:=WQ L;have hux:∀y∈srt ZJ L,ZJ y x=Ht\/ZJ x y=true:=λy hy=>u3 y (hp.mem_iff.1 hy) x (by simp)
 generalize srt ZJ L=out at *;have hsp:=Kb (Wf out x) out;rw[Jv,KF];refine Zoh oless_good (by rw[hsp];exact hI) (λp hm=> ?_) (λq hm=> ?_) ?_;obtain⟨i,hi,rfl⟩:=JD hm;have hi':i<Wf out x:=by rw[JC]at hi;omega
 have h1:=Zeu out x i hi';have hio:i<out.length:=by have:=Zh2 out x;omega
 rw[K0];rw[getD_lt hio]at h1;refine(hux _ (J2 hio)).resolve_right (by rw[h1];simp);obtain⟨i,hi,rfl⟩:=JD hm;have hi':Wf out x+i<out.length:=by rw[JK]at hi;omega
 rw[List.getElem_drop];have h1:=De out x (by omega);rw[getD_lt (show Wf out x<out.length by omega)]at h1;rcases Nat.eq_zero_or_pos i with rfl|hpos;exact h1;exact oless_good.trans _ _ _ h1 (JQ.1 hI _ _ (by omega) hi' (by omega));refine(List.Perm.trans ?_ (hp.append_right [x]));have h2:(Qn (Wf out x) out++x::Qo (Wf out x) out).Perm (x::(Qn (Wf out x) out++Qo (Wf out x) out)):=List.perm_middle;rw[hsp]at h2;exact h2.trans (List.perm_append_comm (l₁:= [x]) (l₂:=out))
theorem Vn (l:List Opn) (k:Nat):cut (l.map opv) 0 (k:Int)=(l.take k).map opv:=by simp[cut,Ku]
theorem GP (l:List Opn) (k:Nat):cut (l.map opv) (k:Int) (l.length:Int)=(l.drop k).map opv:=by
 unfold cut;rw[Ka,Ka,<-Qd,<-Ku];congr 1;rw[Jk (by rw[JK];omega)]
def Ztz (m:List Eg) (l:List Opn) (o:Opn):Bool:=X9 m o&& !XQ (X8 m l) o.id
def ZiF (m:List Eg) (l:List Opn) (k:Nat):List Opn:=srt ZJ ((l.take k).filter (Ztz m l))
theorem Zpm (m:List Eg) (l:List Opn):ZiF m l l.length=Xk m l:=by
 unfold ZiF Xk UL X8;rw[JJ,J7];congr 1;exact Kt λo _=>by unfold Ztz;rw[Bool.and_comm];rfl
theorem Zpn (m:List Eg) (l:List Opn) (k:Nat):(ZiF m l k).length<=k:=by
 unfold ZiF;rw[Wu];exact Js (Jm _ _) (Jw _ _)
theorem Zl6 (m:List Eg) {l:List Opn} (hU:(l.map Opn.id).Nodup) {k:Nat} (h:k<l.length):
  ZiF m l (k+1)=if Ztz m l (l.getD k Jd)=Ht then(ZiF m l k).take (Wf (ZiF m l k) (l.getD k Jd))++ [l.getD k Jd]++(ZiF m l k).drop (Wf (ZiF m l k) (l.getD k Jd))else ZiF m l k:=by
 have hs:((l.take (k+1)).map Opn.id).Nodup:=Ki.sublist ((KZ _ _).map _) hU;unfold ZiF;rw[Z0 (d:=Jd) h]at hs ⊢;rw[JB];generalize l.getD k Jd=x at *;cases hx:Ztz m l x;rw[Jc (by rw[hx];simp),if_neg (by simp)];simp;rw[Jf (by exact hx),if_pos rfl,List.filter_nil];refine Zjt (ZbQ ?_);refine Ki.sublist (Qg.map _ ?_) hs;exact(JS).append (Qg.refl _)
open Go.PL
theorem ZgD {t o:List Pr} (h:XF t o=Ht) {s:Str} (hs:UW t s=Ht):UW o (Xj t s).1=Ht/\(Xj t s).2=true:=by
 simp only[UW,K4,beq_iff_eq]at hs;obtain⟨p,hp,rfl⟩:=hs;obtain⟨q,hq⟩:∃q,t.find? (λq=>q.fr'==p.fr')=Hs q:=by
  cases hf:t.find? (λq=>q.fr'==p.fr')with
  |none=>exact absurd (by simp) (JO.1 hf p hp)
  |some q=>exact⟨q,rfl⟩
 have hqm:=List.mem_of_find?_eq_some hq;have hc:Xj t p.fr'=(q.to',Ht):=by unfold Xj;rw[hq]
 rw[hc];refine⟨?_,rfl⟩;simp only[XF,Jj,J3,JN]at h;obtain⟨i,hi,rfl⟩:=JD hqm;have h1:=h.2 i hi;simp only[VF,Jj]at h1;have h2:=h1.2.2;rw[getD_lt hi]at h2;exact h2
theorem Za4 {t:List Pr} {s:Str}:(Yt t).any (· == s)=UW t s:=by
 unfold Yt UW;rw[List.any_map];rfl
open Go.PL
theorem Zrh {l m:List Fd} {x:Ln} {r:Rf} (ha:ZR l x=(m,0)) (hon:On l r) (hn:r∉Zt x):r∉Zc x:=λhc=>by
 obtain⟨hl,hx,cs,l1,e1,e2,e3⟩:=XI ha;obtain⟨a1,a2,a3,a4,a5⟩:=T3 hl e2;obtain⟨b1,b2,b3,b4,b5⟩:=Vk a1 e3;obtain⟨f,hfm,hfr⟩:=hon;rw[<-Sy (Yi hx).1 e1]at hc;obtain⟨c,hc1,hc2⟩:=Jo.1 hc;exact(b3 c hc1).2 f ((a2 f).2 ⟨hfm,by rw[hfr];exact hn⟩) (by rw[hfr,hc2])
structure FitW (l:List Fd) (o:Opn):Prop where
 f:ZK o=Ht-> ∃f,ZD l o.at'=(f,0)/\(o.kind=3↔f.kind=1)/\(o.kind=4->o.has=Ht->Xy f o.text=Ht)
 z:ZK o=Hf->o.at'=Jd
 w:o.kind=3-> ∃w,Worth l o w
theorem ZaX {f g:Fd} {s:Str} (h:Xy f s=Ht) (hk:g.kind=f.kind) (hc:g.cases'=f.cases') (hr:Z1 g=Ht):Xy g s=true:=by
 simp only[Xy,Jj]at h ⊢;rw[hk,hc,hr];exact⟨⟨rfl,h.1.2⟩,h.2⟩
theorem ZcT {f g:Fd} {s:Str} (h:Xy f s=Ht) (f1:f.kind≠1) (f3:f.kind≠3) (g1:g.kind≠1) (g3:g.kind≠3) (hf:Z1 f=Ht) (hr:Z1 g=Ht):Xy g s=true:=
 (DW hr g1 g3).2 ((DW hf f1 f3).1 h)
theorem Zju {at' nm ot fac fd fo ba} (hx:ZI ⟨8,at',nm,ot,fac,fd,fo,ba⟩=Ht):XF fo ba=Ht/\Xj fo nm=(ot,Ht):=by
 unfold ZI at hx;simp only[show ¬((8:Int)=2\/(8:Int)=3)by omega,if_false,if_true,Jj]at hx;exact⟨hx.2.2.1,Km (by simpa using hx.2.2.2.2.2.2.1) hx.2.2.2.2.1⟩
theorem ZiX {l m:List Fd} {x:Ln} {o p:Opn} (ha:ZR l x=(m,0)) (hf:FitW l o) (ho:XS x o=(p,Ht)):FitW m p:=by
 obtain⟨hl,hx,cs,l1,e1,e2,e3⟩:=XI ha;obtain⟨a1,a2,a3,a4,a5⟩:=T3 hl e2;obtain⟨b1,b2,b3,b4,b5⟩:=Vk a1 e3;have hids:=Zqh ho;have hw:p.kind=3-> ∃w,Worth m p w:=λk3=>by
  obtain⟨w,h⟩:=hf.w (by rw[<-hids.2.2];exact k3);exact⟨w,h.over ha ho⟩
 cases hp:ZK o;rw[Fa hx hp]at ho;cases ho;exact⟨(λh=>by rw[hp]at h;cases h),hf.z,hw⟩;obtain⟨f,hfe,h3,h4⟩:=hf.f hp;have pk:=FK hp;have hpp:ZK p=true:=by simp only[ZK,hids.2.2];exact hp
 refine⟨λ_=> ?_,(λh=>by rw[hpp]at h;cases h),hw⟩;have hkd:=(Yi hx).1;have hm:=(Z3.1 b1).2;have hfl:=YI (l:=l) (r:=o.at') (by rw[hfe]);rw[hfe]at hfl;simp only at hfl;obtain⟨fm,fa⟩:=hfl;have hfr:=(Z3.1 hl).2.2 f fm;have coming:∀g∈cs,ZD m g.at'=(g,0):=λg hg=>YR hm.1 ((b2 g).2 (.inr hg))
 rw[Tu hx hp]at ho;by_cases hg:Yf (Zt x) o.at'<0;rw[if_pos hg]at ho;cases ho;have hf1:f∈l1:=(a2 f).2 ⟨fm,by rw[fa];exact Wt hg⟩;have hfm:=YR hm.1 ((b2 f).2 (.inl hf1));rw[fa]at hfm;exact⟨f,hfm,h3,h4⟩;rw[if_neg hg]at ho;have cm:∀(g:Fd) (q:Opn),g∈cs->q=p->q.at'=g.at'->(q.kind=3↔g.kind=1)->(q.kind=4->q.has=Ht->Z1 g=Ht->Xy g q.text=Ht)-> ∃f,ZD m p.at'=(f,0)/\(p.kind=3↔f.kind=1)/\(p.kind=4->p.has=Ht->Xy f p.text=Ht):=λg q hg e1 e2 e3 e4=>by
  subst e1;exact⟨g,by rw[e2];exact coming g hg,e3,λa b=>e4 a b (b3 g hg).1⟩
 clear b4 b5 a3 a4 a5 coming;obtain⟨kind,at',nm,ot,fac,fd,fo,ba⟩:=x;simp only at hkd;rcases hkd with rfl|rfl|rfl|rfl|rfl|rfl|rfl|rfl|rfl|rfl;have hat:at'=o.at':=Xe (by simpa[Zt]using hg);subst hat;simp[XZ,Zc,hfe]at e1;simp[Zj,Zc]at ho;exact cm ⟨Zf o.at' nm,f.kind,f.df,f.cases',f.worth⟩ _ (by rw[<-e1];simp) ho rfl h3 (λk4 hh hr=>ZaX (h4 k4 hh) rfl rfl hr);exact absurd (show Yf (Zt ⟨2,at',nm,ot,fac,fd,fo,ba⟩) o.at'<0 from(by decide:(-1:Int)<0)) hg;simp[Zj]at ho;have hat:at'=o.at':=Xe (by simpa[Zt]using hg);subst hat;simp[XZ,Zc,hfe]at e1;simp[Zj,Zc]at ho;exact cm ⟨⟨o.at'.sc,[],o.at'.nm⟩,f.kind,f.df,f.cases',f.worth⟩ _ (by rw[<-e1];simp) ho rfl h3 (λk4 hh hr=>ZaX (h4 k4 hh) rfl rfl hr);have hat:at'=o.at':=Xe (by simpa[Zt]using hg);subst hat;simp[XZ,Zc,hfe]at e1;simp[Zj,Zc]at ho;exact cm ⟨⟨o.at'.sc,nm,o.at'.nm⟩,f.kind,f.df,f.cases',f.worth⟩ _ (by rw[<-e1];simp) ho rfl h3 (λk4 hh hr=>ZaX (h4 k4 hh) rfl rfl hr);have hat:at'=o.at':=Xe (by simpa[Zt]using hg);subst hat;simp[XZ,hfe]at e1;have k3:=h3.2 e1.2;simp[Zj,Zc,k3]at ho;exact cm ⟨Zf o.at' nm,1,[],[],f.worth⟩ _ (by rw[<-e1.1];simp) ho rfl (by simp[Zv,k3]) (λh=>by simp[Zv,k3]at h);have hat:at'=o.at':=Xe (by simpa[Zt]using hg);subst hat;simp[XZ,hfe]at e1;have k4:o.kind=4:=by
  rcases pk with h|h;have:=h3.1 h;omega;exact h
 simp[Zj,Zc,k4]at ho;exact cm ⟨o.at',4,[],[],0⟩ _ (by rw[<-e1.1];simp) ho rfl (by simp[Zv,k4]) (λ_ hh hr=>ZcT (h4 k4 hh) (by omega) (by omega) (by simp) (by simp) hfr hr);have hat:at'=o.at':=Xe (by simpa[Zt]using hg);subst hat;simp[XZ,hfe]at e1;have k4:o.kind=4:=by
  rcases pk with h|h;have:=h3.1 h;rw[e1.2]at this;simp at this;exact h
 have hg8:(⟨o.at',3,ot,Yt ba,0⟩:Fd)∈cs:=by rw[<-e1.1];simp
 cases hh:o.has;have hcv:Vz o fo=(o.text,Ht):=by unfold Vz;rw[if_neg (by omega),if_pos hh]
 simp[Zj,Zc,hcv]at ho;exact cm _ _ hg8 ho rfl (by simp[Zv,YU,k4]) (λ_ h=>by simp[Zv,YU,hh]at h);have hcv:Vz o fo=Xj fo o.text:=by unfold Vz;rw[if_neg (by omega),if_neg (by rw[hh];simp)]
 have hft:=h4 k4 hh;have hfr:UW fo o.text=true:=by
  rw[<-Za4];simp only[Xy,Jj]at hft;have:=hft.2;rw[e1.2]at this;simpa using this
 obtain⟨t1,t2⟩:=ZgD (Zju hx).1 hfr;simp[Zj,Zc,hcv,t2]at ho;refine cm _ _ hg8 ho rfl (by simp[Zv,YU,k4]) (λ_ _ hr=> ?_);rw[<-Za4]at t1;simp only[Xy,hr,Zv,YU];simpa using t1;simp[XZ,Ub]at e1;have hgo:Zt ⟨9,at',nm,ot,fac,fd,fo,ba⟩= [Zf at' nm,Zf at' ot]:=by simp[Zt]
 split at e1;simp at e1;split at e1;simp at e1;rename_i u1 u2;simp only[not_or,K1]at u1 u2;simp only[K7.injEq,and_true]at e1;split at ho;simp at ho;rename_i hb;have k3:o.kind=3:=by
  rcases pk with h|h;exact h;simp[Zj,Y3,h]at hb
 simp only[K7.injEq,and_true]at ho;exact cm ⟨at',1,[],[],(ZD l (Zf at' nm)).1.worth⟩ _ (by rw[<-e1];simp) ho (by simp[Zc,Zv]) (by simp[Zv,Zj,Yc,k3]) (λh=>by simp[Zv,Zj,Yc,k3]at h);have hat:at'=o.at':=Xe (by simpa[Zt]using hg);subst hat;simp[XZ,hfe]at e1;have k4:o.kind=4:=by
  rcases pk with h|h;have:=h3.1 h;omega;exact h
 simp[Zj,Zc,k4]at ho;exact cm ⟨o.at',2,ot,[],0⟩ _ (by rw[<-e1.1];simp) ho rfl (by simp[Zv,k4]) (λ_ hh hr=>ZcT (h4 k4 hh) (by omega) (by omega) (by simp) (by simp) hfr hr)
theorem Zqk {o:Opn} (h:XD o=Ht) (hp:ZK o=Hf):o.at'=Jd:=by
 simp only[XD,Jj,KY,KJ,Bool.not_eq_false']at h;have h1:=h.1.1;have h2:=of_decide_eq_true h.1.2;rw[h2];simp only[ZK,KJ,beq_eq_false_iff_ne]at hp;unfold Xs;split;rfl;split;rfl;split;rename_i h;exact absurd h hp.1;split;rename_i h;exact absurd h hp.2;split;rfl;rfl
theorem ZmI {l:List Fd} {o:Opn} (hl:Z5 l=Ht) (h:T0 l o=Ht):FitW l o:=by
 refine⟨λhp=> ?_,λhp=>Zqk (ZaW h) hp,λk3=>Worth.start h hl k3⟩;obtain⟨f0,f1,f2,f3⟩:=Ge h hp;have hfe:ZD l o.at'=((ZD l o.at').1,0):=Km rfl f0;exact⟨_,hfe,⟨f1,λhk=>ZfJ h hp hfe hk⟩,λk4 hh=>f2 (by omega) hh⟩
theorem ZfI:∀(xs:List Ln) {l m:List Fd} {o p:Opn},Gf xs l=Hs m->FitW l o->Xl xs o=(p,Ht)->FitW m p
 | [],l,m,o,p,hf,h,ho=>by
  simp only[Gf,KK.injEq]at hf;simp only[Xl,K7.injEq,and_true]at ho;subst hf ho;exact h
 |x::xs,l,m,o,p,hf,h,ho=>by
  unfold Gf at hf;split at hf;cases hf;rename_i ha;rw[Th]at ho;split at ho;simp at ho;rename_i hq;exact ZfI xs hf (ZiX (m:=(ZR l x).1) (Km rfl (JX.1 ha)) h (Km rfl (by simpa using hq))) ho
open Go.PL
theorem Zk2 {l:List Rf} {r:Rf} {i:Nat} (hn:l.Nodup) (hi:i<l.length) (h:l.getD i Jd=r):Yf l r=(i:Int):=by
 have hm:r∈l:=by rw[<-h];exact Ze hi
 by_cases hp:Yf l r<0;exact absurd hm (Wt hp);obtain⟨j,h1,h2,h3⟩:=VQ hp;rw[h1];congr 1;rw[getD_lt h2]at h3;rw[getD_lt hi]at h;have hpw:=JQ.1 hn;rcases Nat.lt_trichotomy j i with q|q|q;exact absurd (by rw[h3,h]) (hpw j i h2 hi q);exact q;exact absurd (by rw[h3,h]) (hpw i j hi h2 q)
open Go.PL
def Fz (l:List Opn):Int:=(l.map Opn.delta).sum
def Sm (l:List Opn):Prop:=∀o∈l,o.kind=3/\ -1099511627776<=o.delta/\o.delta<=1099511627776
theorem UT (o:Opn) (l:List Opn):Fz (o::l)=o.delta+Fz l:=by simp[Fz]
theorem Zry:∀(l:List Opn) (s:Int) (n:Nat),Sm l->n+l.length<=1000-> -1099511627776*(n:Int)<=s->s<=1099511627776*(n:Int)->l.foldl UF s=s+Fz l
 | [],s,n,_,_,_,_=>by simp[Fz]
 |o::l,s,n,h,hn,h1,h2=>by
  obtain⟨k,d1,d2⟩:=h o (by simp);have hn':n+1+l.length<=1000:=by simp at hn;omega
  have e:UF s o=s+o.delta:=by
   unfold UF;rw[if_pos ⟨k,Ys.2 (by unfold Lim;omega),Ys.2 (by unfold Lim;omega)⟩]
  rw[JW,e,Zry l (s+o.delta) (n+1) (λx hx=>h x (by simp[hx])) hn' (by omega) (by omega),UT];omega
theorem ZeI {l:List Opn} (h:Sm l) (hn:l.length<=1000):Zim l=Fz l:=by
 unfold Zim;rw[Zry l 0 0 h (by omega) (by omega) (by omega)];omega
theorem GT:∀ {l:List Opn},Sm l-> -1099511627776*(l.length:Int)<=Fz l/\Fz l<=1099511627776*(l.length:Int)
 | [],_=>by simp[Fz]
 |o::l,h=>by
  obtain⟨_,d1,d2⟩:=h o (by simp);have:=GT (l:=l) (λx hx=>h x (by simp[hx]));rw[UT,Jh];omega
theorem ZiS {l:List Opn} (h:Sm l) (hn:l.length<=1000):Lim (Fz l):=by
 have:=GT h;unfold Lim;omega
theorem ZfM {g:Opn->Opn}:∀(l:List Opn) (s:Int),(∀o∈l,(g o).kind=o.kind/\(g o).delta=o.delta)->(l.map g).foldl UF s=l.foldl UF s
 | [],_,_=>rfl
 |o::l,s,h=>by
  have ho:=h o (by simp);rw[Jr,JW,JW,show UF s (g o)=UF s o by unfold UF;rw[ho.1,ho.2]];exact ZfM l _ λx hx=>h x (by simp[hx])
theorem Zjy {g:Opn->Opn} {l:List Opn} (h:∀o∈l,(g o).kind=o.kind/\(g o).delta=o.delta):Zim (l.map g)=Zim l:=ZfM l 0 h
theorem Fl {g:Opn->Opn} {c:Str->Str}:∀ {l:List Opn},(∀o∈l,(g o).kind=o.kind/\(g o).has=o.has/\((o.kind==4&&o.has)=Ht->(g o).text=c o.text))->ZV (l.map g)=(ZV l).map c
 | [],_=>rfl
 |o::l,h=>by
  have ih:=Fl (l:=l) λx hx=>h x (by simp[hx])
  obtain⟨h1,h2,h3⟩:=h o (by simp);unfold ZV at ih ⊢;rw[Jr];cases hk:(o.kind==4&&o.has);rw[Jc (p:=λo:Opn=>o.kind==4&&o.has) (by rw[h1,h2,hk];simp),Jc (p:=λo:Opn=>o.kind==4&&o.has) (by rw[hk];simp)];exact ih;rw[Jf (p:=λo:Opn=>o.kind==4&&o.has) (by rw[h1,h2];exact hk),Jf (p:=λo:Opn=>o.kind==4&&o.has) hk,Jr,Jr,Jr,h3 hk,ih]
theorem Zdv {g:Opn->Opn} {l:List Opn} (h:∀o∈l,(g o).kind=o.kind/\(g o).has=o.has/\(g o).text=o.text):ZV (l.map g)=ZV l:=by
 rw[Fl (c:=id) λo ho=>⟨(h o ho).1,(h o ho).2.1,λ_=>(h o ho).2.2⟩,Qk]
theorem ZqX (f:Fd):Ta f []=Z6 f:=by
 unfold Ta;by_cases k1:f.kind=1;rw[if_pos k1];simp[Z6,k1,Zim];rw[if_neg k1];by_cases k4:f.kind=4;simp[k4,Z6,ZV];simp[k4,Z6,ZV]
theorem ZaK (x:Ln) (o:Opn):(Zj x o).1.item=o.item:=by
 unfold Zj;repeat' split
 all_goals rfl
theorem D9 {x:Ln} {o p:Opn} (ho:XS x o=(p,Ht)):
  (p=o/\(ZK o=Ht->o.at'∉Zt x))\/(ZK o=Ht/\o.at'∈Zt x/\Zc x≠ []/\(Zj x o).2=Ht/\p=Zv (Zj x o).1 ((Zc x).getD 0 Jd)):=by
 cases hx:ZI x;unfold XS at ho;rw[if_pos hx]at ho;simp at ho;cases hp:ZK o;rw[Fa hx hp]at ho;cases ho;exact .inl ⟨rfl,λh=>by cases h⟩;rw[Tu hx hp]at ho;split at ho;rename_i h;cases ho;exact .inl ⟨rfl,λ_=>Wt h⟩;rename_i h;split at ho;simp at ho;rename_i hb;simp only[K7.injEq,and_true]at ho;obtain⟨g,_,g2,g3⟩:=VQ h;have hb':(Zj x o).2=true:=by simpa using hb
 refine .inr ⟨rfl,by rw[<-g3];exact Ze g2,λhc=> ?_,hb',ho.symm⟩;have hk:=(Yi hx).1;obtain⟨kind,at',nm,ot,fac,fd,fo,ba⟩:=x;simp only at hk;rcases hk with rfl|rfl|rfl|rfl|rfl|rfl|rfl|rfl|rfl|rfl
 all_goals simp[Zc]at hc
 all_goals simp[Zj]at hb'
def ovO (x:Ln) (o:Opn):Option Opn:=if(XS x o).2=Ht then Hs (XS x o).1 else none
theorem SM {x:Ln} {o p:Opn}:ovO x o=Hs p↔XS x o=(p,Ht):=by
 unfold ovO;constructor;intro h;split at h;rename_i h2;simp only[KK.injEq]at h;exact Km h h2;cases h;intro h;rw[h];rfl
theorem Zdz {S:List Opn} {F:Opn->Option Opn} {s:Sp} (p:Opn->Bool) (g:Opn->Opn)
  (h1:∀o∈S,p o=Ht->F o=Hs (g o)/\spO (g o)=s) (h2:∀o∈S,p o=Hf-> ∀y,F o=Hs y->spO y≠s):
  ZA (S.filterMap F) s=(S.filter p).map g:=by
 unfold ZA;induction S with
 |nil=>rfl
 |cons o S ih=>
  have ih:=ih (λo h=>h1 o (by simp[h])) (λo h=>h2 o (by simp[h]));cases hp:p o;rw[Jc (by rw[hp];simp)];cases hF:F o with
  |none=>rw[JR hF];exact ih
  |some y=>
   rw[JG hF,Jc (by simpa using h2 o (by simp) hp y hF)];exact ih
  obtain⟨q1,q2⟩:=h1 o (by simp) hp;rw[Jf (by exact hp),JG q1,Jf (by simpa using q2),Jr,ih]
theorem Tw {f:Fd} (h:Z1 f=Ht):f.at'≠Jd:=λe=>by
 simp only[Z1,Jj]at h;have:=h.1;rw[e]at this;exact absurd this (by decide)
theorem ZmK {l:List Fd} {o:Opn} (h:FitW l o) (hp:ZK o=Ht):On l o.at':=by
 obtain⟨f,h1,_⟩:=h.f hp;have:=YI (l:=l) (r:=o.at') (by rw[h1]);exact⟨_,this.1,this.2⟩
theorem Zlq {l m:List Fd} {x:Ln} {S:List Opn} {it:Str} (ha:ZR l x=(m,0)) (hS:∀o∈S,FitW l o) {g:Fd} (hg:g∈m) (hp:Yf (Zc x) g.at'<0):g∈l/\ZA (S.filterMap (ovO x)) ⟨it,g.at'⟩=ZA S ⟨it,g.at'⟩:=by
 obtain⟨hl,hx,cs,l1,e1,e2,e3⟩:=XI ha;obtain⟨a1,a2,a3,a4,a5⟩:=T3 hl e2;obtain⟨b1,b2,b3,b4,b5⟩:=Vk a1 e3;have hpl:=Sy (Yi hx).1 e1;have hg1:g∈l1:=by
  rcases(b2 g).1 hg with h|h;exact h;exact absurd (by rw[<-hpl];exact Jo.2 ⟨g,h,rfl⟩) (Wt hp)
 obtain⟨hgl,hgo⟩:=(a2 g).1 hg1;refine⟨hgl,?_⟩;rw[Zdz (λo=>decide (spO o=⟨it,g.at'⟩)) id,Qk];rfl;intro o ho hd;have hd:=of_decide_eq_true hd;have hat:o.at'=g.at':=congrArg Sp.at' hd;refine⟨?_,hd⟩;rw[SM];cases hpo:ZK o;exact Fa hx hpo;rw[Tu hx hpo,if_pos (by rw[Zk3 (by rw[hat];exact hgo)];omega)];rfl;intro o ho hd y hy hs;have hd:=of_decide_eq_false hd;rcases D9 (SM.1 hy)with ⟨rfl,_⟩|⟨_,_,hc,_,rfl⟩;exact hd hs;have:(Zc x).getD 0 Jd=g.at':=congrArg Sp.at' hs;refine Wt hp ?_;rw[<-this];exact Ze (by cases h:Zc x with|nil=>exact absurd h hc|cons a t=>simp)
theorem ZeG {l m:List Fd} {x:Ln} {S:List Opn} {it:Str} (ha:ZR l x=(m,0)) (hS:∀o∈S,FitW l o) {c:Rf} (hc:(Zc x).getD 0 Jd=c) (hc0:Zc x≠ []) (hcd:c≠Jd):
  ZA (S.filterMap (ovO x)) ⟨it,c⟩=(S.filter λo=>ZK o&&(decide (o.item=it)&&(decide (o.at'∈Zt x)&&(Zj x o).2))).map λo=>Zv (Zj x o).1 c:=by
 have hx:=(XI ha).2.1;refine Zdz _ _ ?_ ?_;intro o ho hp;simp only[Jj,decide_eq_true_eq]at hp;obtain⟨h1,h2,h3,h4⟩:=hp;refine⟨?_,by simp only[spO,Zv,ZaK,h2]⟩;rw[SM,Tu hx h1,if_neg,if_neg (by rw[h4];simp),hc];intro h;exact Wt h h3;intro o ho hp y hy hs;have hsi:y.item=it:=congrArg Sp.item hs;have hsa:y.at'=c:=congrArg Sp.at' hs;rcases D9 (SM.1 hy)with ⟨rfl,hn⟩|⟨q1,q2,q3,q4,rfl⟩;cases hpo:ZK y;exact hcd (by rw[<-hsa];exact(hS _ ho).z hpo);refine Zrh ha (ZmK (hS _ ho) hpo) (hn hpo) ?_;rw[hsa,<-hc];exact Ze (by cases h:Zc x with|nil=>exact absurd h hc0|cons a t=>simp);have:o.item=it:=by rw[<-hsi];simp only[Zv,ZaK]
 rw[q1,q4,decide_eq_true q2,decide_eq_true this]at hp;cases hp
theorem Dr {l m:List Fd} {x:Ln} {S:List Opn} {it:Str} (ha:ZR l x=(m,0)) (hS:∀o∈S,FitW l o) {c a:Rf} (hc:(Zc x).getD 0 Jd=c) (hc0:Zc x≠ []) (hcd:c≠Jd) (hg:Zt x= [a]) (had:a≠Jd)
  (hb:∀o∈S,ZK o=Ht->o.at'=a->(Zj x o).2=Ht):ZA (S.filterMap (ovO x)) ⟨it,c⟩=(ZA S ⟨it,a⟩).map λo=>Zv (Zj x o).1 c:=by
 rw[ZeG ha hS hc hc0 hcd];congr 1;unfold ZA;apply Kt;intro o ho;rw[KB];simp only[Jj,decide_eq_true_eq,hg,Ji,spO,Sp.mk.injEq];constructor;rintro ⟨_,h2,h3,_⟩;exact⟨h2,h3⟩;rintro ⟨h2,h3⟩;have hp:ZK o=true:=by
  cases h:ZK o;exact absurd (h3▸(hS o ho).z h) had;rfl
 exact⟨hp,h2,h3,hb o ho hp h3⟩
theorem ZgE {S:List Opn} {s:Sp} {o:Opn} (h:o∈ZA S s):o∈S/\spO o=s:=by
 unfold ZA at h;rw[Jp]at h;exact⟨h.1,of_decide_eq_true h.2⟩
theorem Ds {l:List Fd} {S:List Opn} {it:Str} (hl:Z5 l=Ht) (hS:∀o∈S,FitW l o) {f:Fd} (hf:f∈l) (k1:f.kind=1):Sm (ZA S ⟨it,f.at'⟩):=λo ho=>by
 obtain⟨h1,h2⟩:=ZgE ho;have hat:o.at'=f.at':=congrArg Sp.at' h2;have hr:=(Z3.1 hl).2;have hp:ZK o=true:=by
  cases h:ZK o;exact absurd (hat▸(hS o h1).z h) (Tw (hr.2 f hf));rfl
 obtain⟨g,g1,g2,_⟩:=(hS o h1).f hp;rw[hat,YR hr.1 hf]at g1;cases g1;have k3:=g2.2 k1;obtain⟨w,hw⟩:=(hS o h1).w k3;exact⟨k3,hw.delta⟩
theorem Zak {l:List Fd} {S:List Opn} {it:Str} (hl:Z5 l=Ht) (hS:∀o∈S,FitW l o) {f:Fd} (hf:f∈l) (k1:f.kind≠1):∀o∈ZA S ⟨it,f.at'⟩,ZK o=Ht/\o.kind=4/\(o.has=Ht->Xy f o.text=Ht):=λo ho=>by
 obtain⟨h1,h2⟩:=ZgE ho;have hat:o.at'=f.at':=congrArg Sp.at' h2;have hr:=(Z3.1 hl).2;have hp:ZK o=true:=by
  cases h:ZK o;exact absurd (hat▸(hS o h1).z h) (Tw (hr.2 f hf));rfl
 obtain⟨g,g1,g2,g3⟩:=(hS o h1).f hp;rw[hat,YR hr.1 hf]at g1;cases g1;have k4:o.kind=4:=by
  rcases FK hp with h|h;exact absurd (g2.1 h) k1;exact h
 exact⟨hp,k4,g3 k4⟩
open Go.PL
open Go.PL
open Go.PL
theorem ZpW {l:List Fd} {sc:Int} {f:Fd} (hf:f∈l) (h:f.at'.sc=sc):f∈ZY l sc:=Jp.2 ⟨hf,by simpa using h⟩
theorem Zep {l:List Fd} {sc:Int} {f:Fd} (h:f∈ZY l sc):f∈l/\f.at'.sc=sc:=by
 obtain⟨h1,h2⟩:=Jp.1 h;exact⟨h1,by simpa using h2⟩
open Go.PL
open Go.PL
theorem Zkk {y k w:Int} (hk:1<=k) (h:y*k=w) (h1: -1099511627776<=w) (h2:w<=1099511627776): -1099511627776<=y/\y<=1099511627776:=by
 constructor;refine Kr λhn=> ?_
 have:=Kh hk (show 0<= -y by omega);rw[Int.mul_one,Int.neg_mul,h]at this;omega;refine Kr λhn=> ?_
 have:=Kh hk (show 0<=y by omega);rw[h]at this;omega
theorem ZfY {P:Opn->Bool} {h:Opn->Opn} {su sv:Sp} {f:Int} (ne:su≠sv):∀ {S:List Opn},(∀o∈S,spO o=su->P o=Ht/\(h o).delta=o.delta)->(∀o∈S,spO o=sv->P o=Ht/\(h o).delta=f*o.delta)->(∀o∈S,spO o≠su->spO o≠sv->P o=Hf)->
  Fz ((S.filter P).map h)=Fz (ZA S su)+f*Fz (ZA S sv)
 | [],_,_,_=>by simp[Fz,ZA]
 |o::S,hu,hv,hn=>by
  have ih:=ZfY ne (S:=S) (λo ho=>hu o (by simp[ho])) (λo ho=>hv o (by simp[ho])) (λo ho=>hn o (by simp[ho]));unfold ZA at ih ⊢;by_cases h1:spO o=su;obtain⟨p1,p2⟩:=hu o (by simp) h1;rw[Jf p1,Jf (by simpa using h1),Jc (by simpa using λe=>ne (h1.symm.trans e)),Jr,UT,UT,p2,ih];omega;by_cases h2:spO o=sv;obtain⟨p1,p2⟩:=hv o (by simp) h2;rw[Jf p1,Jc (by simpa using h1),Jf (by simpa using h2),Jr,UT,UT,p2,ih,Int.mul_add];omega;rw[Jc (by rw[hn o (by simp) h1 h2];simp),Jc (by simpa using h1),Jc (by simpa using h2)];exact ih
def Agr (l:List Fd) (sc:Int) (it:Str) (es:List En) (S:List Opn) (R:Rf->Bool):Prop:=∀g∈ZY l sc,g.kind=1\/R g.at'=Ht->ZoZ es g.at'=Hs (Ta g (ZA S ⟨it,g.at'⟩))
theorem Vh (S:List Opn) (s:Sp):(ZA S s).length<=S.length:=Jm _ _
theorem Zp1 {c:Str->Str} {l:List Str} (h:l.length≠0):(l.map c).getD ((l.map c).length-1) []=c (l.getD (l.length-1) []):=by
 rw[Jb,JZ,JZ,K2,J5 (show l.length-1<l.length by omega)];rfl
theorem ZqC {l m cs:List Fd} {x:Ln} {es:List En} {sc:Int} {it:Str} {S:List Opn} {R:Rf->Bool} {g:Fd} {i:Nat} (ha:ZR l x=(m,0)) (hS:∀o∈S,FitW l o) (hn:S.length<=1000) (hA:Agr l sc it es S R)
  (harr:XZ l x=(cs,Ht)) (hi:i<cs.length) (hce:cs.getD i Jd=g) (hm:g∈m) (hpi:Yf (Zc x) g.at'=(i:Int)) (hsc:g.at'.sc=sc) (hR:g.kind=1\/(Zoj x g.at'=Ht/\ ∀s∈Zsm x g.at',R s=Ht)):
  ZlM x g (i:Int) es=(Ta g (ZA (S.filterMap (ovO x)) ⟨it,g.at'⟩),0):=by
 obtain⟨hl,hx,cs',l1,e1,e2,e3⟩:=XI ha;rw[harr]at e1;cases e1;obtain⟨a1,a2,a3,a4,a5⟩:=T3 hl e2;obtain⟨b1,b2,b3,b4,b5⟩:=Vk a1 e3;have hrl:=(Z3.1 hl).2;have hfr:=(Z3.1 b1).2.2 _ hm;have hgd:=Tw hfr;have hpl:=Sy (Yi hx).1 harr;have hS':∀o∈S.filterMap (ovO x),FitW m o:=λo ho=>by
  obtain⟨q,q1,q2⟩:=Kn.1 ho;exact ZiX ha (hS q q1) (SM.1 q2)
 have hlen:(ZA (S.filterMap (ovO x)) ⟨it,g.at'⟩).length<=1000:=Js (Vh _ _) (Js (List.length_filterMap_le _ _) hn);have src:∀r,(ZD l r).2=0->r.sc=sc->((ZD l r).1.kind=1\/R r=Ht)->ZoZ es r=Hs (Ta (ZD l r).1 (ZA S ⟨it,r⟩)):=λr h1 h2 h3=>by
  obtain⟨g1,g2⟩:=YI h1;have:=hA (ZD l r).1 (Jp.2 ⟨g1,by rw[g2];simp[h2]⟩) (by rw[g2];exact h3);rwa[g2]at this
 have hf:x.kind≠2->x.kind≠3->x.kind≠9->(ZD l x.at').2=0:=λa b c=>by
  unfold XZ at harr;simp only[if_neg a,if_neg b,if_neg c]at harr;by_cases h:(ZD l x.at').2=0;exact h;rw[if_pos h]at harr;simp at harr
 have hci:(Zc x).getD i Jd=g.at':=by
  rw[<-hpl,JZ,K2,J5 hi];rw[getD_lt hi]at hce;simp[hce]
 have hcn:Zc x≠ []:=λh=>by rw[<-hpl]at h;have:=congrArg List.length h;simp at this;subst this;simp at hi
 have hsrc:i=0->Zsm x g.at'=Zt x:=λh0=>by
  unfold Zsm;rw[if_neg (by rw[hx];simp),if_neg (by omega),if_neg (by rw[hpi,h0];rintro ⟨_,h⟩;simp at h)]
 have hco:=(Yi hx).1;have nil:ZA (S.filterMap (ovO x)) ⟨it,g.at'⟩= []->ZlM x g (i:Int) es=(Z6 g,0)->ZlM x g (i:Int) es=(Ta g (ZA (S.filterMap (ovO x)) ⟨it,g.at'⟩),0):=λh1 h2=>by rw[h1,h2,ZqX]
 have one:∀c:Fd,cs= [c]->i=0/\c=g:=λc hc=>by
  subst hc;have:i=0:=by simpa using hi
  subst this;exact⟨rfl,hce⟩
 have mv:x.kind=1\/x.kind=4\/x.kind=5->i=0->g.at'.sc=x.at'.sc->g.kind=(ZD l x.at').1.kind->g.df=(ZD l x.at').1.df->ZlM x g (i:Int) es=(Ta g (ZA (S.filterMap (ovO x)) ⟨it,g.at'⟩),0):=λhk h0 hs gk gdf=>by
  have hf0:=hf (by omega) (by omega) (by omega);have hg:Zt x= [x.at']:=by unfold Zt;rw[if_neg (by omega),if_neg (by omega),if_neg (by omega)]
  obtain⟨g1,g2⟩:=YI hf0;have h1:=src x.at' hf0 (by rw[<-hs];exact hsc) (by
   rcases hR with h|⟨_,h⟩;exact .inl (gk▸h);exact .inr (h _ (by rw[hsrc h0,hg];simp)))
  have hb:∀o,(Zj x o)=(o,Ht):=λo=>by unfold Zj;rw[if_pos hk]
  have ht:=Dr (it:=it) ha hS (c:=g.at') (by rw[<-hci,h0]) hcn hgd hg (by rw[<-g2];exact Tw (hrl.2 _ g1)) (λo _ _ _=>by rw[hb o]);rw[ht];simp only[hb];unfold ZlM;rw[if_neg (by omega),hg];simp only[JA,h1];rw[if_neg (by omega)];unfold ZmQ;rw[if_neg (by omega),if_neg (by omega),if_neg (by omega),if_neg (by omega),if_neg (by omega)];generalize ZA S ⟨it,x.at'⟩=T;congr 1;unfold Ta;rw[Zjy (g:=λo=>Zv o g.at') (λo _=>⟨rfl,rfl⟩),Zdv (g:=λo=>Zv o g.at') (λo _=>⟨rfl,rfl,rfl⟩)];simp only[Z6,gk,gdf];split<;>rfl
 clear e2 e3 a5 b5;obtain⟨kind,at',nm,ot,fac,fd,fo,ba⟩:=x;simp only at hco mv hf;rcases hco with rfl|rfl|rfl|rfl|rfl|rfl|rfl|rfl|rfl|rfl;have hf0:=hf (by decide) (by decide) (by decide);simp[XZ,Zc,hf0]at harr;obtain⟨i0,hcg⟩:=one _ harr.symm;subst hcg;exact mv (by omega) i0 rfl rfl rfl;simp[XZ]at harr;obtain⟨i0,hcg⟩:=one _ harr.symm;refine nil ?_ (by unfold ZlM;rw[if_pos (.inl rfl)]);rw[ZeG (it:=it) ha hS (c:=g.at') (by rw[<-hci,i0]) hcn hgd,J8.2,J9];intro o ho h;simp[Zt]at h;simp[XZ]at harr;have:=harr.1;subst this;simp at hi;have hf0:=hf (by decide) (by decide) (by decide);simp[XZ,Zc,hf0]at harr;obtain⟨i0,hcg⟩:=one _ harr.symm;subst hcg;exact mv (by omega) i0 rfl rfl rfl;have hf0:=hf (by decide) (by decide) (by decide);simp[XZ,Zc,hf0]at harr;obtain⟨i0,hcg⟩:=one _ harr.symm;subst hcg;exact mv (by omega) i0 rfl rfl rfl;have hf0:=hf (by decide) (by decide) (by decide);simp[XZ,hf0]at harr;obtain⟨hc,gk⟩:=harr;have hg:Zt ⟨6,at',nm,ot,fac,fd,fo,ba⟩= [at']:=by simp[Zt]
 have hcm:Zc ⟨6,at',nm,ot,fac,fd,fo,ba⟩= [Zf at' nm,Zf at' ot]:=by simp[Zc]
 by_cases h0:i=0;subst h0;have hge:g.at'=Zf at' nm/\g.kind=1:=by rw[<-hce,<-hc];exact⟨rfl,rfl⟩
 obtain⟨g1,g2⟩:=YI hf0;have h1:=src at' hf0 (by rw[<-hsc,hge.1];rfl) (.inl gk);have hsm:=Ds (it:=it) hl hS g1 gk;rw[g2]at hsm;have ht:=Dr (it:=it) ha hS (c:=g.at') (by rw[<-hci]) hcn hgd hg (by rw[<-g2];exact Tw (hrl.2 _ g1)) (λo ho hp hat=>by
  obtain⟨f,f1,f2,_⟩:=(hS o ho).f hp;have:o.kind=3:=f2.2 (by rw[hat]at f1;have:=congrArg Qs f1;simp only at this;rw[<-this];exact gk);simp[Zj,this])
 have hb:∀o,(Zj ⟨6,at',nm,ot,fac,fd,fo,ba⟩ o).1=o:=λo=>by simp[Zj]
 rw[ht];simp only[hb];unfold ZlM;rw[if_neg (by simp),hg];simp only[JA,h1];rw[if_neg (by omega)];unfold ZmQ;rw[if_pos rfl];generalize ZA S ⟨it,at'⟩=T;congr 1;unfold Ta;rw[Zjy (g:=λo=>Zv o g.at') (λo _=>⟨rfl,rfl⟩)];simp only[gk,hge.2,if_true];refine nil ?_ (by unfold ZlM;rw[if_pos (.inr ⟨rfl,by omega⟩)]);have hne:(Zc ⟨6,at',nm,ot,fac,fd,fo,ba⟩).getD 0 Jd≠g.at':=λe=>by
  have hnd:=b4;rw[hpl,hcm]at hnd;have hi2:i=1:=by rw[<-hc]at hi;simp at hi;omega
  rw[hi2]at hci;rw[hcm]at hci e;simp only[JA,KO]at hci e;rw[<-hci]at e;simp[e]at hnd
 unfold ZA;rw[J8];intro y hy hd;have hd:=of_decide_eq_true hd;have hya:y.at'=g.at':=congrArg Sp.at' hd;obtain⟨o,o1,o2⟩:=Kn.1 hy;rcases D9 (SM.1 o2)with ⟨rfl,hq⟩|⟨_,_,_,_,rfl⟩;cases hpo:ZK y;exact hgd (by rw[<-hya];exact(hS _ o1).z hpo);refine Zrh ha (ZmK (hS _ o1) hpo) (hq hpo) ?_;rw[hya,<-hci];exact Ze (by rw[<-hpl,Jb];exact hi);exact hne hya;have hf0:=hf (by decide) (by decide) (by decide);simp[XZ,hf0]at harr;obtain⟨i0,hcg⟩:=one _ harr.1.symm;subst hcg;exfalso;rcases hR with h|⟨h,_⟩;simp at h;simp[Zoj,hx,Zc]at h;have hf0:=hf (by decide) (by decide) (by decide);simp[XZ,hf0]at harr;obtain⟨hc,gk⟩:=harr;obtain⟨i0,hcg⟩:=one _ hc.symm;have hg:Zt ⟨8,at',nm,ot,fac,fd,fo,ba⟩= [at']:=by simp[Zt]
 obtain⟨g1,g2⟩:=YI hf0;have hgv:g.at'=at'/\g.kind=3/\g.df=ot:=by rw[<-hcg];exact⟨rfl,rfl,rfl⟩
 have h1:=src at' hf0 (by rw[<-hsc,hgv.1]) (by
  rcases hR with h|⟨_,h⟩;rw[hgv.2.1]at h;cases h;exact .inr (h _ (by rw[hsrc i0,hg];simp)))
 have hfk:(ZD l at').1.kind=3/\(ZD l at').1.df=nm/\(ZD l at').1.cases'=Yt fo:=by rw[gk];exact⟨rfl,rfl,rfl⟩
 have hwr:=Zak (it:=it) hl hS g1 (by rw[hfk.1];decide);rw[g2]at hwr;have htab:=Zju hx;have conv:∀o,o.kind=4->(o.has=Ht->Xy (ZD l at').1 o.text=Ht)->(Vz o fo).2=Ht/\(o.has=Ht->(Vz o fo).1=(Xj fo o.text).1):=λo k4 hh=>by
  unfold Vz;rw[if_neg (by omega)];cases h:o.has;rw[if_pos rfl];exact⟨rfl,λh=>by cases h⟩;rw[if_neg (by simp)];have hft:=hh h;have hfr:UW fo o.text=true:=by
   rw[<-Za4];simp only[Xy,Jj]at hft;have:=hft.2;rw[hfk.1,hfk.2.2]at this;simpa using this
  exact⟨(ZgD htab.1 hfr).2,λ_=>rfl⟩
 have ht:=Dr (it:=it) ha hS (c:=g.at') (by rw[<-hci,i0]) hcn hgd hg (by rw[<-g2];exact Tw (hrl.2 _ g1)) (λo ho hp hat=>by
  have ho':o∈ZA S ⟨o.item,at'⟩:=Jp.2 ⟨ho,by simp[spO,hat]⟩;have hwr:=Zak (it:=o.item) hl hS g1 (by rw[hfk.1];decide);rw[g2]at hwr;obtain⟨_,q2,q3⟩:=hwr o ho';simp[Zj,(conv o q2 q3).1])
 have hb:∀o,(Zj ⟨8,at',nm,ot,fac,fd,fo,ba⟩ o).1=YU o (Vz o fo).1:=λo=>by simp[Zj]
 rw[ht];simp only[hb];unfold ZlM;rw[if_neg (by simp),hg];simp only[JA,h1];rw[if_neg (by omega)];unfold ZmQ;rw[if_neg (by simp),if_neg (by simp),if_neg (by simp),if_pos rfl];generalize ZA S ⟨it,at'⟩=T at *;congr 1;have htx:ZV (T.map λo=>Zv (YU o (Vz o fo).1) g.at')=(ZV T).map λs=>(Xj fo s).1:=Fl λo ho=>⟨rfl,rfl,λh=>by
  simp only[Jj]at h;obtain⟨_,q2,q3⟩:=hwr o ho;exact(conv o q2 q3).2 h.2⟩
 unfold Ta;rw[htx];simp only[hgv.2.1,hfk.1,Jb];simp only[show ¬(3:Int)=1 by decide,show ¬(3:Int)=4 by decide,if_false];have hvg:(Z6 g).l= [ot]:=by simp[Z6,hgv.2.1,hgv.2.2]
 have hvf:(Z6 (ZD l at').1).l= [nm]:=by simp[Z6,hfk.1,hfk.2.1]
 by_cases hz:(ZV T).length=0;rw[if_pos hz,if_pos hz,hvg,hvf];simp[htab.2];rw[if_neg hz,if_neg hz];have:=Zp1 (c:=λs=>(Xj fo s).1) hz;rw[Jb]at this;rw[this];simp;simp only[XZ,Int.reduceEq,if_false,if_true,Ub]at harr;split at harr;simp at harr;split at harr;simp at harr;rename_i u1 u2;simp only[not_or,K1]at u1 u2;simp only[K7.injEq,and_true]at harr;obtain⟨q1,q2⟩:=u1;obtain⟨q3,q4,q5⟩:=u2;obtain⟨i0,hcg⟩:=one _ harr.symm;have hg:Zt ⟨9,at',nm,ot,fac,fd,fo,ba⟩= [Zf at' nm,Zf at' ot]:=by simp[Zt]
 have hgv:g.at'=at'/\g.kind=1:=by rw[<-hcg];exact⟨rfl,rfl⟩
 have h1:=src (Zf at' nm) q1 (by rw[<-hsc,hgv.1];rfl) (.inl q2);have h2:=src (Zf at' ot) q3 (by rw[<-hsc,hgv.1];rfl) (.inl q4);obtain⟨u1,u2⟩:=YI q1;obtain⟨v1,v2⟩:=YI q3;have smu:=Ds (it:=it) hl hS u1 q2;have smv:=Ds (it:=it) hl hS v1 q4;rw[u2]at smu;rw[v2]at smv;have smg:=Ds (it:=it) b1 hS' hm hgv.2;have hne:Zf at' nm≠Zf at' ot:=λe=>by
  have:=a4;rw[hg]at this;simp[e]at this
 have hfac:2<=fac/\fac<=1000:=by
  have hxx:=hx;unfold ZI at hxx;simp[-Bool.not_eq_eq_eq_not]at hxx;omega
 have huw:0<(ZD l (Zf at' nm)).1.worth/\(ZD l (Zf at' nm)).1.worth<1048577:=by
  have:=hrl.2 _ u1;simp only[Z1,q2,if_true,Jj,decide_eq_true_eq]at this;exact this.2.2.2
 have hvw:(ZD l (Zf at' ot)).1.worth=(ZD l (Zf at' nm)).1.worth*fac:=by
  rw[q5];refine TD ?_;have p1:(ZD l (Zf at' nm)).1.worth*fac<=1048577*fac:=Ke (by omega) (by omega);have p2:0*fac<=(ZD l (Zf at' nm)).1.worth*fac:=Ke (by omega) (by omega);omega
 have atu:∀o∈S,spO o=⟨it,Zf at' nm⟩->ZK o=Ht/\o.kind=3/\o.at'=Zf at' nm:=λo ho h=>by
  have hat:o.at'=Zf at' nm:=congrArg Sp.at' h;exact⟨by have:=(smu o (Jp.2 ⟨ho,by simpa using h⟩)).1;simp[ZK,this],(smu o (Jp.2 ⟨ho,by simpa using h⟩)).1,hat⟩
 have atv:∀o∈S,spO o=⟨it,Zf at' ot⟩->ZK o=Ht/\o.kind=3/\o.at'=Zf at' ot/\UZ 0 o.delta fac=(fac*o.delta,0)/\YN o.delta=true:=λo ho h=>by
  have hat:o.at'=Zf at' ot:=congrArg Sp.at' h;obtain⟨k3,d1,d2⟩:=smv o (Jp.2 ⟨ho,by simpa using h⟩);have hfd:YN o.delta=true:=Ys.2 (by unfold Lim;omega);obtain⟨w,hw⟩:=(hS o ho).w k3;obtain⟨_,⟨f,f1,f2,f3,f4,f5⟩,w1,w2⟩:=hw;have hfe:f=(ZD l (Zf at' ot)).1:=by rw[<-hat,f1]
  rw[hfe,hvw,K3 (ZD l (Zf at' nm)).1.worth,<-Int.mul_assoc]at f5;obtain⟨y1,y2⟩:=Zkk (y:=o.delta*fac) (by omega) f5 w1 w2;have hm:=(Zje (u:=0) hfac (by unfold Lim;omega) (Ys.1 hfd)).2.2;rw[if_pos ⟨Ys.2 (by unfold Lim;omega),Ys.2 (by unfold Lim;omega)⟩]at hm;unfold ZkU at hm;rw[if_pos ⟨by decide,hfd⟩]at hm;have hj:UZ 0 o.delta fac=(fac*o.delta,0):=by
   split at hm;rename_i hz;refine Km ?_ hz;have:=congrArg Qs hm;simp only at this;rw[this,K3];omega;simp at hm
  exact⟨by simp[ZK,k3],k3,hat,hj,hfd⟩
 have pu:Yf [Zf at' nm,Zf at' ot] (Zf at' nm)=0:=Zh1 _ _;have pv:Yf [Zf at' nm,Zf at' ot] (Zf at' ot)=1:=Zk2 (i:=1) (by simpa using hne) (by simp) rfl;have hbu:∀o∈S,spO o=⟨it,Zf at' nm⟩->Zj ⟨9,at',nm,ot,fac,fd,fo,ba⟩ o=(Yc o o.delta,Ht):=λo ho h=>by
  obtain⟨_,k3,hat⟩:=atu o ho h;simp[Zj,hg,hat,pu,Y3,k3]
 have hbv:∀o∈S,spO o=⟨it,Zf at' ot⟩->Zj ⟨9,at',nm,ot,fac,fd,fo,ba⟩ o=(Yc o (fac*o.delta),Ht):=λo ho h=>by
  obtain⟨_,k3,hat,hj,hfd⟩:=atv o ho h;simp[Zj,hg,hat,pv,Y3,k3,hfd,hj]
 have ht:=ZeG (it:=it) ha hS (c:=g.at') (by rw[<-hci,i0]) hcn hgd;have hsum:=ZfY (P:=λo=>ZK o&&(decide (o.item=it)&&(decide (o.at'∈Zt ⟨9,at',nm,ot,fac,fd,fo,ba⟩)&&(Zj ⟨9,at',nm,ot,fac,fd,fo,ba⟩ o).2))) (h:=λo=>Zv (Zj ⟨9,at',nm,ot,fac,fd,fo,ba⟩ o).1 g.at') (su:=⟨it,Zf at' nm⟩) (sv:=⟨it,Zf at' ot⟩) (f:=fac) (by simpa using hne) (S:=S)
  (λo ho h=>by
   have hi:o.item=it:=congrArg Sp.item h;obtain⟨p1,p2,p3⟩:=atu o ho h;rw[hbu o ho h];exact⟨by simp[p1,hi,p3,hg],rfl⟩)
  (λo ho h=>by
   have hi:o.item=it:=congrArg Sp.item h;obtain⟨p1,p2,p3,_⟩:=atv o ho h;rw[hbv o ho h];exact⟨by simp[p1,hi,p3,hg],rfl⟩)
  (λo ho n1 n2=>by
   rw[KU];intro h;simp only[Jj,decide_eq_true_eq,hg,Jt,Ky,or_false]at h;obtain⟨_,h2,h3,_⟩:=h;rcases h3 with h3|h3
   ·exact n1 (by simp[spO,h2,h3])
   ·exact n2 (by simp[spO,h2,h3]))
 rw[<-ht]at hsum;have tu:=ZeI smu (Js (Vh _ _) hn);have tv:=ZeI smv (Js (Vh _ _) hn);have tg:=ZeI smg hlen;have lu:=ZiS smu (Js (Vh _ _) hn);have lv:=ZiS smv (Js (Vh _ _) hn);have bu:=GT smu;have bg:=GT smg;have nu:(ZA S ⟨it,Zf at' nm⟩).length<=1000:=Js (Vh _ _) hn;unfold ZlM;rw[if_neg (by simp),hg];simp only[JA,KO,h1,h2,if_true];have hvu:(Ta (ZD l (Zf at' nm)).1 (ZA S ⟨it,Zf at' nm⟩)).n=Fz (ZA S ⟨it,Zf at' nm⟩):=by unfold Ta;rw[if_pos q2];exact tu
 have hvv:(Ta (ZD l (Zf at' ot)).1 (ZA S ⟨it,Zf at' ot⟩)).n=Fz (ZA S ⟨it,Zf at' ot⟩):=by unfold Ta;rw[if_pos q4];exact tv
 have hvg:Ta g (ZA (S.filterMap (ovO ⟨9,at',nm,ot,fac,fd,fo,ba⟩)) ⟨it,g.at'⟩)=⟨g.at',Fz (ZA (S.filterMap (ovO ⟨9,at',nm,ot,fac,fd,fo,ba⟩)) ⟨it,g.at'⟩),(Z6 g).l⟩:=by unfold Ta;rw[if_pos hgv.2,tg]
 rw[hvu,hvv,hvg];generalize Fz (ZA S ⟨it,Zf at' nm⟩)=A at *;generalize Fz (ZA S ⟨it,Zf at' ot⟩)=B at *;generalize ZA (S.filterMap (ovO ⟨9,at',nm,ot,fac,fd,fo,ba⟩)) ⟨it,g.at'⟩=G at *;have hm:=(Zje hfac lu lv).2.2;have c1:B*fac=fac*B:=K3 _ _;rw[if_pos ⟨Ys.2 (by unfold Lim;omega),Ys.2 (by unfold Lim;omega)⟩]at hm;rw[hm];simp only[if_true];rw[hsum,c1];have hf0:=hf (by decide) (by decide) (by decide);simp[XZ,hf0]at harr;obtain⟨hc,gk⟩:=harr;obtain⟨i0,hcg⟩:=one _ hc.symm;have hg:Zt ⟨10,at',nm,ot,fac,fd,fo,ba⟩= [at']:=by simp[Zt]
 obtain⟨g1,g2⟩:=YI hf0;have hgv:g.at'=at'/\g.kind=2/\g.df=ot:=by rw[<-hcg];exact⟨rfl,rfl,rfl⟩
 have h1:=src at' hf0 (by rw[<-hsc,hgv.1]) (by
  rcases hR with h|⟨_,h⟩;rw[hgv.2.1]at h;cases h;exact .inr (h _ (by rw[hsrc i0,hg];simp)))
 have ht:=Dr (it:=it) ha hS (c:=g.at') (by rw[<-hci,i0]) hcn hgd hg (by rw[<-g2];exact Tw (hrl.2 _ g1)) (λo ho hp hat=>by
  have ho':o∈ZA S ⟨o.item,at'⟩:=Jp.2 ⟨ho,by simp[spO,hat]⟩;have hwr:=Zak (it:=o.item) hl hS g1 (by rw[gk];decide);rw[g2]at hwr;simp[Zj,(hwr o ho').2.1])
 have hb:∀o,(Zj ⟨10,at',nm,ot,fac,fd,fo,ba⟩ o).1=o:=λo=>by simp[Zj]
 rw[ht];simp only[hb];unfold ZlM;rw[if_neg (by simp),hg];simp only[JA,h1];rw[if_neg (by omega)];unfold ZmQ;rw[if_neg (by simp),if_neg (by simp),if_pos rfl];generalize ZA S ⟨it,at'⟩=T at *;congr 1;unfold Ta;rw[Zdv (g:=λo=>Zv o g.at') (λo _=>⟨rfl,rfl,rfl⟩)];simp only[hgv.2.1,gk];simp only[show ¬(2:Int)=1 by decide,show ¬(4:Int)=1 by decide,show ¬(2:Int)=4 by decide,if_false,if_true];by_cases hz:(ZV T).length=0;rw[if_pos hz,if_neg (by omega)];rw[if_neg hz,if_pos (by omega)]
open Go.PL
theorem Zvs {l m:List Fd} {x:Ln} {es:List En} {sc:Int} {it:Str} {S:List Opn} {R:Rf->Bool} {g:Fd} (ha:ZR l x=(m,0)) (hS:∀o∈S,FitW l o) (hn:S.length<=1000) (hA:Agr l sc it es S R)
  (hg:g∈ZY m sc) (hR:g.kind=1\/(Zoj x g.at'&&(Zsm x g.at').all R)=Ht):ZtW x es g=(Ta g (ZA (S.filterMap (ovO x)) ⟨it,g.at'⟩),0):=by
 obtain⟨hgm,hgs⟩:=Zep hg;have hR':g.kind=1\/(Zoj x g.at'=Ht/\ ∀s∈Zsm x g.at',R s=Ht):=by
  rcases hR with h|h;exact .inl h;simp only[Jj,J3]at h;exact .inr h
 have hx:=(XI ha).2.1;unfold ZtW;rcases ZyJ ha hgm with ⟨h1,h2⟩|⟨i,h1,h2,cs,h3,h4,h5⟩;rw[if_pos h1,(Zlq ha hS hgm h1).2];have:=hA g (ZpW h2 hgs) (by
  rcases hR' with h|⟨_,h⟩;exact .inl h;refine .inr (h _ ?_);unfold Zsm;rw[if_neg (by rw[hx];simp),if_pos h1];simp)
 rw[this];rw[if_neg (by omega),h1];exact ZqC ha hS hn hA h3 h4 h5 hgm h1 hgs hR'
theorem Zlp {T:List Opn} {s:Str} (h:s∈ZV T):∃o∈T,o.kind=4/\o.has=Ht/\o.text=s:=by
 unfold ZV at h;obtain⟨o,h1,h2⟩:=Jo.1 h;rw[Jp]at h1;simp only[Jj,beq_iff_eq]at h1;exact⟨o,h1.1,h1.2.1,h1.2.2,h2⟩
theorem ZmJ {f:Fd} (hr:Z1 f=Ht) (k1:f.kind≠1) (k4:f.kind≠4):Xy f f.df=true:=by
 have:=ZlB hr;obtain⟨_,_,_,h⟩:=ZtH this k1;exact h f.df (by simp[Z6,k1,k4])
theorem ZoF {F:List Fd} {S:List Opn} {it:Str} {f:Fd} (hl:Z5 F=Ht) (hS:∀o∈S,FitW F o) (hn:S.length<=400) (hf:f∈F):XG f (Ta f (ZA S ⟨it,f.at'⟩))=true:=by
 have hr:=(Z3.1 hl).2.2 f hf;unfold Ta;by_cases k1:f.kind=1;rw[if_pos k1];have:=Zxx hr k1 (n:=Zim (ZA S ⟨it,f.at'⟩)) (Zal _ Ztf);have e:(Z6 f).l= []:=by simp[Z6,k1]
 rw[e];exact this;rw[if_neg k1];have hw:=Zak (it:=it) hl hS hf k1;have ht:∀s∈ZV (ZA S ⟨it,f.at'⟩),Xy f s=true:=λs hs=>by
  obtain⟨o,h1,_,h3,h4⟩:=Zlp hs;rw[<-h4];exact(hw o h1).2.2 h3
 have hlen:=U7 (ZA S ⟨it,f.at'⟩);have hl2:=Vh S ⟨it,f.at'⟩;refine Zwh hr k1 ?_ ?_;by_cases k4:f.kind=4;rw[if_pos k4,if_pos k4];omega;rw[if_neg k4,if_neg k4];split;simp[Z6,k1,k4];rfl;by_cases k4:f.kind=4;rw[if_pos k4];exact ht;rw[if_neg k4];split;intro s hs;simp[Z6,k1,k4]at hs;subst hs;exact ZmJ hr k1 k4;intro s hs;rw[Ji]at hs;subst hs;exact ht _ (Ze (by omega))
theorem ZcP {F:List Fd} {S:List Opn} {sc:Int} {it:Str} (hl:Z5 F=Ht) (hS:∀o∈S,FitW F o) (hn:S.length<=400):Yr (ZY F sc) (WV F S sc it)=true:=by
 unfold Yr WV;simp only[Jb,decide_true,Bool.true_and,J3,JN];intro i hi;have:((ZY F sc).map λf=>Ta f (ZA S ⟨it,f.at'⟩)).getD i Jd=Ta ((ZY F sc).getD i Jd) (ZA S ⟨it,((ZY F sc).getD i Jd).at'⟩):=by
  rw[getD_lt (by simpa using hi),getD_lt hi,JE]
 rw[this];exact ZoF hl hS hn (Zep (Ze hi)).1
open Go.PL
inductive Two:List Fd->List Ln->List Fd->Prop
 |nil (l):Two l [] l
 |cons {l m n x xs}:ZR l x=(m,0)->ZR m (Zab x)=(l,0)->Two m xs n->Two l (x::xs) n
theorem Two.append {l m n:List Fd} {xs ys:List Ln} (h:Two l xs m) (k:Two m ys n):Two l (xs++ys) n:=by
 induction h with
 |nil=>exact k
 |cons a b c ih=>exact .cons a b (ih k)
theorem Two.split:∀ {xs ys:List Ln} {l n:List Fd},Two l (xs++ys) n-> ∃m,Two l xs m/\Two m ys n
 | [],ys,l,n,h=>⟨l,.nil l,h⟩
 |x::xs,ys,l,n,h=>by
  cases h with
  |cons a b c=>
   obtain⟨m,h1,h2⟩:=Two.split c;exact⟨m,.cons a b h1,h2⟩
open Go.PL
theorem ZpB:∀(a b:Str),ZH a b=Ht↔a<b
 | [],[]=>by simp[ZH,KA]
 | [],_::_=>by simp[ZH,KA]
 |_::_,[]=>by simp[ZH,KA]
 |x::a,y::b=>by
  have ih:=ZpB a b;unfold ZH at *;rw[List.cons_lt_cons_iff,<-ih];simp[KA]
theorem Zn5 (xs:List Str):(TN xs).Pairwise λx y=>x<=y:=by
 have:=List.pairwise_mergeSort (le:=λx y:Str=>decide (x<=y)) (λa b c h1 h2=>by simp only[decide_eq_true_eq]at *;exact List.le_trans h1 h2) (λa b=>by simp only[K6,decide_eq_true_eq];exact List.le_total a b) xs;exact this.imp λh=>by simpa using h
theorem ZaP {xs:List Str} {s:Str} (h:s∈Lib.compact xs):s∈xs:=by
 unfold Lib.compact Lib.compactUpTo at h;obtain⟨j,h1,h2⟩:=Jo.1 h;rw[Jp,JN]at h1;rw[<-h2];have hj:j<xs.toArray.size:=by simpa using h1.1
 rw[getElem!_pos xs.toArray j hj];simp
theorem Zhu {xs:List Str} (h:xs.Pairwise λx y=>x<=y):(Lib.compact xs).Pairwise λx y=>ZH x y=true:=by
 unfold Lib.compact Lib.compactUpTo;rw[KT];have hp:((Kd xs.length).filter (Lib.keeps xs.toArray)).Pairwise λi j=>i<j:=J6.sublist JS List.pairwise_lt_range
 refine J6.imp_of_mem ?_ hp;intro i j hi hj hij;rw[Jp,JN]at hi hj;have hi1:=hi.1;have hj1:=hj.1;have hk:=hj.2;unfold Lib.keeps at hk;simp only[decide_eq_true_eq]at hk;rw[getElem!_pos xs.toArray i (by simpa using hi1),getElem!_pos xs.toArray j (by simpa using hj1)];rw[getElem!_pos xs.toArray j (by simpa using hj1),getElem!_pos xs.toArray (j-1) (by simp;omega)]at hk;simp only[List.getElem_toArray]at hk ⊢;rw[JQ]at h;have hne:xs[j]≠xs[j-1]:=by rcases hk with h|h;omega;exact h
 have h1:xs[j-1]<=xs[j]:=h (j-1) j (by omega) hj1 (by omega);have h2:xs[i]<=xs[j-1]:=by
  by_cases e:i=j-1;subst e;exact List.le_refl _;exact h i (j-1) hi1 (by omega) (by omega)
 rw[ZpB];have h3:xs[j-1]<xs[j]:=by
  rcases Sz xs[j-1] xs[j]with h|h|h;exact(ZpB _ _).1 h;exact absurd h.symm hne;exact absurd ((ZpB _ _).1 h) (List.not_lt.2 h1)
 exact List.lt_of_le_of_lt h2 h3
theorem ZfT (l:List Opn) (c:Str):(Xc l c).Pairwise λx y=>ZH x y=true:=Zhu (Zn5 _)
theorem Zm8 {l:List Opn} {c i:Str} (h:i∈Xc l c):∃o∈l,o.kind=1/\o.cart=c/\o.item=i:=by
 have h1:=ZaP h;unfold TN at h1;rw[Ko]at h1;unfold Xm at h1;obtain⟨o,h2,h3⟩:=Jo.1 h1;rw[Jp]at h2;simp only[Jj,beq_iff_eq]at h2;exact⟨o,h2.1,h2.2.1,h2.2.2,h3⟩
theorem Zc6 (l:List Opn) (c:Str):Xc (Yq l c) c=Xc l c:=by
 unfold Xc Xm Yq;rw[J7];congr 4;funext o;cases o.cart==c<;>simp
def Zo2 (m:List Eg) (b:Tg) (o:Opn):Option Opn:=if(Xl (FM m o.sch b).1 o).2=Ht then Hs (Zsk (Xl (FM m o.sch b).1 o).1 b)else none
theorem Zt7 {m:List Eg} {b:Tg} {o:Opn} (h:X9 m o=Ht) (hb:upC m b=0):((toT m o b).c==0&&(toT m o b).ok)=(Xl (FM m o.sch b).1 o).2/\((Xl (FM m o.sch b).1 o).2=Ht->(toT m o b).o=Zsk (Xl (FM m o.sch b).1 o).1 b):=by
 have h':=h;simp only[X9,Jj,decide_eq_true_eq]at h';have hc:Xx m o b=0:=ZcH.2 ⟨h'.1,h'.2.1,hb,h'.2.2⟩;have hp:Wx m o.sch b=0:=Vd.2 ⟨h'.2.1,hb⟩;unfold toT;rw[if_neg (by rw[hc];simp)];unfold ZoN;rw[if_neg (by rw[hp];simp)];cases ha:(Xl (FM m o.sch b).1 o).2;exact⟨by simp,λh=>by cases h⟩;exact⟨by simp,λ_=>by simp⟩
theorem Si {m:List Eg} {b:Tg} (hb:upC m b=0):∀ {l:List Opn},(∀o∈l,X9 m o=Ht)->YK m l b=l.filterMap (Zo2 m b)
 | [],_=>rfl
 |o::l,h=>by
  have ih:=Si hb (l:=l) λx hx=>h x (by simp[hx])
  obtain⟨h1,h2⟩:=Zt7 (h o (by simp)) hb;unfold YK at ih ⊢;cases ha:(Xl (FM m o.sch b).1 o).2;rw[Jc (p:=λo=>(toT m o b).c==0&&(toT m o b).ok) (by rw[h1,ha];simp),JR (by unfold Zo2;rw[ha];rfl)];exact ih;rw[Jf (p:=λo=>(toT m o b).c==0&&(toT m o b).ok) (by rw[h1,ha]),JG (b:=(toT m o b).o) (by unfold Zo2;rw[if_pos ha,h2 ha]),Jr,ih]
theorem Zbg {m:List Eg} {l:List Opn} {o:Opn} (h:o∈Xk m l):X9 m o=true:=by
 have h1:=(G2 m l).mem_iff.1 h;unfold UL at h1;have h2:=(Jp.1 h1).1;exact(Jp.1 h2).2
theorem FitW.schd {l:List Fd} {o:Opn} (h:FitW l o) (t:Tg):FitW l (Zsk o t):=⟨h.f,h.z,λk=>by obtain⟨w,hw⟩:=h.w k;exact⟨w,hw.sch t⟩⟩
theorem ZpP {m:List Eg} (hr:RightM m) {o:Opn} (h:X9 m o=Ht):upC m o.sch=0/\FitW (Ye (Zd m) o.sch).1 o:=by
 simp only[X9,Jj,decide_eq_true_eq]at h;exact⟨h.2.1,ZmI (ZbE hr h.2.1) h.2.2⟩
theorem Zjq {m:List Eg} (hm:OkM m) (hr:RightM m) {b:Tg} (hb:upC m b=0) {l:List Opn} (h:∀o∈l,X9 m o=Ht):∀o∈l.filterMap (Zo2 m b),FitW (Ye (Zd m) b).1 o:=λo ho=>by
 obtain⟨q,q1,q2⟩:=Kn.1 ho;obtain⟨u,hf⟩:=ZpP hr (h q q1);unfold Zo2 at q2;split at q2;rename_i ha;simp only[KK.injEq]at q2;rw[<-q2];exact(ZfI _ (Zqw hm hr u hb) hf (Km rfl ha)).schd b;cases q2
open Go.PL
def Zff (s x:Str):Bool:=ZH x s
def Xf (l:List Str) (s:Str):Nat:=(l.takeWhile (Zff s)).length
def Uy (l:List Str) (s:Str):List Str:=if Xf l s<l.length/\(l.getD (Xf l s) []==s)=Ht then l else l.take (Xf l s)++ [s]++l.drop (Xf l s)
theorem Zh3 (l:List Str) (s:Str):Xf l s<=l.length:=(KE (Zff s)).length_le
theorem Zev:∀(l:List Str) (s:Str) (k:Nat),k<Xf l s->ZH (l.getD k []) s=Ht
 | [],s,k,h=>by simp[Xf]at h
 |x::l,s,k,h=>by
  unfold Xf at h;rw[JI]at h;by_cases hx:Zff s x=Ht;rw[if_pos hx]at h;cases k with
  |zero=>exact hx
  |succ k=>exact Zev l s k (by simpa[Xf]using h)
  rw[if_neg hx]at h;simp at h
theorem Df:∀(l:List Str) (s:Str),Xf l s<l.length->ZH (l.getD (Xf l s) []) s=Hf
 | [],s,h=>by simp at h
 |x::l,s,h=>by
  by_cases hx:Zff s x=Ht;have hp:Xf (x::l) s=Xf l s+1:=by unfold Xf;rw[JI,if_pos hx];rfl
  rw[hp]at h ⊢;exact Df l s (by simpa using h);have hp:Xf (x::l) s=0:=by unfold Xf;rw[JI,if_neg hx];rfl
  rw[hp];have:Zff s x=false:=by simpa using hx
  exact this
def ZaE (l:List Str):Prop:=l.Pairwise λx y=>ZH x y=Ht
theorem ZkH {l:List Str} {k:Nat} (h:k<l.length):l.drop k=l.getD k []::l.drop (k+1):=by
 rw[Kq h,getD_lt h]
theorem Zqo (l:List Str) (s x:Str):x∈Uy l s↔x∈l\/x=s:=by
 unfold Uy;by_cases h:Xf l s<l.length/\(l.getD (Xf l s) []==s)=Ht;rw[if_pos h];refine⟨.inl,λh'=>h'.elim id λe=> ?_⟩;have e2:l.getD (Xf l s) []=s:=by simpa using h.2
 rw[e,<-e2,getD_lt h.1];exact J2 h.1;rw[if_neg h];simp only[Jz,Ji];constructor;rintro ((h1|h1)|h1);exact .inl (List.mem_of_mem_take h1);exact .inr h1;exact .inl (List.mem_of_mem_drop h1);rintro (h1|h1);rw[<-Kb (Xf l s) l,Jz]at h1;exact h1.imp .inl id;exact .inl (.inr h1)
theorem ZnO {l:List Str} (hl:ZaE l) (s:Str):ZaE (Uy l s):=by
 unfold Uy;by_cases h:Xf l s<l.length/\(l.getD (Xf l s) []==s)=Ht;rw[if_pos h];exact hl;rw[if_neg h];have hsp:=Kb (Xf l s) l;have ht:∀x∈l.take (Xf l s),ZH x s=true:=λx hx=>by
  obtain⟨i,hi,rfl⟩:=JD hx;have hi':i<Xf l s:=by have:=hi;rw[JC]at this;omega
  have:=Zev l s i hi';rw[getD_lt (by have:=Zh3 l s;omega)]at this;rw[K0];exact this
 have hd:∀x∈l.drop (Xf l s),ZH s x=true:=λx hx=>by
  have hlt:Xf l s<l.length:=by
   rcases Qf (Xf l s) l.length with h1|h1;exact h1;rw[List.drop_eq_nil_of_le h1]at hx;cases hx
  have h0:ZH s (l.getD (Xf l s) [])=true:=by
   rcases Sz (l.getD (Xf l s) []) s with k|k|k;rw[Df l s hlt]at k;cases k;exact absurd ⟨hlt,by simpa using k⟩ h;exact k
  have hp:ZaE (l.drop (Xf l s)):=J6.sublist (List.drop_sublist _ _) hl;rw[ZkH hlt]at hx hp;rcases Jt.1 hx with rfl|hx;exact h0;exact Vj h0 ((Jy.1 hp).1 x hx)
 unfold ZaE at hl ⊢;rw[<-hsp,KL]at hl;rw[Jv,KL];refine⟨hl.1,?_,λx hx y hy=> ?_⟩;rw[KF,Jy];exact⟨hd,hl.2.1⟩;rcases Jz.1 hy with h1|h1;rw[Ji.1 h1];exact ht x hx;exact hl.2.2 x hx y h1
theorem Zh7:∀ {a b:List Str},ZaE a->ZaE b->(∀x,x∈a↔x∈b)->a=b
 | [],[],_,_,_=>rfl
 | [],y::b,_,_,h=>by have:=(h y).2 (by simp);cases this
 |x::a,[],_,_,h=>by have:=(h x).1 (by simp);cases this
 |x::a,y::b,ha,hb,h=>by
  have pa:=Jy.1 ha;have pb:=Jy.1 hb;have hxy:x=y:=by
   rcases Jt.1 ((h x).1 (by simp))with e|e;exact e;rcases Jt.1 ((h y).2 (by simp))with e'|e';exact e'.symm;have h1:=pb.1 x e;have h2:=pa.1 y e';have:=Vj h1 h2;rw[X0]at this;cases this
  subst hxy;congr 1;refine Zh7 pa.2 pb.2 λz=> ?_
  have:=h z;simp only[Jt]at this;constructor;intro hz;rcases this.1 (.inr hz)with rfl|h';have:=pa.1 z hz;rw[X0]at this;cases this;exact h';intro hz;rcases this.2 (.inr hz)with rfl|h';have:=pb.1 z hz;rw[X0]at this;cases this;exact h'
def UX (P Q:List Rw):List Str:=(Q.map Rw.item).foldl Uy ((P.map Rw.item).foldl Uy [])
theorem DX (xs:List Str):∀(l:List Str),ZaE l->ZaE (xs.foldl Uy l):=by
 induction xs with
 |nil=>exact λl h=>h
 |cons x xs ih=>exact λl h=>ih _ (ZnO h x)
theorem Za2 (xs:List Str):∀(l:List Str) (y:Str),y∈xs.foldl Uy l↔y∈l\/y∈xs:=by
 induction xs with
 |nil=>intro l y;simp
 |cons x xs ih=>
  intro l y;rw[JW,ih,Zqo,Jt,or_assoc]
theorem Y5 (P Q:List Rw):ZaE (UX P Q):=DX _ _ (DX _ _ J6.nil)
theorem Xb (P Q:List Rw) (y:Str):y∈UX P Q↔y∈P.map Rw.item\/y∈Q.map Rw.item:=by
 unfold UX;rw[Za2,Za2];simp
def XE (P Q:List Rw) (it:Str):List Cg:=
 match Q.find? (λr=>r.item==it)with
 |none=> [Fq ⟨it,((P.find? λr=>r.item==it).getD Jd).l⟩]
 |some q=>match P.find? (λr=>r.item==it)with
  |none=> [DP ⟨it,q.l⟩]
  |some p=>Z2 it p.l q.l
def Zo8 (l:List Rw):Prop:=l.Pairwise λx y=>ZH x.item y.item=Ht
theorem FB {l:List Rw} {s:Str} (h:∀r∈l,ZH s r.item=Ht):l.find? (λr=>r.item==s)=none:=by
 rw[JO];intro r hr e;have e:r.item=s:=by simpa using e
 have:=h r hr;rw[e,X0]at this;cases this
theorem Wp {p:Rw} {ps:List Rw} {s:Str} (h:ZH p.item s=Ht):(p::ps).find? (λr=>r.item==s)=ps.find? (λr=>r.item==s):=by
 rw[List.find?_cons_of_neg];intro e;have e:p.item=s:=by simpa using e
 rw[e,X0]at h;cases h
theorem UY {x:Str} {a b:List Str} (h1:ZaE a) (h2:ZaE b) (hx:∀y∈b,ZH x y=Ht) (hm:∀y,y∈a↔y=x\/y∈b):a=x::b:=
 Zh7 h1 (Jy.2 ⟨hx,h2⟩) λy=>by rw[hm,Jt]
theorem GV {α β:Type} {l:List α} {f g:α->List β} (h:∀x∈l,f x=g x):l.flatMap f=l.flatMap g:=by
 induction l with
 |nil=>rfl
 |cons x l ih=>rw[JH,JH,h x (by simp),ih λy hy=>h y (by simp[hy])]
theorem W5:∀(n:Nat) (P Q:List Rw),P.length+Q.length<=n->Zo8 P->Zo8 Q->Y9 P Q=(UX P Q).flatMap (XE P Q)
 |_,[],[],_,_,_=>by rw[Y9];rfl
 |0,p::ps,Q,h,_,_=>by simp at h
 |0,[],q::qs,h,_,_=>by simp at h
 |n+1,p::ps,[],h,hP,hQ=>by
  have pp:=Jy.1 hP;have hlt:∀y∈UX ps [],ZH p.item y=true:=λy hy=>by
   rw[Xb]at hy;rcases hy with hy|hy;obtain⟨r,hr,rfl⟩:=Jo.1 hy;exact pp.1 r hr;simp at hy
  have e:=UY (Y5 (p::ps) []) (Y5 ps []) hlt λy=>by simp[Xb]
  rw[Y9,e,JH,W5 n ps [] (by simp at h ⊢;omega) pp.2 hQ];have e1:XE (p::ps) [] p.item= [Fq p]:=by simp[XE,Fq]
  rw[e1];congr 1;refine GV λy hy=> ?_
  unfold XE;rw[Wp (hlt y hy)]
 |n+1,[],q::qs,h,hP,hQ=>by
  have pq:=Jy.1 hQ;have hlt:∀y∈UX [] qs,ZH q.item y=true:=λy hy=>by
   rw[Xb]at hy;rcases hy with hy|hy;simp at hy;obtain⟨r,hr,rfl⟩:=Jo.1 hy;exact pq.1 r hr
  have e:=UY (Y5 [] (q::qs)) (Y5 [] qs) hlt λy=>by simp[Xb]
  rw[Y9,e,JH,W5 n [] qs (by simp at h ⊢;omega) hP pq.2];have e1:XE [] (q::qs) q.item= [DP q]:=by simp[XE,DP]
  rw[e1];congr 1;refine GV λy hy=> ?_
  unfold XE;rw[Wp (hlt y hy)]
 |n+1,p::ps,q::qs,h,hP,hQ=>by
  have pp:=Jy.1 hP;have pq:=Jy.1 hQ;by_cases h1:ZH p.item q.item=Ht;have hlt:∀y∈UX ps (q::qs),ZH p.item y=true:=λy hy=>by
   rw[Xb]at hy;rcases hy with hy|hy;obtain⟨r,hr,rfl⟩:=Jo.1 hy;exact pp.1 r hr;obtain⟨r,hr,rfl⟩:=Jo.1 hy;rcases Jt.1 hr with rfl|hr;exact h1;exact Vj h1 (pq.1 r hr)
  have e:=UY (Y5 (p::ps) (q::qs)) (Y5 ps (q::qs)) hlt λy=>by simp[Xb,or_assoc]
  rw[Y9,if_pos h1,e,JH,W5 n ps (q::qs) (by simp at h ⊢;omega) pp.2 hQ];have hn:(q::qs).find? (λr=>r.item==p.item)=none:=FB λr hr=>by
   rcases Jt.1 hr with rfl|hr;exact h1;exact Vj h1 (pq.1 r hr)
  have e1:XE (p::ps) (q::qs) p.item= [Fq p]:=by unfold XE;rw[hn];simp[Fq]
  rw[e1];congr 1;refine GV λy hy=> ?_
  unfold XE;rw[Wp (hlt y hy)];by_cases h2:ZH q.item p.item=Ht;have hlt:∀y∈UX (p::ps) qs,ZH q.item y=true:=λy hy=>by
   rw[Xb]at hy;rcases hy with hy|hy;obtain⟨r,hr,rfl⟩:=Jo.1 hy;rcases Jt.1 hr with rfl|hr;exact h2;exact Vj h2 (pp.1 r hr);obtain⟨r,hr,rfl⟩:=Jo.1 hy;exact pq.1 r hr
  have e:=UY (Y5 (p::ps) (q::qs)) (Y5 (p::ps) qs) hlt λy=>by
   simp only[Xb,Jr,Jt];constructor;rintro ((a|a)|(a|a));exact .inr (.inl (.inl a));exact .inr (.inl (.inr a));exact .inl a;exact .inr (.inr a);rintro (a|(a|a)|a);exact .inr (.inl a);exact .inl (.inl a);exact .inl (.inr a);exact .inr (.inr a)
  rw[Y9,if_neg h1,if_pos h2,e,JH,W5 n (p::ps) qs (by simp at h ⊢;omega) hP pq.2];have hn:(p::ps).find? (λr=>r.item==q.item)=none:=FB λr hr=>by
   rcases Jt.1 hr with rfl|hr;exact h2;exact Vj h2 (pp.1 r hr)
  have e1:XE (p::ps) (q::qs) q.item= [DP q]:=by unfold XE;rw[hn];simp[DP]
  rw[e1];congr 1;refine GV λy hy=> ?_
  unfold XE;rw[Wp (hlt y hy)];have heq:p.item=q.item:=by
   rcases Sz p.item q.item with k|k|k;exact absurd k h1;exact k;exact absurd k h2
  have hlt:∀y∈UX ps qs,ZH q.item y=true:=λy hy=>by
   rw[Xb]at hy;rcases hy with hy|hy;obtain⟨r,hr,rfl⟩:=Jo.1 hy;rw[<-heq];exact pp.1 r hr;obtain⟨r,hr,rfl⟩:=Jo.1 hy;exact pq.1 r hr
  have e:=UY (Y5 (p::ps) (q::qs)) (Y5 ps qs) hlt λy=>by
   simp only[Xb,Jr,Jt,heq];constructor;rintro ((a|a)|(a|a));exact .inl a;exact .inr (.inl a);exact .inl a;exact .inr (.inr a);rintro (a|a|a);exact .inl (.inl a);exact .inl (.inr a);exact .inr (.inr a)
  rw[Y9,if_neg h1,if_neg h2,e,JH,W5 n ps qs (by simp at h ⊢;omega) pp.2 pq.2];have e1:XE (p::ps) (q::qs) q.item=Z2 q.item p.l q.l:=by simp[XE,heq]
  rw[e1];congr 1;refine GV λy hy=> ?_
  unfold XE;rw[Wp (hlt y hy),Wp (by rw[heq];exact hlt y hy)]
theorem Dj {l:List Fd} {d:Dc} (h:YB l d=Ht):Zo8 d.rows:=by
 simp only[YB,Jj,J3,JN]at h;have hs:∀i,0<i->i<d.rows.length->ZH (d.rows.getD (i-1) Jd).item (d.rows.getD i Jd).item=true:=λi h0 hi=>by
  have:=h.2 i hi;simp only[XT,Jj,K6,decide_eq_true_eq]at this;rcases this.1.2 with e|e;omega;exact e
 unfold Zo8;rw[JQ];intro i j hi hj hij;rw[<-getD_lt (d:=Jd) hi,<-getD_lt (d:=Jd) hj];induction j with
 |zero=>omega
 |succ j ih=>
  have h1:=hs (j+1) (by omega) hj;simp only[Nat.add_sub_cancel]at h1;by_cases e:i=j;subst e;exact h1;exact Vj (ih (by omega) (by omega)) h1
open Go.PL
theorem GR (l:List Str) (k:Nat):cut (l.map JY) 0 (k:Int)=(l.take k).map JY:=by simp[cut,Ku]
theorem GQ (l:List Str) (k:Nat):cut (l.map JY) (k:Int) (l.length:Int)=(l.drop k).map JY:=by
 unfold cut;rw[Ka,Ka,<-Qd,<-Ku];congr 1;rw[Jk (by rw[JK];omega)]
theorem Zcy (l:List Str) (s:Str) (hl:l.length<=100000):Pp 86 [Yo l,.str s] (Yo (Uy l s)):=by
 have hp:=Zh3 l s;have hpI:((Xf l s:Nat):Int)<=(l.length:Int):=by omega
 have hlp:(l.take (Xf l s)).length=Xf l s:=by rw[JC];omega
 have hld:(l.drop (Xf l s)).length=l.length-Xf l s:=by rw[JK]
 have hrm1:=Ya (show Xf l s<=1000000 by omega) (show 16<=1000 by omega);have hrm2:=Ya (show Xf l s+1<=1000000 by omega) (show 16<=1000 by omega);have hrm3:=Ya (show Xf l s+1+(l.length-Xf l s)<=1000000 by omega) (show 16<=1000 by omega);have hs1:∀(a:List Str),Sized 1 (a.map JY++ [JY s]):=λa=>by have:=ZZ (a++ [s]);rwa[Je]at this
 have p0:(0:Int)<=((Xf l s:Nat):Int):=by omega
 have hX:(l.take (Xf l s)++ [s]++l.drop (Xf l s)).map JY=(l.take (Xf l s)).map JY++ [.str s]++(l.drop (Xf l s)).map JY:=by
  simp only[Je,Jr,J9]
 refine Zx func86 rfl ntmps86 results86 (Uj _) ?_;simp only[go_sem,Yo];refine Zs (ι:= { j:Nat // j<=Xf l s }) 48 (λx=> [(0,Yo l),(1,.str s),(5,.int .i64 (x.1:Int))]) (λx=> []) (λx=> []) (λx=>Xf l s-x.1) ⟨0,Jn _⟩ ⟨rfl,(Fc3 rfl rfl rfl),fnl,fnl⟩ (λx=>⟨(Fc3 rfl rfl rfl),fnl⟩) (λx=> ?_);obtain⟨j,hj⟩:=x;simp only;by_cases hjl:(j:Int)<(l.length:Int);have hja:j<l.length:=by omega
 have j0:=Jg j
 by_cases hjp:j<Xf l s;have ht:=Zev l s j hjp;have w2:=wk9 (k:=j) (by omega)
 simp only[go_sem,Yo,hjl,ZQ hja,j0,ht,w2];exact⟨⟨j+1,by omega⟩,by show Xf l s-(j+1)<Xf l s-j;omega,⟨rfl,(Fc3 rfl rfl rfl),fnl,fnl⟩⟩;obtain rfl:j=Xf l s:=by omega
 have ht:=Df l s hja;cases he:(l.getD (Xf l s) []==s);have hz:Uy l s=l.take (Xf l s)++ [s]++l.drop (Xf l s):=by unfold Uy;rw[if_neg (by rw[he];simp)]
 rw[hz];simp only[go_sem,Yo,hjl,ZQ hja,j0,ht,he,p0,hpI,GR,GQ,ZZ,hs1,Yz,hrm1,hrm2,hrm3,hlp,hld,Ja,hX];exact JU _;have hz:Uy l s=l:=by unfold Uy;rw[if_pos ⟨hja,he⟩]
 rw[hz];simp only[go_sem,Yo,hjl,ZQ hja,j0,ht,he];obtain rfl:j=Xf l s:=by omega
 have hz:Uy l s=l.take (Xf l s)++ [s]++l.drop (Xf l s):=by unfold Uy;rw[if_neg (λh=>hjl (by omega))]
 rw[hz];simp only[go_sem,Yo,hjl,p0,hpI,GR,GQ,ZZ,hs1,Yz,hrm1,hrm2,hrm3,hlp,hld,Ja,hX];exact JU _
theorem Zb1 (it:Str) (a b:List En) (hl:a.length<=100000) (hlb:a.length<=b.length) (ha':∀e∈a,e.l.length<=1000000) (hb':∀e∈b,e.l.length<=1000000):Pp 85 [.str it,Yd a,Yd b] (Tk (Z2 it a b)):=by
 have hol:a.length<=maxLen:=by rw[Zb];omega
 have hK:Z2 it a b=Yh it a b a.length:=rfl;have one:(1:Nat)<=maxLen:=by rw[Zb];omega
 rw[hK];refine Zx func85 rfl ntmps85 results85 (ZaO _) ?_;simp only[go_sem,Yd];refine ZL 7 9 40 0 13 67 [] rfl rfl rfl ?_;refine Zs (ι:= { x:Nat // x<=(a).length }) 42 (λx=> [(0,.str it),(1,Yd a),(2,Yd b),(7,.sl (.row 40) ((Yh it a b x.1).map chg)),(8,.int .i64 (x.1:Int))]) (λx=> []) (λx=> [(40,.live ((Yh it a b x.1).length) (13) (67))]) (λx=>(a).length-x.1) ⟨0,Jn _⟩ ⟨rfl,(Fc5 rfl rfl rfl rfl rfl),fnl,(fcs rfl fnl)⟩ (λx=>⟨(Fc5 rfl rfl rfl (by simp[Ju,ZX]) rfl),fnl⟩) (λx=> ?_);obtain⟨k,hk⟩:=x;simp only at hk ⊢;by_cases h:(k:Int)<(a.length:Int)
 (have hka:k<(a).length:=by omega);(have w1:=Xi hka (hol));(have i1:=Jg k)
 have hkb:k<b.length:=by omega
 have h':(k:Int)<(b.length:Int):=by omega
 have hsn:=Ux it a b k;have hkl:=Ud it a b k;have h1:=Vl (a.getD k Jd);have h2:=Vl (b.getD k Jd);have hE:=Xw [a.getD k Jd] [b.getD k Jd] one one (λe he=>by rw[Ji.1 he,Zb];have:=ha' _ (Zp (d:=Jd) hka);omega) (λe he=>by rw[Ji.1 he,Zb];have:=hb' _ (Zp (d:=Jd) hkb);omega);simp only[Qp.injEq,and_true]at hE;have hml:((Yh it a b k).map chg).length=(Yh it a b k).length:=Jb _;have hsz:=Wb (Yh it a b k);have hrm:=Ya (show(Yh it a b k).length+1<=1000000 by omega) (show 192<=1000 by omega);by_cases he:a.getD k Jd=b.getD k Jd;rw[decide_eq_true he]at hE;rw[if_pos he,Jl]at hsn;simp only[go_sem,Yd,h,Zn hka,Zn hkb,ent,i1,h'];refine vDq ?_;simp only[go_sem,Yd,h,Zn hka,Zn hkb,ent,i1,h'];refine vc1 h1 ?_;simp only[go_sem,Yd,h,Zn hka,Zn hkb,ent,i1,h'];refine vc1 h2 ?_;simp only[go_sem];refine vc1 hE ?_;simp only[go_sem,w1];exact⟨⟨k+1,by omega⟩,nx9 (by omega),⟨rfl,by simp only;rw[hsn];exact(Fc5 rfl rfl rfl rfl rfl),fnl,by simp only;rw[hsn];exact fcs rfl fnl⟩⟩;rw[decide_eq_false he]at hE;rw[if_neg he]at hsn;simp only[go_sem,Yd,h,Zn hka,Zn hkb,ent,i1,h'];refine vDq ?_;simp only[go_sem,Yd,h,Zn hka,Zn hkb,ent,i1,h'];refine vc1 h1 ?_;simp only[go_sem,Yd,h,Zn hka,Zn hkb,ent,i1,h'];refine vc1 h2 ?_;simp only[go_sem];refine vc1 hE ?_;simp only[go_sem];refine vDq ?_;simp only[go_sem,Yd,h,Zn hka,Zn hkb,ent,i1,h',hml,hsz,hrm,ZZ,Yz,w1];exact⟨⟨k+1,by omega⟩,nx9 (by omega),⟨rfl,by simp only;rw[hsn,Je];exact(Fc5 rfl rfl rfl rfl rfl),fnl,by simp only;rw[hsn,Ja];exact fcs rfl fnl⟩⟩;obtain rfl:k=a.length:=by omega
 simp only[go_sem,Tk,Yd,h]
open Go.PL Go.PL.Srt
theorem ZhO {xs:List Str} {s:Str} (h:s∈xs):s∈Lib.compact xs:=by
 have key:∀j,j<xs.length->xs.getD j []∈Lib.compact xs:=by
  intro j;induction j with
  |zero=>
   intro hj;unfold Lib.compact Lib.compactUpTo;refine Jo.2 ⟨0,Jp.2 ⟨JN.2 hj,by simp[Lib.keeps]⟩,?_⟩;rw[getElem!_pos xs.toArray 0 (by simpa using hj),getD_lt hj];simp
  |succ j ih=>
   intro hj;by_cases he:xs.getD (j+1) []=xs.getD j [];rw[he];exact ih (by omega);unfold Lib.compact Lib.compactUpTo;refine Jo.2 ⟨j+1,Jp.2 ⟨JN.2 hj,?_⟩,?_⟩;rw[getD_lt hj,getD_lt (show j<xs.length by omega)]at he;unfold Lib.keeps;simp only[decide_eq_true_eq];rw[getElem!_pos xs.toArray (j+1) (by simpa using hj),getElem!_pos xs.toArray (j+1-1) (by simp;omega)];exact .inr (by simpa using he);rw[getElem!_pos xs.toArray (j+1) (by simpa using hj),getD_lt hj];simp
 obtain⟨j,hj,rfl⟩:=JD h;have:=key j hj;rwa[getD_lt hj]at this
def Uu (l:List Opn) (c:Str):List Str:=(Xm l c).foldl Uy []
theorem Zm7 (l:List Opn) (c:Str):Uu l c=Xc l c:=by
 refine Zh7 (DX _ _ J6.nil) (ZfT l c) λx=> ?_
 unfold Uu Xc;rw[Za2];constructor;rintro (h|h);cases h;exact ZhO (by unfold TN;rw[Ko];exact h);intro h;have h1:=ZaP h;unfold TN at h1;rw[Ko]at h1;exact .inr h1
theorem Zqn (l:List Str) (s:Str):(Uy l s).length<=l.length+1:=by
 unfold Uy;split;omega;simp;omega
theorem Zbd {l:List Opn} {k:Nat} (c:Str) (h:k<l.length):Uu (l.take (k+1)) c=if((l.getD k Jd).kind==1&&(l.getD k Jd).cart==c)=Ht then Uy (Uu (l.take k) c) (l.getD k Jd).item else Uu (l.take k) c:=by
 unfold Uu;rw[Zbl c h,Ks];split;rfl;rfl
theorem Zc5 (l:List Opn) (c:Str):∀k,k<=l.length->(Uu (l.take k) c).length<=k
 |0,_=>by simp[Uu,Xm]
 |k+1,h=>by
  have ih:=Zc5 l c k (by omega);rw[Zbd c (by omega)];split;have:=Zqn (Uu (l.take k) c) (l.getD k Jd).item;omega;omega
theorem ZnJ {x:Ln} {o p:Opn} (h:XS x o=(p,Ht)):p.cart=o.cart:=by
 have key:∀q:Opn×Bool,q=XS x o->q.2=Ht->q.1.cart=o.cart:=by
  intro q hq hq2;subst hq;revert hq2;unfold XS Zj;repeat' split
  all_goals first|(intro _;rfl)|(intro h;exact absurd h (by simp))
 exact key (p,Ht) h.symm rfl
theorem ZcE:∀(xs:List Ln) {o:Opn},(Xl xs o).2=Ht->(Xl xs o).1.cart=o.cart
 | [],o,_=>rfl
 |x::xs,o,h=>by
  rw[Th]at h ⊢;cases h1:(XS x o).2;rw[if_pos h1]at h;cases h;rw[if_neg (by rw[h1];simp)]at h;rw[if_neg (by simp)];rw[ZcE xs h,ZnJ (Km rfl h1)]
def Vy (c it:Str) (r:Rf) (o:Opn):Bool:=(o.cart==c)&&((o.item==it)&&decide (o.at'=r))
theorem Zer {c it:Str} {r:Rf} {o:Opn}:Vy c it r o=((o.cart==c)&&decide (spO o=⟨it,r⟩)):=by
 unfold Vy;congr 1;rw[KB];simp[spO]
theorem ZnL {m:List Eg} {b:Tg} (hb:upC m b=0) (c it:Str) (r:Rf):∀ {A:List Opn},(∀o∈A,X9 m o=Ht)->(YK m A b).filter (Vy c it r)=ZA (YK m (Yq A c) b) ⟨it,r⟩:=λ{A} hA=>by
 have e2:YK m (Yq A c) b=(Yq A c).filterMap (Zo2 m b):=Si hb (λo ho=>hA o (Jp.1 ho).1);rw[Si hb hA,e2];clear hA e2;unfold ZA;induction A with
 |nil=>rfl
 |cons o A ih=>
  unfold Yq at ih ⊢;have hs:∀p,Zo2 m b o=Hs p->p.cart=o.cart:=λp hp=>by
   unfold Zo2 at hp;split at hp;rename_i ha;simp only[KK.injEq]at hp;rw[<-hp];exact ZcE _ ha;cases hp
  cases h1:Zo2 m b o with
  |none=>
   rw[JR h1];cases hc:o.cart==c;rw[Jc (by rw[hc];simp)];exact ih;rw[Jf (p:=λo:Opn=>o.cart==c) hc,JR h1];exact ih
  |some p=>
   have hpc:=hs p h1;rw[JG h1];cases hc:o.cart==c;rw[Jc (p:=λo:Opn=>o.cart==c) (by rw[hc];simp),Jc (by rw[Zer,hpc,hc];simp)];exact ih;rw[Jf (p:=λo:Opn=>o.cart==c) hc,JG h1];by_cases hp:spO p=⟨it,r⟩;rw[Jf (by rw[Zer,hpc,hc];simpa using hp),Jf (p:=λo=>decide (spO o=⟨it,r⟩)) (by simpa using hp),ih];rw[Jc (by rw[Zer,hpc,hc];simpa using hp),Jc (p:=λo=>decide (spO o=⟨it,r⟩)) (by simpa using hp),ih]
open Go.PL Go.PL.Srt
theorem Zg9 (l:List Str) (s:Str) (hl:l.length<=100000):Pp 98 [Yo l,.str s] (Yo (Uy l s)):=by
 have hp:=Zh3 l s;have hpI:((Xf l s:Nat):Int)<=(l.length:Int):=by omega
 have hlp:(l.take (Xf l s)).length=Xf l s:=by rw[JC];omega
 have hld:(l.drop (Xf l s)).length=l.length-Xf l s:=by rw[JK]
 have hrm1:=Ya (show Xf l s<=1000000 by omega) (show 16<=1000 by omega);have hrm2:=Ya (show Xf l s+1<=1000000 by omega) (show 16<=1000 by omega);have hrm3:=Ya (show Xf l s+1+(l.length-Xf l s)<=1000000 by omega) (show 16<=1000 by omega);have hs1:∀(a:List Str),Sized 1 (a.map JY++ [JY s]):=λa=>by have:=ZZ (a++ [s]);rwa[Je]at this
 have p0:(0:Int)<=((Xf l s:Nat):Int):=by omega
 have hX:(l.take (Xf l s)++ [s]++l.drop (Xf l s)).map JY=(l.take (Xf l s)).map JY++ [.str s]++(l.drop (Xf l s)).map JY:=by
  simp only[Je,Jr,J9]
 refine Zx func98 rfl ntmps98 results98 (Uj _) ?_;simp only[go_sem,Yo];refine Zs (ι:= { j:Nat // j<=Xf l s }) 48 (λx=> [(0,Yo l),(1,.str s),(5,.int .i64 (x.1:Int))]) (λx=> []) (λx=> []) (λx=>Xf l s-x.1) ⟨0,Jn _⟩ ⟨rfl,(Fc3 rfl rfl rfl),fnl,fnl⟩ (λx=>⟨(Fc3 rfl rfl rfl),fnl⟩) (λx=> ?_);obtain⟨j,hj⟩:=x;simp only;by_cases hjl:(j:Int)<(l.length:Int);have hja:j<l.length:=by omega
 have j0:=Jg j
 by_cases hjp:j<Xf l s;have ht:=Zev l s j hjp;have w2:=wk9 (k:=j) (by omega)
 simp only[go_sem,Yo,hjl,ZQ hja,j0,ht,w2];exact⟨⟨j+1,by omega⟩,by show Xf l s-(j+1)<Xf l s-j;omega,⟨rfl,(Fc3 rfl rfl rfl),fnl,fnl⟩⟩;obtain rfl:j=Xf l s:=by omega
 have ht:=Df l s hja;cases he:(l.getD (Xf l s) []==s);have hz:Uy l s=l.take (Xf l s)++ [s]++l.drop (Xf l s):=by unfold Uy;rw[if_neg (by rw[he];simp)]
 rw[hz];simp only[go_sem,Yo,hjl,ZQ hja,j0,ht,he,p0,hpI,GR,GQ,ZZ,hs1,Yz,hrm1,hrm2,hrm3,hlp,hld,Ja,hX];exact JU _;have hz:Uy l s=l:=by unfold Uy;rw[if_pos ⟨hja,he⟩]
 rw[hz];simp only[go_sem,Yo,hjl,ZQ hja,j0,ht,he];obtain rfl:j=Xf l s:=by omega
 have hz:Uy l s=l.take (Xf l s)++ [s]++l.drop (Xf l s):=by unfold Uy;rw[if_neg (λh=>hjl (by omega))]
 rw[hz];simp only[go_sem,Yo,hjl,p0,hpI,GR,GQ,ZZ,hs1,Yz,hrm1,hrm2,hrm3,hlp,hld,Ja,hX];exact JU _
theorem ZdO (l:List Opn) (c:Str) (hl:l.length<=100000):Pp 50 [Zu l,.str c] (Yo (Uu l c)):=by
 have hlm:l.length<=maxLen:=by rw[Zb];omega
 refine Zx func50 rfl ntmps50 results50 (Uj _) ?_;simp only[go_sem,Zu];refine ZgL (ι:= { k:Nat // k<=l.length }) 37 (λx=> [(0,Zu l),(1,.str c),(5,Yo (Uu (l.take x.1) c)),(6,.int .i64 (x.1:Int))]) (λx=> []) (λx=> []) (λx=>l.length-x.1) ⟨0,Jn _⟩
  ⟨rfl,Fc4 (.same rfl) (.same rfl) (.row 7 []) (.same rfl),fnl,fnl⟩ (λx=>⟨(Fc4 rfl rfl rfl rfl),fnl⟩) (λx=> ?_)
 obtain⟨k,hk⟩:=x;simp only;by_cases h:(k:Int)<(l.length:Int);have hka:k<l.length:=by omega
 have i1:=Jg k
 have w1:=Xi hka hlm;have hsn:=Zbd c hka;have hP:=Zg9 (Uu (l.take k) c) (l.getD k Jd).item (Js (Zc5 l c k hk) (by omega));generalize Uu (l.take k) c=out at *;generalize hs2:Uu (l.take (k+1)) c=out2 at *;generalize hx:l.getD k Jd=x at *;cases k1:(x.kind==1);rw[k1,Kj,if_neg (by simp)]at hsn;simp only[go_sem,Zu,h,Zw hka,hx,opv,i1,k1,w1];refine⟨⟨k+1,by omega⟩,nx9 (by omega),?_⟩;simp only[hs2,hsn];exact⟨rfl,Fc4 (.same rfl) (.same rfl) (.same rfl) (.same rfl),fnl,fnl⟩;cases k2:(x.cart==c);rw[k1,k2,Kk,if_neg (by simp)]at hsn;simp only[go_sem,Zu,h,Zw hka,hx,opv,i1,k1,k2,w1];refine⟨⟨k+1,by omega⟩,nx9 (by omega),?_⟩;simp only[hs2,hsn];exact⟨rfl,Fc4 (.same rfl) (.same rfl) (.same rfl) (.same rfl),fnl,fnl⟩;rw[k1,k2,Kf,if_pos rfl]at hsn;simp only[go_sem,Zu,h,Zw hka,hx,opv,i1,k1,k2,Yo];refine vc1 hP ?_;simp only[go_sem,w1];refine⟨⟨k+1,by omega⟩,nx9 (by omega),?_⟩;simp only[hs2,hsn];exact⟨rfl,Fc4 (.same rfl) (.same rfl) (.same rfl) (.same rfl),fnl,fnl⟩;obtain rfl:k=l.length:=by omega
 simp only[go_sem,Zu,h,JJ,Yo]
open Go.PL
theorem ZdK (it:Str) (a b:List En) (hl:a.length<=100000) (hlb:a.length<=b.length) (ha':∀e∈a,e.l.length<=1000000) (hb':∀e∈b,e.l.length<=1000000):Eff prog 85 [.str it,Yd a,Yd b] noV (.sl (.row 40) ((Z2 it a b).map chg)) (Zlb 40 (Z2 it a b).length 13 67):=by
 have hol:a.length<=maxLen:=by rw[Zb];omega
 have hK:Z2 it a b=Yh it a b a.length:=rfl;have one:(1:Nat)<=maxLen:=by rw[Zb];omega
 rw[hK];refine Eff.rn [] func85 (by decide) rfl ntmps85 results85 (by simp) (by simp[Ju,Yd]) (by simp[Ju]) ?_;simp only[go_sem,Yd];refine ZL 7 9 40 0 13 67 [] rfl rfl rfl ?_;refine Zs (ι:= { x:Nat // x<=(a).length }) 42 (λx=> [(0,.str it),(1,Yd a),(2,Yd b),(7,.sl (.row 40) ((Yh it a b x.1).map chg)),(8,.int .i64 (x.1:Int))]) (λx=> []) (λx=> [(40,.live ((Yh it a b x.1).length) (13) (67))]) (λx=>(a).length-x.1) ⟨0,Jn _⟩ ⟨rfl,(Fc5 rfl rfl rfl rfl rfl),fnl,(fcs rfl fnl)⟩ (λx=>⟨(Fc5 rfl rfl rfl (by simp[Ju,ZX]) rfl),fnl⟩) (λx=> ?_);obtain⟨k,hk⟩:=x;simp only at hk ⊢;by_cases h:(k:Int)<(a.length:Int)
 (have hka:k<(a).length:=by omega);(have w1:=Xi hka (hol));(have i1:=Jg k)
 have hkb:k<b.length:=by omega
 have h':(k:Int)<(b.length:Int):=by omega
 have hsn:=Ux it a b k;have hkl:=Ud it a b k;have h1:=Vl (a.getD k Jd);have h2:=Vl (b.getD k Jd);have hE:=Xw [a.getD k Jd] [b.getD k Jd] one one (λe he=>by rw[Ji.1 he,Zb];have:=ha' _ (Zp (d:=Jd) hka);omega) (λe he=>by rw[Ji.1 he,Zb];have:=hb' _ (Zp (d:=Jd) hkb);omega);simp only[Qp.injEq,and_true]at hE;have hml:((Yh it a b k).map chg).length=(Yh it a b k).length:=Jb _;have hsz:=Wb (Yh it a b k);have hrm:=Ya (show(Yh it a b k).length+1<=1000000 by omega) (show 192<=1000 by omega);by_cases he:a.getD k Jd=b.getD k Jd;rw[decide_eq_true he]at hE;rw[if_pos he,Jl]at hsn;simp only[go_sem,Yd,h,Zn hka,Zn hkb,ent,i1,h'];refine vDq ?_;simp only[go_sem,Yd,h,Zn hka,Zn hkb,ent,i1,h'];refine vc1 h1 ?_;simp only[go_sem,Yd,h,Zn hka,Zn hkb,ent,i1,h'];refine vc1 h2 ?_;simp only[go_sem];refine vc1 hE ?_;simp only[go_sem,w1];exact⟨⟨k+1,by omega⟩,nx9 (by omega),⟨rfl,by simp only;rw[hsn];exact(Fc5 rfl rfl rfl rfl rfl),fnl,by simp only;rw[hsn];exact fcs rfl fnl⟩⟩;rw[decide_eq_false he]at hE;rw[if_neg he]at hsn;simp only[go_sem,Yd,h,Zn hka,Zn hkb,ent,i1,h'];refine vDq ?_;simp only[go_sem,Yd,h,Zn hka,Zn hkb,ent,i1,h'];refine vc1 h1 ?_;simp only[go_sem,Yd,h,Zn hka,Zn hkb,ent,i1,h'];refine vc1 h2 ?_;simp only[go_sem];refine vc1 hE ?_;simp only[go_sem];refine vDq ?_;simp only[go_sem,Yd,h,Zn hka,Zn hkb,ent,i1,h',hml,hsz,hrm,ZZ,Yz,w1];exact⟨⟨k+1,by omega⟩,nx9 (by omega),⟨rfl,by simp only;rw[hsn,Je];exact(Fc5 rfl rfl rfl rfl rfl),fnl,by simp only;rw[hsn,Ja];exact fcs rfl fnl⟩⟩;obtain rfl:k=a.length:=by omega
 simp only[go_sem,Tk,Yd,h];exact ZmF (r0:= .sl (.row 40) _) rfl (.keep _ (by intro i hi;simp[Ju]at hi;subst hi;exact⟨_,Ji.2 rfl,rfl⟩)) rfl
theorem Zi3 {α:Type} [Inhabited α] (p:α->Bool) (l:List α):(idx p l= -1/\l.find? p=none)\/ ∃i,i<l.length/\idx p l=(i:Int)/\l.find? p=Hs (l.getD i Jd):=by
 unfold idx;cases h:l.findIdx? p with
 |none=>
  refine .inl ⟨rfl,?_⟩;rw[J4]at h;rw[JO];intro x hx e;rw[h x hx]at e;cases e
 |some i=>
  obtain⟨hi,h1,h2⟩:=JP.1 h;refine .inr ⟨i,hi,rfl,?_⟩;rw[getD_lt hi,List.find?_eq_some_iff_getElem];exact⟨h1,i,hi,rfl,λj hj=>by have:=h2 j hj;simpa using this⟩
theorem ZkM (P Q:List Rw):(UX P Q).length<=P.length+Q.length:=by
 have one:∀(l:List Str) (s:Str),(Uy l s).length<=l.length+1:=λl s=>by
  unfold Uy;split;omega;simp only[Ja,JC,JK,Jh,Jq];omega
 have fold:∀(xs l:List Str),(xs.foldl Uy l).length<=l.length+xs.length:=λxs=>by
  induction xs with
  |nil=>intro l;simp
  |cons x xs ih=>intro l;rw[JW];have:=ih (Uy l x);have:=one l x;simp only[Jh];omega
 unfold UX;have h1:=fold (P.map Rw.item) [];have h2:=fold (Q.map Rw.item) ((P.map Rw.item).foldl Uy []);simp only[Jb,Jq]at h1 h2;omega
theorem ZcY {l:List Rw} {k:Nat} (l0:List Str) (h:k<l.length):((l.take (k+1)).map Rw.item).foldl Uy l0=Uy (((l.take k).map Rw.item).foldl Uy l0) (l.getD k Jd).item:=by
 rw[Z0 (d:=Jd) h,Je,Ks];rfl
theorem Za1 (xs:List Str):∀(l:List Str),(xs.foldl Uy l).length<=l.length+xs.length:=by
 induction xs with
 |nil=>intro l;simp
 |cons x xs ih=>
  intro l;rw[JW];have h1:=ih (Uy l x);have h2:(Uy l x).length<=l.length+1:=by
   unfold Uy;split;omega;simp only[Ja,JC,JK,Jh,Jq];omega
  simp only[Jh];omega
theorem ZmM {l:List Str} {k:Nat} (f:Str->List Cg) (h:k<l.length):(l.take (k+1)).flatMap f=(l.take k).flatMap f++f (l.getD k []):=by
 rw[Z0 (d:= []) h,List.flatMap_append];simp
structure DrX (n:Nat) (f:Str->List Cg) (its:List Str) (h0:List Cg) where
 k:Nat
 acc:List Cg
 id:Nat
 hk:k<=its.length
 hl:acc.length<=16+16*k
 h:acc=h0++(its.take k).flatMap f
 hid:id=29\/id=94\/id=110\/id=129
theorem Zj1 (l:List Fd) (a b:Dc) (hl:l.length<=maxLen) (hl':∀f∈l,f.cases'.length<=maxLen) (ha:OkDd a) (hb:OkDd b):
  Pp 37 [Zh l,doc a,doc b] (SU (WG l a b).1 (WG l a b).2):=by
 have hRa:=Fu l a hl hl' ha.fine;have hRb:=Fu l b hl hl' hb.fine;unfold WG;cases hra:YB l a;rw[hra]at hRa;rw[if_pos (.inl rfl)];refine Zx func37 rfl ntmps37 results37 (VN _ _) ?_;simp only[go_sem,Zh,doc];refine vc2 hRa ?_;simp only[go_sem,SU,Tk];cases hrb:YB l b;rw[hra]at hRa;rw[hrb]at hRb;rw[if_pos (.inr rfl)];refine Zx func37 rfl ntmps37 results37 (VN _ _) ?_;simp only[go_sem,Zh,doc];refine vc2 hRa ?_;simp only[go_sem];refine vc2 hRb ?_;simp only[go_sem,SU,Tk];rw[hra]at hRa;rw[hrb]at hRb;rw[if_neg (by simp),W5 _ _ _ (KG _) (Dj hra) (Dj hrb)];obtain⟨a1,a2,a3,a4,a5⟩:=VS hra;obtain⟨b1,b2,b3,_,_⟩:=VS hrb;have hE:=ZdK [] a.head b.head ha.h (by omega) ha.e hb.e;have hme:=Zb;have hMa:∀it,_:=λit=>DH a it (by omega)
 have hMb:∀it,_:=λit=>DH b it (by omega)
 have hil:=ZkM a.rows b.rows;have him:=Xb a.rows b.rows;refine Zx func37 rfl ntmps37 results37 (VN _ _) ?_;simp only[go_sem,Zh,doc];refine vc2 hRa ?_;simp only[go_sem];refine vc2 hRb ?_;simp only[go_sem];refine ZjF 29 hE (by simp[Ju,Yd]) rfl ?_ ?_;simp only[go_sem,Yd];simp only[go_sem];refine ZgL (ι:= { k:Nat // k<=a.rows.length }) 131 (λx=> [(4,.ptr 4 0),(5,.ptr 5 0),(8,.sl (.row 29) ((Z2 [] a.head b.head).map chg)),(9,Yo (((a.rows.take x.1).map Rw.item).foldl Uy [])),(10,.int .i64 (x.1:Int))]) (λx=> [(4,[.sl .no (a.head.map ent),.sl .no (a.rows.map row)],Hf),(5,[.sl .no (b.head.map ent),.sl .no (b.rows.map row)],Hf)]) (λx=> [(29,.live (Z2 [] a.head b.head).length 13 67)]) (λx=>a.rows.length-x.1) ⟨0,Jn _⟩
  ⟨rfl,Fc5 (.same rfl) (.same rfl) (.same rfl) (.row 30 []) (.same rfl),Fc2 ⟨rfl,rfl⟩ ⟨rfl,rfl⟩,fcs rfl fnl⟩ (λx=>⟨Fc5 rfl rfl (by simp[Ju,ZX]) rfl rfl,Fc2 rfl rfl⟩) (λx=> ?_)
 obtain⟨k,hk⟩:=x;simp only;by_cases h:(k:Int)<(a.rows.length:Int);have hka:k<a.rows.length:=by omega
 have i1:=Jg k
 have w1:=wk9 (k:=k) (by omega)
 have hfl:=Za1 ((a.rows.take k).map Rw.item) [];simp only[Jb,Jq,JC]at hfl;have hP:=Zcy (((a.rows.take k).map Rw.item).foldl Uy []) (a.rows.getD k Jd).item (by omega);rw[<-ZcY [] hka]at hP;simp only[go_sem,h,V5 hka,row,i1];refine vc1 hP ?_;simp only[go_sem,w1];exact⟨⟨k+1,by omega⟩,nx9 (by omega),⟨rfl,Fc5 (.same rfl) (.same rfl) (.same rfl) (.same rfl) (.same rfl),Fc2 ⟨rfl,rfl⟩ ⟨rfl,rfl⟩,fcs rfl fnl⟩⟩;have htk:a.rows.take k=a.rows:=Jk (by omega);simp only[go_sem,h,htk];generalize hI0:(a.rows.map Rw.item).foldl Uy []=I0;have hI0l:I0.length<=400:=by have:=Za1 (a.rows.map Rw.item) [];rw[hI0]at this;simp only[Jb,Jq]at this;omega
 refine Zs (ι:= { k:Nat // k<=b.rows.length }) 131 (λx=> [(4,.ptr 4 0),(5,.ptr 5 0),(8,.sl (.row 29) ((Z2 [] a.head b.head).map chg)),(9,Yo (((b.rows.take x.1).map Rw.item).foldl Uy I0)),(11,.int .i64 (x.1:Int))]) (λx=> [(4,[.sl .no (a.head.map ent),.sl .no (a.rows.map row)],Hf),(5,[.sl .no (b.head.map ent),.sl .no (b.rows.map row)],Hf)]) (λx=> [(29,.live (Z2 [] a.head b.head).length 13 67)]) (λx=>b.rows.length-x.1) ⟨0,Jn _⟩
  ⟨rfl,(Fc5 rfl rfl rfl rfl rfl),Fc2 ⟨rfl,rfl⟩ ⟨rfl,rfl⟩,fcs rfl fnl⟩ (λx=>⟨Fc5 rfl rfl (by simp[Ju,ZX]) rfl rfl,Fc2 rfl rfl⟩) (λx=> ?_)
 obtain⟨k2,hk2⟩:=x;simp only;by_cases h2:(k2:Int)<(b.rows.length:Int);have hka:k2<b.rows.length:=by omega
 have i1:=Jg k2
 have w1:=wk9 (k:=k2) (by omega)
 have hfl:=Za1 ((b.rows.take k2).map Rw.item) I0;simp only[Jb,JC]at hfl;have hP:=Zcy (((b.rows.take k2).map Rw.item).foldl Uy I0) (b.rows.getD k2 Jd).item (by omega);rw[<-ZcY I0 hka]at hP;simp only[go_sem,h2,V5 hka,row,i1];refine vc1 hP ?_;simp only[go_sem,w1];exact⟨⟨k2+1,by omega⟩,nx9 (by omega),⟨rfl,(Fc5 rfl rfl rfl rfl rfl),Fc2 ⟨rfl,rfl⟩ ⟨rfl,rfl⟩,fcs rfl fnl⟩⟩;have htk2:b.rows.take k2=b.rows:=Jk (by omega);have hI1:(b.rows.map Rw.item).foldl Uy I0=UX a.rows b.rows:=by rw[<-hI0];rfl
 simp only[go_sem,h2,htk2,hI1];generalize hIT:UX a.rows b.rows=IT at *;have hol:=Vc [] a.head b.head;refine Zs (ι:=DrX 0 (XE a.rows b.rows) IT (Z2 [] a.head b.head)) 131 (λx=> [(4,.ptr 4 0),(5,.ptr 5 0),(8,.sl (.row x.id) (x.acc.map chg)),(9,Yo IT),(12,.int .i64 (x.k:Int))]) (λx=> [(4,[.sl .no (a.head.map ent),.sl .no (a.rows.map row)],Hf),(5,[.sl .no (b.head.map ent),.sl .no (b.rows.map row)],Hf)]) (λx=> [(x.id,.live x.acc.length 13 67)]) (λx=>IT.length-x.k) ⟨0,Z2 [] a.head b.head,29,Jn _,by omega,by simp,.inl rfl⟩
  ⟨rfl,(Fc5 rfl rfl rfl rfl rfl),Fc2 ⟨rfl,rfl⟩ ⟨rfl,rfl⟩,fcs rfl fnl⟩ (λx=>⟨Fc5 rfl rfl (by simp[Ju,ZX]) rfl rfl,Fc2 rfl rfl⟩) (λx=> ?_)
 obtain⟨k3,acc,id,hk3,hac,hacc,hid⟩:=x;simp only;by_cases h3:(k3:Int)<(IT.length:Int);have hka:k3<IT.length:=by omega
 have i1:=Jg k3
 have w1:=wk9 (k:=k3) (by omega)
 have hfs:=ZmM (XE a.rows b.rows) hka;have hmem:IT.getD k3 []∈IT:=Ze (d:= []) hka;have hg:=ZQ hka;generalize hit:IT.getD k3 []=it at *;have hpa:=Zi3 (λr:Rw=>r.item==it) a.rows;have hqb:=Zi3 (λr:Rw=>r.item==it) b.rows;have hA:=hMa it;have hB:=hMb it;have hml:(acc.map chg).length=acc.length:=Jb _;have hsz:=Wb acc;have hrm:=Ya (show acc.length+1<=1000000 by omega) (show 192<=1000 by omega);simp only[go_sem,Yo,h3];refine vDq ?_;simp only[go_sem,hg,h3,i1];refine vc1 hA ?_;simp only[go_sem,hg,h3,i1];refine vc1 hB ?_;generalize idx (λr:Rw=>r.item==it) a.rows=ia at *;generalize idx (λr:Rw=>r.item==it) b.rows=ib at *;rcases hqb with ⟨rfl,hqn⟩|⟨j,hj,rfl,hqs⟩;rcases hpa with ⟨rfl,hpn⟩|⟨i,hi,rfl,hps⟩;exfalso;rw[him]at hmem;rw[JO]at hpn hqn;rcases hmem with hm|hm;obtain⟨r,hr,e⟩:=Jo.1 hm;exact hpn r hr (by simpa using e);obtain⟨r,hr,e⟩:=Jo.1 hm;exact hqn r hr (by simpa using e)
 ·have hst:XE a.rows b.rows it= [Fq ⟨it,(a.rows.getD i Jd).l⟩]:=by unfold XE;rw[hqn,hps];rfl
  rw[hst]at hfs;have i2:=Jg i
  have i3:(i:Int)<(a.rows.length:Int):=by omega
  have hgr:=V5 hi;rcases hid with rfl|rfl|rfl|rfl
  all_goals
   simp only[go_sem];refine vDq ?_;simp only[go_sem,hg,h3,i1,i2,i3,hgr,row,hml,hsz,hrm,ZZ,Yz,w1];exact⟨⟨k3+1,acc++ [Fq ⟨it,(a.rows.getD i Jd).l⟩],94,by omega,by simp only[Ja,Jh,Jq];omega,by rw[hacc,hfs,Jv],.inr (.inl rfl)⟩,nx9 (by omega),⟨rfl,Fc5 rfl rfl (by show JT _ _=JT _ _;rw[Je];rfl) rfl rfl,Fc2 ⟨rfl,rfl⟩ ⟨rfl,rfl⟩,fcs (by show Hs (Row.live _ 13 _)=Hs (Row.live _ 13 _);rw[Ja];rfl) fnl⟩⟩
 have hgq:=V5 hj;have j2:=Jg j
 have j3:(j:Int)<(b.rows.length:Int):=by omega
 have j4:¬(j:Int)<0:=by omega
 have hqm:=Ze (d:=Jd) hj;rcases hpa with ⟨rfl,hpn⟩|⟨i,hi,rfl,hps⟩
 ·have hst:XE a.rows b.rows it= [DP ⟨it,(b.rows.getD j Jd).l⟩]:=by unfold XE;rw[hqs,hpn]
  rw[hst]at hfs;rcases hid with rfl|rfl|rfl|rfl
  all_goals
   simp only[go_sem,j4];refine vDq ?_;simp only[go_sem,hg,h3,i1,j2,j3,hgq,row,hml,hsz,hrm,ZZ,Yz,w1];exact⟨⟨k3+1,acc++ [DP ⟨it,(b.rows.getD j Jd).l⟩],110,by omega,by simp only[Ja,Jh,Jq];omega,by rw[hacc,hfs,Jv],.inr (.inr (.inl rfl))⟩,nx9 (by omega),⟨rfl,Fc5 rfl rfl (by show JT _ _=JT _ _;rw[Je];rfl) rfl rfl,Fc2 ⟨rfl,rfl⟩ ⟨rfl,rfl⟩,fcs (by show Hs (Row.live _ 13 _)=Hs (Row.live _ 13 _);rw[Ja];rfl) fnl⟩⟩
 ·have hst:XE a.rows b.rows it=Z2 it (a.rows.getD i Jd).l (b.rows.getD j Jd).l:=by unfold XE;rw[hqs,hps]
  rw[hst]at hfs;have i2:=Jg i
  have i3:(i:Int)<(a.rows.length:Int):=by omega
  have i4:¬(i:Int)<0:=by omega
  have hgr:=V5 hi;have hpm:=Ze (d:=Jd) hi;generalize a.rows.getD i Jd=p at *;generalize b.rows.getD j Jd=q at *;have hO:=Zb1 it p.l q.l (ha.s p hpm).1 (by rw[a3 p hpm,b3 q hqm];exact KG _) (ha.s p hpm).2 (hb.s q hqm).2;have hol2:=Vc it p.l q.l;have ha3:=a3 p hpm;have hos:=Wb (Z2 it p.l q.l);have hoa:=Zfk (Z2 it p.l q.l);have hom:((Z2 it p.l q.l).map chg).length=(Z2 it p.l q.l).length:=Jb _;have hro:=Ya (show acc.length+(Z2 it p.l q.l).length<=1000000 by omega) (show 192<=1000 by omega);rcases hid with rfl|rfl|rfl|rfl
  all_goals
   simp only[go_sem,i4,j4];refine vDq ?_;simp only[go_sem,hg,h3,i1,i2,i3,hgr,j2,j3,hgq,row];refine vc1 hO ?_;simp only[go_sem,Tk,hml,hsz,hos,hoa,hom,hro,w1];exact⟨⟨k3+1,acc++Z2 it p.l q.l,129,by omega,by simp only[Ja];omega,by rw[hacc,hfs,Jv],.inr (.inr (.inr rfl))⟩,nx9 (by omega),⟨rfl,Fc5 rfl rfl (by show JT _ _=JT _ _;rw[Je]) rfl rfl,Fc2 ⟨rfl,rfl⟩ ⟨rfl,rfl⟩,fcs (by show Hs (Row.live _ 13 _)=Hs (Row.live _ 13 _);rw[Ja]) fnl⟩⟩
 have htk3:IT.take k3=IT:=Jk (by omega);rw[htk3]at hacc;rw[<-hacc];simp only[go_sem,Yo,h3,SU,Tk]
open Go.PL
open Go.ChangeShapes Go.WideShapes Go.ChangeAt Go.RowKit
end Go.Proofs.YtadgngamdofhiaaGreat
