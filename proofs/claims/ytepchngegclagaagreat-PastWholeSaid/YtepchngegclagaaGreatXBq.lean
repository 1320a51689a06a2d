/- Lemmas of the proof. -/
import Derived.Test.YtepchngegclagaaGreatPlH
import Derived.Test.YtepchngegclagaaGreatXAa
import Derived.Test.YtepchngegclagaaGreatXAi
import Derived.Test.YtepchngegclagaaGreatXAy
import Derived.Test.YtepchngegclagaaGreatXBd
import Derived.Test.YtepchngegclagaaGreatXCc
import Derived.ProofKit
set_option maxHeartbeats 64000000
set_option maxRecDepth 20000
set_option linter.unusedVariables false
set_option linter.unusedSimpArgs false
open Inhabited renaming default→Jd
open Option renaming some→Hs
open Bool renaming true→Ht,false→Hf
open Go.Proofs.Tryz
open Go Go.PL
open _root_.Array renaming getElem?_eq_some_iff→JO,getElem?_modify→Ko
open BelowF renaming refl→K1
open Bool renaming and_eq_true→Jl,false_and→Jr,and_self→Jz,true_and→JH,and_false→JI,eq_false_iff→JL,false_eq_true→JN,and_true→J3,eq_iff_iff→J5,true_eq_false→Kz
open Classical renaming not_not→JP
open Int renaming natCast_nonneg→Jb,le_refl→Kc
open List renaming length_append→Ja,append_nil→Jc,length_map→Je,map_append→Jf,length_filter_le→Jh,length_cons→Ji,mem_singleton→Jj,filter_cons_of_neg→Jk,filter_cons_of_pos→Jm,take_of_length_le→Jn,mem_append→Jp,mem_map→Jq,length_nil→Js,filter_append→Jt,all_eq_true→Ju,length_take_le→Jv,append_assoc→Jw,range→Jy,take_length→JA,getElem_map→JB,getElem_of_mem→JC,map_cons→JD,getElem_append_left→JE,findIdx?_eq_some_iff_getElem→JG,getElem_range→JJ,mem_range→JR,mem_cons→JU,ext_getElem→JW,getElem_mem→JX,findIdx?_eq_none_iff→JY,map_nil→JZ,not_mem_nil→J2,mem_cons_of_mem→J4,filter_sublist→J6,getElem_set_ne→J7,mem_cons_self→J8,find?_eq_none→J9,getElem_append_right→Ka,take_add_one→Kb,getElem?_eq_getElem→Kd,getElem_set→Kg,length_eq_zero_iff→Kh,length_take→Ki,filter_eq_nil_iff→Kk,getElem_cons_zero→Kl,length_set→Km,range_succ→Kn,set_getElem_self→Kq,mem_of_mem_drop→Kr,getD_cons_zero→Kv,flatMap_append→Kw,filter_eq_self→Kx,finRange→Ky,findIdx?_cons→KA,Nodup→KB,any_eq_false→KC,size_toArray→KD,foldl_append→KE,length_drop→KG,mem_reverse→KI,drop_length→KJ,mem_flatMap→KK,mem_filter→KL,nil_append→KM,take_zero→KP,map_take→KQ,findIdx?→KT,take→KU,set_set→KX,set→K2,drop→K6
open Nat renaming zero_le→Jg,not_lt_zero→JF,le_trans→JK,lt_or_ge→JT,add_zero→Kj,le_refl→Ks,sub_self→KY,sub_sub→KZ,mul_one→K0
open Option renaming isSome_iff_exists→Kf,map_map→KN
open PV renaming ids→Jo,didsL→JM,sl→JQ,dids→JS,idsL→JV,int→Ke,givableL→Kt,nomapL→Ku,nomap→KF,giveL→KO,agg→KW,str→K3,ren→K4,givable→K5,any→K8
open Pub renaming vec0→K7
namespace Go.Proofs.YtepchngegclagaaGreat
open Go.PL
def lcp:List Eg->List Eg->Nat
 |a::xs,b::ys=>if a=b then lcp xs ys+1 else 0
 |_,_=>0
theorem ZjP:∀(a b:List Eg),lcp a b<=a.length/\lcp a b<=b.length
 | [],b=>by simp[lcp]
 |a::xs,[]=>by simp[lcp]
 |a::xs,b::ys=>by
  have:=ZjP xs ys;simp only[lcp];split;simp;omega;simp
theorem ZjO:∀(a b:List Eg) (t:Nat),t<lcp a b->a.getD t Jd=b.getD t Jd
 | [],b,t,h=>by simp[lcp]at h
 |a::xs,[],t,h=>by simp[lcp]at h
 |a::xs,b::ys,t,h=>by
  simp only[lcp]at h;split at h;rename_i e;cases t with
  |zero=>simpa using e
  |succ t=>simpa using ZjO xs ys t (by omega)
  omega
theorem Zgi:∀(a b:List Eg),lcp a b<a.length->lcp a b<b.length->a.getD (lcp a b) Jd≠b.getD (lcp a b) Jd
 | [],b,h,_=>by simp at h
 |a::xs,[],_,h=>by simp at h
 |a::xs,b::ys,h1,h2=>by
  simp only[lcp]at h1 h2 ⊢;split;rename_i e;rw[if_pos e]at h1 h2;simpa using Zgi xs ys (by simpa using h1) (by simpa using h2);rename_i e;simpa using e
theorem Apart.inj {m:List Eg} (h:Apart m) {a b:Eg} (ha:a∈m) (hb:b∈m) (e:a.id=b.id):a=b:=by
 have h1:=h.find ha;rw[e,h.find hb]at h1;cases h1;rfl
structure WayT where
 up:List Tg
 down:List Tg
 i:Nat
 j:Nat
 c:Int
def Zlq (x:WayT):PV:= .tup [tgs x.up,tgs x.down,.int .i64 (x.i:Int),.int .i64 (x.j:Int),.int .i64 x.c]
theorem FE (x:WayT):(Zlq x).dids= []:=by simp only[Zlq,JS,JM,ZgL,Jc]
def Zio (m:List Eg) (a b:Tg):WayT:=
 if upC m a≠0 then⟨[],[],0,0,upC m a⟩else if upC m b≠0 then⟨[],[],0,0,upC m b⟩
 else⟨upL (UH m a),upL (UH m b),(UH m a).length-lcp (UH m a) (UH m b),(UH m b).length-lcp (UH m a) (UH m b),0⟩
theorem Zlb (m:List Eg) (a b:Tg) (hm:OkM m):Pp 266 [tr (Ze m),tg a,tg b] (Zlq (Zio m a b)):=by
 have hA:=ZiI m a hm;have hB:=ZiI m b hm;unfold Zio;unfold upM at hA hB;by_cases ha:upC m a=0;by_cases hb:upC m b=0;obtain⟨wa,_,_⟩:=Wi ha;obtain⟨wb,_,_⟩:=Wi hb;simp only[ha,hb,ne_eq,not_true_eq_false,if_false]at hA hB ⊢;generalize UH m a=p at *;generalize UH m b=q at *;have hlc:=ZjP p q;have hpl:p.length<=40:=by have:=wa.len;have:=hm.n;omega
 have hql:q.length<=40:=by have:=wb.len;have:=hm.n;omega
 have l1:((upL p).length:Int)=(p.length:Int)+1:=by rw[T7];rfl
 have l2:((upL q).length:Int)=(q.length:Int)+1:=by rw[T7];rfl
 have s1:IntKind.i64.wrap ((p.length:Int)+1-1)=(p.length:Int):=by rw[w64 (by omega)];omega
 have s2:IntKind.i64.wrap ((q.length:Int)+1-1)=(q.length:Int):=by rw[w64 (by omega)];omega
 refine ZF func266 rfl ntmps266 results266 (FE _) ?_;simp only[go_sem,tr,tg];refine Zb6 (ι:= { t:Nat // t<=lcp p q }) 62 (λx=> [(6,tgs (upL p)),(7,tgs (upL q)),(8,.int .i64 ((p.length-x.1:Nat):Int)),(9,.int .i64 ((q.length-x.1:Nat):Int))]) (λx=> []) (λx=> []) (λx=>lcp p q-x.1) 0 _ (by exact rfl) (λx=>⟨(Fc4 rfl rfl rfl rfl),fnl⟩) (λx=> ?_) (λcut=> ?_);obtain⟨t,ht⟩:=x;simp only;by_cases g1:t<p.length;have c1:(0:Int)<((p.length-t:Nat):Int):=by omega
 by_cases g2:t<q.length;have c2:(0:Int)<((q.length-t:Nat):Int):=by omega
 have w1:IntKind.i64.wrap (((p.length-t:Nat):Int)-1)=((p.length-t-1:Nat):Int):=by rw[w64 (by omega)];omega
 have w2:IntKind.i64.wrap (((q.length-t:Nat):Int)-1)=((q.length-t-1:Nat):Int):=by rw[w64 (by omega)];omega
 have k1:p.length-t-1<(upL p).length:=by rw[T7];omega
 have k2:q.length-t-1<(upL q).length:=by rw[T7];omega
 have b1:(0:Int)<=((p.length-t-1:Nat):Int):=by omega
 have b2:(0:Int)<=((q.length-t-1:Nat):Int):=by omega
 have b3:((p.length-t-1:Nat):Int)<((upL p).length:Int):=by omega
 have b4:((q.length-t-1:Nat):Int)<((upL q).length:Int):=by omega
 have v1:=Zfy p t g1;have v2:=Zfy q t g2;by_cases hlt:t<lcp p q;have heq:decide ((p.getD t Jd).id=(q.getD t Jd).id)=true:=by rw[ZjO p q t hlt];simp
 simp only[go_sem,tgs];refine vDq ?_;simp only[go_sem,c1,c2,w1,w2,ZE k1,ZE k2,v1,v2,tg,b1,b2,b3,b4,ZD,heq];exact⟨⟨t+1,by omega⟩,by show lcp p q-(t+1)<lcp p q-t;omega,⟨rfl,Fc4 rfl rfl (by simp only[KZ];rfl) (by simp only[KZ];rfl),fnl,fnl⟩⟩;obtain rfl:t=lcp p q:=by omega
 have hne:decide ((p.getD (lcp p q) Jd).id=(q.getD (lcp p q) Jd).id)=false:=by
  rw[decide_eq_false_iff_not];intro e;have hs:=Zgi p q (by omega) (by omega);exact hs (hm.a.inj (wa.mem _ (Zc g1)) (wb.mem _ (Zc g2)) e)
 simp only[go_sem,tgs];refine vDq ?_;simp only[go_sem,c1,c2,w1,w2,ZE k1,ZE k2,v1,v2,tg,b1,b2,b3,b4,ZD,hne,Zlq,tgs];have c2:¬(0:Int)<((q.length-t:Nat):Int):=by omega
 obtain rfl:t=lcp p q:=by omega
 simp only[go_sem,tgs];refine vDq ?_;simp only[go_sem,c1,c2,Zlq,tgs];have c1:¬(0:Int)<((p.length-t:Nat):Int):=by omega
 obtain rfl:t=lcp p q:=by omega
 simp only[go_sem,tgs];refine vDq ?_;simp only[go_sem,c1,Zlq,tgs];simp only[go_sem];refine vc5 hA ?_;simp only[go_sem,Zlo];refine vc5 hB ?_;simp only[go_sem,Zlo,tgs,l1,l2,s1,s2];exact Yr (cut ⟨0,Jg _⟩ _ ⟨rfl,(Fc4 rfl rfl rfl rfl),fnl,fnl⟩);have hb':(upC m b !=0)=true:=by simpa using hb
 simp only[ha,hb,ne_eq,not_true_eq_false,not_false_eq_true,if_true,if_false]at hA hB ⊢;refine ZF func266 rfl ntmps266 results266 (FE _) ?_;simp only[go_sem,tr,tg];refine Uv ?_;simp only[go_sem];refine vc5 hA ?_;simp only[go_sem,Zlo];refine vc5 hB ?_;simp only[go_sem,Zlo,tgs,hb',Zlq];have ha':(upC m a !=0)=true:=by simpa using ha
 simp only[ha,ne_eq,not_false_eq_true,if_true]at hA ⊢;refine ZF func266 rfl ntmps266 results266 (FE _) ?_;simp only[go_sem,tr,tg];refine Uv ?_;simp only[go_sem];refine vc5 hA ?_;simp only[go_sem,Zlo,tgs,ha',Zlq]
open Go.PL
def dn (e:Eg):Lg:=⟨e.id,Ht⟩
def upg (i:Tg):Lg:=⟨i,Hf⟩
def Ze1 (p q:List Eg):List Lg:=((p.drop (lcp p q)).reverse.map λe=>upg e.id)++(q.drop (lcp p q)).map dn
theorem Zm7 (p:List Eg) (c:Nat) (hc:c<=p.length):(upL p).take (p.length-c)=(p.drop c).reverse.map (·.id):=by
 unfold upL;rw[List.take_append_of_le_length (by simp),<-KQ,List.take_reverse];congr 3;omega
def Ze2 (x:List Lg×Int):PV:= .tup [lgs x.1,.int .i64 x.2]
theorem ZlY (l:List Lg):JM (l.map lg)= []:=by
 induction l with
 |nil=>rfl
 |cons t l ih=>simp only[JD,JM,ih,lg,JS,Jc]
theorem Zms (l:List Lg):(lgs l).dids= []:=by simp only[lgs,JS,ZlY]
theorem ZaI (x:List Lg×Int):(Ze2 x).dids= []:=by simp only[Ze2,JS,JM,Zms,Jc]
theorem ZgG (l:List Lg):Sized 3 (l.map lg):=λe he=>by
 obtain⟨x,_,rfl⟩:=Jq.1 he;rfl
def Uk (m:List Eg) (a b:Tg):Int:=if upC m a≠0 then upC m a else upC m b
def ZhT (m:List Eg) (a b:Tg):List Lg×Int:=if Uk m a b≠0 then([],Uk m a b)else(Ze1 (UH m a) (UH m b),0)
theorem TA {m:List Eg} {a b:Tg}:Uk m a b=0↔upC m a=0/\upC m b=0:=by
 unfold Uk;split;rename_i h;exact⟨λh'=>absurd h' h,λh'=>absurd h'.1 h⟩;rename_i h;exact⟨λh'=>⟨by simpa using h,h'⟩,λh'=>h'.2⟩
theorem Zla {m:List Eg} {a b:Tg} (h:Uk m a b≠0):Zio m a b=⟨[],[],0,0,Uk m a b⟩:=by
 unfold Zio Uk at *;split;rfl;rename_i h1;rw[if_neg h1]at h;rw[if_pos h]
theorem Zip {m:List Eg} {a b:Tg} (h:Uk m a b=0):Zio m a b=⟨upL (UH m a),upL (UH m b),(UH m a).length-lcp (UH m a) (UH m b),(UH m b).length-lcp (UH m a) (UH m b),0⟩:=by
 obtain⟨h1,h2⟩:=TA.1 h;unfold Zio;rw[if_neg (by simp[h1]),if_neg (by simp[h2])]
theorem FM {q:List Eg} {c s:Nat} (h:c+s<q.length):(q.drop c).take (s+1)=(q.drop c).take s++ [q.getD (c+s) Jd]:=by
 rw[Kb];congr 1;rw[List.getElem?_drop,Kd h,getD_lt h];rfl
theorem ZiD (m:List Eg) (a b:Tg) (hm:OkM m):Pp 245 [tr (Ze m),tg a,tg b] (Ze2 (ZhT m a b)):=by
 have hW:=Zlb m a b hm;unfold ZhT;by_cases hc:Uk m a b=0;rw[Zip hc]at hW;obtain⟨ha,hb⟩:=TA.1 hc;obtain⟨wa,_,_⟩:=Wi ha;obtain⟨wb,_,_⟩:=Wi hb;simp only[hc,ne_eq,not_true_eq_false,if_false];generalize UH m a=p at *;generalize UH m b=q at *;have hlc:=ZjP p q;have hpl:p.length<=40:=by have:=wa.len;have:=hm.n;omega
 have hql:q.length<=40:=by have:=wb.len;have:=hm.n;omega
 unfold Ze1;have hut:=Zm7 p (lcp p q) hlc.1;have hdl:(p.drop (lcp p q)).length=p.length-lcp p q:=by simp
 have hql':(q.drop (lcp p q)).length=q.length-lcp p q:=by simp
 generalize hids:(p.drop (lcp p q)).reverse.map (·.id)=ids at *;have hidl:ids.length=p.length-lcp p q:=by rw[<-hids];simp
 have hfst:((p.drop (lcp p q)).reverse.map λe=>upg e.id)=ids.map upg:=by rw[<-hids,List.map_map];rfl
 rw[hfst];have hlen:ids.length<=maxLen:=by rw[Zb];omega
 have s0:IntKind.i64.wrap (((p.length-lcp p q:Nat):Int)+((q.length-lcp p q:Nat):Int))=((p.length-lcp p q+(q.length-lcp p q):Nat):Int):=by rw[w64 (by omega)];omega
 have hup:(upL p).length=p.length+1:=T7 p;refine ZF func245 rfl ntmps245 results245 (ZaI _) ?_;simp only[go_sem,tr,tg];refine Zb6 (ι:= { s:Nat // s<=q.length-lcp p q }) 60 (λx=> [(9,tgs (upL q)),(11,.int .i64 ((q.length-lcp p q-x.1:Nat):Int)),(13,.sl (.row 58) ((ids.map upg++((q.drop (lcp p q)).take x.1).map dn).map lg))]) (λx=> []) (λx=> [(58,.live (ids.length+x.1) 3 287)]) (λx=>q.length-lcp p q-x.1) 0 _ (by exact rfl)
  (λx=>⟨Fc3 rfl rfl (by simp[Jo,Zy]),fnl⟩) (λx=> ?_) (λcut=> ?_)
 obtain⟨s,hs⟩:=x;simp only;by_cases hlt:s<q.length-lcp p q;have c1:(0:Int)<((q.length-lcp p q-s:Nat):Int):=by omega
 have w1:IntKind.i64.wrap (((q.length-lcp p q-s:Nat):Int)-1)=((q.length-(lcp p q+s)-1:Nat):Int):=by rw[w64 (by omega)];omega
 have k1:q.length-(lcp p q+s)-1<(upL q).length:=by rw[T7];omega
 have b1:(0:Int)<=((q.length-(lcp p q+s)-1:Nat):Int):=by omega
 have b2:((q.length-(lcp p q+s)-1:Nat):Int)<((upL q).length:Int):=by omega
 have v1:=Zfy q (lcp p q+s) (by omega);have hrm:=Ym (show ids.length+s+1<=1000000 by omega) (show 24<=1000 by omega);have hsl:(ids.map upg++((q.drop (lcp p q)).take s).map dn).length=ids.length+s:=by simp;omega
 have hnx:=FM (q:=q) (c:=lcp p q) (s:=s) (by omega);simp only[go_sem,tgs,c1,w1,ZE k1,v1,tg,b1,b2,ZgG,hsl,hrm];refine⟨⟨s+1,by omega⟩,by show q.length-lcp p q-(s+1)<q.length-lcp p q-s;omega,⟨rfl,fcs rfl (fcs ?_ (fcs ?_ fnl)),fnl,fcs ?_ fnl⟩⟩;show Ke .i64 _=Ke .i64 _;congr 2;simp only;omega;show JQ (.row 58) _=JQ (.row 58) _;simp[hnx,dn,lg];rfl;obtain rfl:s=q.length-lcp p q:=by omega
 have c1:¬(0:Int)<((q.length-lcp p q-(q.length-lcp p q):Nat):Int):=by omega
 have htk:(q.drop (lcp p q)).take (q.length-lcp p q)=q.drop (lcp p q):=Jn (by omega);simp only[go_sem,tgs,c1,Ze2,lgs,htk]
 ·simp only[go_sem];refine vc5 hW ?_;simp only[go_sem,Zlq,tgs,s0];repeat((with_reducible refine And.intro ?_ ?_);(focus((repeat' (with_reducible apply And.intro))<;>(first|omega|exact Yi (by omega) (by omega)|exact Yi (by simp;omega) (by omega)|exact ZU _|(simp;done)|(simp;omega)))))
  have htt:PL.cut (List.map tg (upL p)) 0 ((p.length-lcp p q:Nat):Int)=ids.map tg:=by simp[PL.cut,<-KQ,hut]
  refine⟨⟨by omega,by omega,Dh _⟩,?_⟩;simp only[go_sem,htt];refine Yj 13 32 45 0 3 287 [] rfl rfl rfl ?_;refine Zr (ι:= { x:Nat // x<=(ids).length }) 60 (λx=> [(9,tgs (upL q)),(11,.int .i64 ((q.length-lcp p q:Nat):Int)),(13,.sl (.row 45) (((ids.take x.1).map upg).map lg)),(35,tgs ids),(36,.int .i64 (ids.length:Int)),(37,.int .i64 (x.1:Int))]) (λx=> []) (λx=> [(45,.live (x.1) (3) (287))]) (λx=>(ids).length-x.1) ⟨0,Jg _⟩ ⟨rfl,(Fc6 rfl rfl rfl rfl rfl rfl),fnl,(fcs rfl fnl)⟩ (λx=>⟨(Fc6 rfl rfl (by simp[Jo,Zy]) rfl rfl rfl),fnl⟩) (λx=> ?_);obtain⟨k,hk⟩:=x;simp only at hk ⊢;by_cases h:(k:Int)<(ids.length:Int)
  ·(have hka:k<(ids).length:=by omega);(have w1:=We hka (hlen));(have i1:=Jb k)
   have hts:ids.take (k+1)=ids.take k++ [ids.getD k Jd]:=by rw[Kb,getD_lt hka];simp[hka]
   have hkl:(ids.take k).length=k:=by simp;omega
   have hrm:=Ym (show k+1<=1000000 by omega) (show 24<=1000 by omega);simp only[go_sem,h,tgs,ZE hka,tg,i1,w1,ZgG,hkl,hrm];exact⟨⟨k+1,by(try simp only);omega⟩,by show(ids).length-(k+1)<(ids).length-k;omega,⟨rfl,(Fc6 rfl rfl (by(show JQ _ _=JQ _ _;simp[hts,upg,lg])) rfl rfl rfl),fnl,(fcs rfl fnl)⟩⟩
  obtain rfl:k=ids.length:=by omega
  have htk:ids.take ids.length=ids:=JA;simp only[go_sem,h,htk];refine Yj 13 45 58 ids.length 3 287 ((ids.map upg).map lg) rfl rfl rfl ?_;exact Yr (cut ⟨0,Jg _⟩ _ ⟨rfl,Fc3 rfl rfl (by simp[upd,St.with]),fnl,fcs (by simp[upd,Hp.setq,St.with]) fnl⟩)
 have hc':(Uk m a b !=0)=true:=by simpa using hc
 rw[Zla hc]at hW;simp only[ne_eq,hc,not_false_eq_true,if_true];refine ZF func245 rfl ntmps245 results245 (ZaI _) ?_;simp only[go_sem,tr,tg];refine Uv ?_;simp only[go_sem];refine vc5 hW ?_;simp only[go_sem,Zlq,tgs,hc',Ze2,lgs]
open Go.PL
def awX:Ln:=⟨1,⟨1,[],[110,111,116,101]⟩,[109,101,109,111],[],0,Jd,[],[]⟩
def awA:Eg:=⟨⟨1,1⟩,Jd,awX⟩
theorem ZuX:OkLn awX:=⟨by decide,by decide,by decide⟩
theorem ZuZ:Zcc [] awA=([awA],0):=by decide+kernel
theorem okA:OkM [awA]:=by have:=Zoj T1 (e:=awA) ZuX;rw[ZuZ]at this;exact this
theorem Zgj (m:List Eg) (a b:Tg) (hm:OkM m):(ZhT m a b).1.length<=80:=by
 unfold ZhT;split;simp;rename_i h;have h:=TA.1 (by simpa using h);have w1:=(Wi h.1).1.len;have w2:=(Wi h.2).1.len;have:=hm.n;simp only[Ze1,Ja,Je,List.length_reverse,KG];omega
theorem okL {l:List Eg} (h:DU l 50=Hf):l.length<=50/\ ∀e∈l,OkLn e.ln:=by
 simp only[DU,Bool.or_eq_false_iff,decide_eq_false_iff_not,KC]at h;exact⟨by omega,λe he=>Zj9 (by simpa using h.2 e he)⟩
open Go.PL
def tgc (x:Tg×Int):PV:= .tup [tg x.1,.int .i64 x.2]
theorem Zm1 (x:Tg×Int):(tgc x).dids= []:=by simp only[tgc,JS,JM,ZkM,Jc]
open Go.PL
theorem Zob {m:List Eg} {a b:Tg} (h:Uk m a b=0) (ha:Apart m):∀x∈Ze1 (UH m a) (UH m b),∃e,e∈m/\Y9 m x.id=Hs e/\x.id=e.id:=by
 obtain⟨h1,h2⟩:=TA.1 h;obtain⟨wa,_,_⟩:=Wi h1;obtain⟨wb,_,_⟩:=Wi h2;intro x hx;have key:∀e∈m,∃e',e'∈m/\Y9 m e.id=Hs e'/\e.id=e'.id:=λe he=>⟨e,he,ha.find he,rfl⟩
 unfold Ze1 at hx;rcases Jp.1 hx with hx|hx;obtain⟨e,he,rfl⟩:=Jq.1 hx;exact key e (wa.mem e (Kr (KI.1 he)));obtain⟨e,he,rfl⟩:=Jq.1 hx;exact key e (wb.mem e (Kr he))
def ZaJ (m:List Eg) (l:List Lg):List Ln:=l.map λx=>(Ze3 m x).1
def Zkp (m:List Eg) (a b:Tg):List Ln×Int:=if Uk m a b≠0 then([],Uk m a b)else(ZaJ m (Ze1 (UH m a) (UH m b)),0)
def Zea (l:List Ln):PV:= .sl .no (l.map lns)
def Znw (x:List Ln×Int):PV:= .tup [Zea x.1,.int .i64 x.2]
theorem ZjR (l:List Ln):(Zea l).dids= []:=by
 unfold Zea;simp only[JS];induction l with
 |nil=>rfl
 |cons e l ih=>simp only[JD,JM,ih,De,Jc]
theorem Zc8 (x:List Ln×Int):(Znw x).dids= []:=by simp only[Znw,JS,JM,ZjR,Jc]
theorem ZmR (l:List Ln):Sized 16 (l.map lns):=λe he=>by
 obtain⟨x,_,rfl⟩:=Jq.1 he;rfl
theorem Zjt {l:List Ln} {i:Nat} (h:i<l.length):(l.map lns).getD i .any=lns (l.getD i Jd):=Xa h
theorem Zls (m:List Eg) (a b:Tg) (hm:OkM m) (hr:RightM m):Pp 204 [tr (Ze m),tg a,tg b] (Znw (Zkp m a b)):=by
 have hP:=ZiD m a b hm;have hll:=Zgj m a b hm;unfold Zkp;unfold ZhT at hP hll;by_cases hc:Uk m a b=0
 ·have hin:=Zob hc hm.a;simp only[hc,ne_eq,not_true_eq_false,if_false]at hP hll ⊢;generalize Ze1 (UH m a) (UH m b)=legs at *;have hlm:legs.length<=maxLen:=by rw[Zb];omega
  refine ZF func204 rfl ntmps204 results204 (Zc8 _) ?_;simp only[go_sem,tr,tg];refine vc5 hP ?_;simp only[go_sem,Ze2,lgs];repeat((with_reducible refine And.intro ?_ ?_);(focus((repeat' (with_reducible apply And.intro))<;>(first|omega|exact Yi (by omega) (by omega)|exact Yi (by simp;omega) (by omega)|exact ZU _|(simp;done)|(simp;omega)))))
  refine Yj 10 27 46 0 16 33 [] rfl rfl rfl ?_;refine Zr (ι:= { x:Nat // x<=(legs).length }) 49 (λx=> [(0,tr (Ze m)),(10,.sl (.row 46) ((ZaJ m (legs.take x.1)).map lns)),(28,lgs legs),(29,.int .i64 (legs.length:Int)),(30,.int .i64 (x.1:Int))]) (λx=> []) (λx=> [(46,.live (x.1) (16) (33))]) (λx=>(legs).length-x.1) ⟨0,Jg _⟩ ⟨rfl,(Fc5 rfl rfl rfl rfl rfl),fnl,(fcs rfl fnl)⟩ (λx=>⟨(Fc5 rfl (by simp[Jo,Zy]) rfl rfl rfl),fnl⟩) (λx=> ?_);obtain⟨k,hk⟩:=x;simp only at hk ⊢;by_cases h:(k:Int)<(legs.length:Int)
  ·(have hka:k<(legs).length:=by omega);(have w1:=We hka (hlm));(have i1:=Jb k)
   obtain⟨e,he,hfe,_⟩:=hin _ (Zc (d:=Jd) hka);have hL:=Zhi m (legs.getD k Jd) hm hr;have hz:(Ze3 m (legs.getD k Jd)).2=0:=by unfold Ze3;rw[hfe];simp only;split<;>rfl
   have hts:legs.take (k+1)=legs.take k++ [legs.getD k Jd]:=by rw[Kb,getD_lt hka];simp[hka]
   have hkl:(ZaJ m (legs.take k)).length=k:=by simp[ZaJ];omega
   have hrm:=Ym (show k+1<=1000000 by omega) (show 232<=1000 by omega);simp only[go_sem,tr,h,lgs,Zn7 hka,lg,i1];refine vc5 hL ?_;simp only[go_sem,lnc,hz,lns,ZmR,hkl,hrm,w1];exact⟨⟨k+1,by(try simp only);omega⟩,by show(legs).length-(k+1)<(legs).length-k;omega,⟨rfl,(Fc5 rfl (by(show JQ _ _=JQ _ _;simp[hts,ZaJ,lns])) rfl rfl rfl),fnl,(fcs rfl fnl)⟩⟩
  obtain rfl:k=legs.length:=by omega
  have htk:legs.take legs.length=legs:=JA;simp only[go_sem,h,htk,Znw,Zea]
 have hc':(Uk m a b !=0)=true:=by simpa using hc
 simp only[ne_eq,hc,not_false_eq_true,if_true]at hP ⊢;refine ZF func204 rfl ntmps204 results204 (Zc8 _) ?_;simp only[go_sem,tr,tg];refine vc5 hP ?_;simp only[go_sem,Ze2,lgs,hc',Znw,Zea]
open Go.PL
open Go.PL
open Go.PL
def Zoa:List Ln->Rf->Bool
 | [],r=>Ht
 |x::xs,r=>if Zsm x r=Hf then Hf else if(ZnJ x r).2=Hf then Hf else Zoa xs (ZnJ x r).1
structure TrS (row:List Ln) (f:List Ln->Rf->Rf×Bool) (r0:Rf) where
 k:Nat
 r:Rf
 hk:k<=row.length
 h:f (row.drop k) r=f row r0
structure KpS (row:List Ln) (r0:Rf) where
 k:Nat
 r:Rf
 hk:k<=row.length
 h:Zoa (row.drop k) r=Zoa row r0
theorem Zqh {m:List Eg} {a b:Tg} (hm:OkM m):(Zkp m a b).1.length<=1000/\ ∀x∈(Zkp m a b).1,OkLn x:=by
 unfold Zkp;split;simp;rename_i h;have hl:=Zgj m a b hm;unfold ZhT at hl;rw[if_neg h]at hl;refine⟨by simp only at hl;simp[ZaJ];omega,λx hx=> ?_⟩;obtain⟨y,_,rfl⟩:=Jq.1 hx;exact Zp9 hm y
open Go.PL
structure Pair (l m:List Fd) (x y:Ln):Prop where
 a:Wl l x=(m,0)
 b:Wl m y=(l,0)
 g:XN y=Zn x
 c:Zn y=XN x
inductive Pairs:List Fd->List Fd->List Ln->List Ln->Prop
 |nil (l:List Fd):Pairs l l [] []
 |cons {l m n:List Fd} {x y:Ln} {xs ys:List Ln} (h:Pair l m x y) (hs:Pairs m n xs ys):Pairs l n (x::xs) (ys++ [y])
theorem Pairs.append {l m n:List Fd} {xs ys us vs:List Ln} (h1:Pairs l m xs ys) (h2:Pairs m n us vs):Pairs l n (xs++us) (vs++ys):=by
 induction h1 with
 |nil=>simpa using h2
 |cons h hs ih=>rw[<-Jw];exact .cons h (ih h2)
open Go.PL
def TJ:List Ln->Opn->Opn×Bool
 | [],o=>(o,Ht)
 |x::xs,o=>if(FQ x o).2=Hf then(Jd,Hf)else TJ xs (FQ x o).1
theorem Zev (x:Ln) (xs:List Ln) (o:Opn):TJ (x::xs) o=if(FQ x o).2=Hf then(Jd,Hf)else TJ xs (FQ x o).1:=rfl
structure Worth (l:List Fd) (o:Opn) (w:Int):Prop where
 k:o.kind=3
 f:∃f,YM l o.at'=(f,0)/\f.kind=1/\1<=f.worth/\f.worth<=1048576/\o.delta*f.worth=w
 b: -1099511627776<=w/\w<=1099511627776
open Go.PL
open Go.PL
def ZtR (o:Opn) (t:Tg):Opn:=⟨o.id,t,o.time,o.cart,o.kind,o.item,o.at',o.delta,o.has,o.text,o.drops⟩
def Zpc (m:List Eg) (a b:Tg) (o:Opn):Opn×Bool:=
 if Uk m a b≠0 then(Jd,Hf)else if(TJ (Zkp m a b).1 o).2=Hf then(Jd,Hf)else(ZtR (TJ (Zkp m a b).1 o).1 b,Ht)
def DC (m:List Eg) (o:Opn) (b:Tg):Int:=
 if XJ o=Hf then 5 else if upC m o.sch≠0 then upC m o.sch else if upC m b≠0 then upC m b else if Zjn (XC (Ze m) o.sch).1 o=Hf then 16 else 0
structure SeenT where
 o:Opn
 ok:Bool
 c:Int
 deriving DecidableEq,Inhabited
def toT (m:List Eg) (o:Opn) (b:Tg):SeenT:=if DC m o b≠0 then⟨Jd,Hf,DC m o b⟩else⟨(Zpc m o.sch b o).1,(Zpc m o.sch b o).2,0⟩
def ZhY (m:List Eg) (o:Opn):Bool:=XJ o&&(decide (upC m o.sch=0)&&Zjn (XC (Ze m) o.sch).1 o)
open Go.PL
open Go.PL
structure AoS (rws:List Ln) (o0:Opn) where
 k:Nat
 o:Opn
 hk:k<=rws.length
 ok:OkOp o
 h:TJ (rws.drop k) o=TJ rws o0
def Zg0:List PV:= [.int .i64 0,.int .i64 0,.int .i64 0,.int .i64 0,.int .i64 0,.str [],.int .i64 0,.str [],.int .i64 0,.str [],.str [],.int .i64 0,.bool Hf,.str [],.sl .nil []]
theorem Zeq (rws:List Ln) (o:Opn) (hl:rws.length<=1000) (hx:∀x∈rws,OkLn x) (ho:OkOp o):Pp 205 [Zea rws,opv o] (opb (TJ rws o)):=by
 have hW:=Xp o ho;refine ZF func205 rfl ntmps205 results205 (Zu _) ?_;simp only[go_sem,Zea,opv];refine Zb6 (ι:=AoS rws o) 31 (λx=> [(0,Zea rws),(3,.ptr 3 0),(4,.ptr 4 0),(6,.int .i64 (x.k:Int))]) (λx=> [(3,Xd x.o,Hf),(4,Zg0,Hf)]) (λx=> []) (λx=>rws.length-x.k) 0 _ (by exact rfl) (λx=>⟨(Fc4 rfl rfl rfl rfl),Fc2 rfl rfl⟩) (λx=> ?_) (λcut=> ?_);obtain⟨k,p,hk,ok,h⟩:=x;simp only;by_cases he:k=rws.length;have hb:((k:Int)==(rws.length:Int))=true:=by simp[he]
 have hd:TJ rws o=(p,Ht):=by rw[<-h,he,KJ];rfl
 simp only[go_sem,Zea,hb,hd,opb,opv,Xd,Zg0];have hb:((k:Int)==(rws.length:Int))=false:=by simp;omega
 have hka:k<rws.length:=by omega
 have i0:=Jb k
 have i1:(k:Int)<(rws.length:Int):=by omega
 have w1:=wk9 (k:=k) (by omega)
 have hT:=ZiA (rws.getD k Jd) p (hx _ (Zc (d:=Jd) hka)) ok;have okn:=ZmC (x:=rws.getD k Jd) ok;rw[ZnZ hka,Zev]at h;cases hz:(FQ (rws.getD k Jd) p).2
 ·rw[if_pos hz]at h;simp only[go_sem,Zea,hb];refine vDq ?_;simp only[go_sem,Zjt hka,lns,i0,i1,Xd,opv];refine vc6 hT ?_;simp only[go_sem,opb,opv,hz,<-h,Zg0];try rfl
 rw[if_neg (by rw[hz];simp)]at h;simp only[go_sem,Zea,hb];refine vDq ?_;simp only[go_sem,Zjt hka,lns,i0,i1,Xd,opv];refine vc6 hT ?_;simp only[go_sem,opb,opv,hz,w1,Zg0];exact⟨⟨k+1,(FQ (rws.getD k Jd) p).1,by omega,okn,h⟩,nx9 (by omega),⟨rfl,(Fc4 rfl rfl rfl rfl),Fc2 ⟨rfl,rfl⟩ ⟨rfl,rfl⟩,fnl⟩⟩;simp only[go_sem];refine vc6 hW ?_;simp only[go_sem,opv];exact Yr (cut ⟨0,o,Jg _,ho,rfl⟩ _ ⟨rfl,(Fc4 rfl rfl rfl rfl),Fc2 ⟨rfl,rfl⟩ ⟨rfl,rfl⟩,fnl⟩)
theorem OkOp.len {o:Opn} (h:OkOp o):o.drops.length<=maxLen:=by have:=h.d;rw[Zb];omega
theorem Zfu (m:List Eg) (o:Opn) (a b:Tg) (hm:OkM m) (hr:RightM m) (ho:OkOp o):Pp 160 [tr (Ze m),opv o,tg a,tg b] (opb (Zpc m a b o)):=by
 have hR:=Zls m a b hm hr;obtain⟨hrl,hro⟩:=Zqh (a:=a) (b:=b) hm;have hA:=Zeq (Zkp m a b).1 o hrl hro ho;have hc2:(Zkp m a b).2=Uk m a b:=by unfold Zkp;split<;>simp_all
 unfold Zpc;by_cases hc:Uk m a b=0;rw[if_neg (λh=>h hc)];rw[hc]at hc2;generalize Zkp m a b=rw0 at *;obtain⟨rws,c0⟩:=rw0;simp only at hc2 hrl hro hA ⊢;subst hc2;cases hz:(TJ rws o).2
 ·simp only[if_true];refine ZF func160 rfl ntmps160 results160 (Zu _) ?_;simp only[go_sem,tr,tg,opv];refine vc5 hR ?_;simp only[go_sem,Znw,Zea];refine Z6 hA ?_ ?_ ?_;iterate 2 simp only[go_sem,Zea,opv]
  simp only[go_sem,opb,opv,hz];try rfl
 ·simp only[Kz,if_false];refine ZF func160 rfl ntmps160 results160 (Zu _) ?_;simp only[go_sem,tr,tg,opv];refine vc5 hR ?_;simp only[go_sem,Znw,Zea];refine Z6 hA ?_ ?_ ?_;iterate 2 simp only[go_sem,Zea,opv]
  simp only[go_sem,opb,opv,hz,ZtR]
 have hc':(Uk m a b !=0)=true:=by simpa using hc
 rw[if_pos hc];refine ZF func160 rfl ntmps160 results160 (Zu _) ?_;simp only[go_sem,tr,tg,opv];refine vc5 hR ?_;simp only[go_sem,Znw,Zea,hc2,hc',opb,Zw];try rfl
def Fm (x:SeenT):PV:= .tup [opv x.o,.bool x.ok,.int .i64 x.c]
theorem V4 (x:SeenT):(Fm x).dids= []:=by simp only[Fm,JS,JM,Ty,Jc]
theorem ZaS {m:List Eg} {a:Tg} (hm:OkM m) (hu:upC m a=0):OkFs (XC (Ze m) a).1:=by
 obtain⟨wa,fa,_⟩:=Wi hu;exact Zj7 _ (λe he=>hm.l e (wa.mem e he)) Zka fa
theorem ZiH (m:List Eg) (o:Opn) (b:Tg) (hm:OkM m) (hr:RightM m) (ho:OkOp o):Pp 120 [tr (Ze m),opv o,tg b] (Fm (toT m o b)):=by
 have hR:=V8 o ho.len;have hSa:=Xy m o.sch hm;have hSb:=Xy m b hm;have hA:=Zfu m o o.sch b hm hr ho;cases h1:XJ o
 ·rw[h1]at hR;have ht:toT m o b=⟨Jd,Hf,5⟩:=by simp[toT,DC,h1]
  rw[ht];refine ZF func120 rfl ntmps120 results120 (V4 _) ?_;simp only[go_sem,tr,tg,opv];refine vc6 hR ?_;simp only[go_sem,Fm,Zw];try rfl
 rw[h1]at hR;by_cases h2:upC m o.sch=0;have okA:=ZaS hm h2;have hF:=Zab (XC (Ze m) o.sch).1 o okA ho.len;have v2:(XC (Ze m) o.sch).2=0:=h2;by_cases h3:upC m b=0;have v3:(XC (Ze m) b).2=0:=h3;cases h4:Zjn (XC (Ze m) o.sch).1 o
 ·rw[h4]at hF;have ht:toT m o b=⟨Jd,Hf,16⟩:=by simp[toT,DC,h1,h2,h3,h4]
  rw[ht];clear ht h4 h2 h3 okA hA;generalize XC (Ze m) o.sch=ya at *;obtain⟨A,ca⟩:=ya;generalize XC (Ze m) b=yb at *;obtain⟨B,cb⟩:=yb;simp only at v2 v3 hF;subst v2 v3;refine ZF func120 rfl ntmps120 results120 (V4 _) ?_;simp only[go_sem,tr,tg,opv];refine vc6 hR ?_;simp only[go_sem];refine vc5 hSa ?_;simp only[go_sem,YF,Zs];refine vc5 hSb ?_;simp only[go_sem,YF,Zs];refine vc6 hF ?_;simp only[go_sem,Fm,Zw];try rfl
 rw[h4]at hF;have ht:toT m o b=⟨(Zpc m o.sch b o).1,(Zpc m o.sch b o).2,0⟩:=by simp[toT,DC,h1,h2,h3,h4]
 rw[ht];clear ht h4 h2 h3 okA;generalize Zpc m o.sch b o=yw at *;obtain⟨wq,wk⟩:=yw;generalize XC (Ze m) o.sch=ya at *;obtain⟨A,ca⟩:=ya;generalize XC (Ze m) b=yb at *;obtain⟨B,cb⟩:=yb;simp only at v2 v3 hF;subst v2 v3;refine ZF func120 rfl ntmps120 results120 (V4 _) ?_;simp only[go_sem,tr,tg,opv];refine vc6 hR ?_;simp only[go_sem];refine vc5 hSa ?_;simp only[go_sem,YF,Zs];refine vc5 hSb ?_;simp only[go_sem,YF,Zs];refine vc6 hF ?_;simp only[go_sem];refine vcn hA ?_;simp only[go_sem,opb,opv,Fm]
 ·have v3:((XC (Ze m) b).2 !=0)=true:=by have h':(XC (Ze m) b).2≠0:=h3;simpa using h'
  have ht:toT m o b=⟨Jd,Hf,(XC (Ze m) b).2⟩:=by
   have e:upC m b=(XC (Ze m) b).2:=rfl;rw[<-e];simp[toT,DC,h1,h2,h3]
  rw[ht];clear ht h2 h3 okA hA;generalize XC (Ze m) o.sch=ya at *;obtain⟨A,ca⟩:=ya;generalize XC (Ze m) b=yb at *;obtain⟨B,cb⟩:=yb;simp only at v2 v3 hF;subst v2;refine ZF func120 rfl ntmps120 results120 (V4 _) ?_;simp only[go_sem,tr,tg,opv];refine vc6 hR ?_;simp only[go_sem];refine vc5 hSa ?_;simp only[go_sem,YF,Zs];refine vc5 hSb ?_;simp only[go_sem,YF,Zs,v3,Fm,Zw];try rfl
 have v2:((XC (Ze m) o.sch).2 !=0)=true:=by have h':(XC (Ze m) o.sch).2≠0:=h2;simpa using h'
 have ht:toT m o b=⟨Jd,Hf,(XC (Ze m) o.sch).2⟩:=by
  have e:upC m o.sch=(XC (Ze m) o.sch).2:=rfl;rw[<-e];simp[toT,DC,h1,h2]
 rw[ht];clear ht h2 hA;generalize XC (Ze m) o.sch=ya at *;obtain⟨A,ca⟩:=ya;simp only at v2;refine ZF func120 rfl ntmps120 results120 (V4 _) ?_;simp only[go_sem,tr,tg,opv];refine vc6 hR ?_;simp only[go_sem];refine vc5 hSa ?_;simp only[go_sem,YF,Zs,v2,Fm,Zw];try rfl
theorem Zes (m:List Eg) (o:Opn) (hm:OkM m) (ho:OkOp o):Pp 118 [tr (Ze m),opv o] (.bool (ZhY m o)):=by
 have hR:=V8 o ho.len;have hSa:=Xy m o.sch hm;unfold ZhY;cases h1:XJ o;rw[h1]at hR;refine Zz func118 rfl ntmps118 results118 ?_;simp only[go_sem,tr,opv];refine vc6 hR ?_;simp only[go_sem,Jr];rw[h1]at hR;by_cases h2:upC m o.sch=0;have hF:=Zab (XC (Ze m) o.sch).1 o (ZaS hm h2) ho.len;rw[decide_eq_true h2];have v2:(XC (Ze m) o.sch).2=0:=h2;generalize XC (Ze m) o.sch=ya at *;obtain⟨A,ca⟩:=ya;simp only at v2 hF;subst v2;refine Zz func118 rfl ntmps118 results118 ?_;simp only[go_sem,tr,opv];refine vc6 hR ?_;simp only[go_sem,tg];refine vc5 hSa ?_;simp only[go_sem,YF,Zs];refine vc6 hF ?_;simp only[go_sem,JH];have v2:((XC (Ze m) o.sch).2==0)=false:=by have h':(XC (Ze m) o.sch).2≠0:=h2;simpa using h'
 rw[decide_eq_false h2];refine Zz func118 rfl ntmps118 results118 ?_;simp only[go_sem,tr,opv];refine vc6 hR ?_;simp only[go_sem,tg];refine vc5 hSa ?_;simp only[go_sem,YF,Zs,v2,Jr,JI]
open Go.PL Go.PL.Srt
def Un (m:List Eg) (l:List Opn):List Opn:=l.filter λo=>ZhY m o
def Vm (l:List Opn) (t:Tg):Bool:=l.any λo=>decide (t∈o.drops)
def Dw (m:List Eg) (l:List Opn):List Opn:=(Un m l).filter λo=> !Vm (Un m l) o.id
def TL (m:List Eg) (l:List Opn):List Opn:=srt Yl (Dw m l)
theorem Fe (m:List Eg) (l:List Opn):(Un m l).Sublist l:=J6
theorem Tk (m:List Eg) (l:List Opn):(Dw m l).Sublist l:=J6.trans (Fe m l)
theorem ZkS {l:List Opn} (h:(l.map Opn.id).Nodup):Unl Yl l:=by
 rw[List.nodup_iff_pairwise_ne,List.pairwise_map]at h;exact h.imp λh=>Zkb h
theorem Zc7 (m:List Eg) (l:List Opn):(TL m l).Perm (Dw m l):=Yx _
theorem SA (m:List Eg) (l:List Opn):(TL m l).length<=l.length:=by rw[(Zc7 m l).length_eq];exact(Tk m l).length_le
theorem Zgk {m:List Eg} {l:List Opn} {o:Opn} (h:o∈TL m l):o∈l:=(Tk m l).mem ((Zc7 m l).mem_iff.1 h)
theorem ZcN (t:Tg):∀(l:List Tg) (i:Nat),findP [.int,.int] [.int .i64 t.r,.int .i64 t.n] (l.map tg) i=Hs ((l.findIdx? λx=>decide (t=x)).map (· + i))
 | [],i=>rfl
 |n::l,i=>by
  have ih:=ZcN t l (i+1);simp only[JD,tg,findP,Zq,VS,if_true,KA,J3,ZD];by_cases h:t=n;simp[h];simp only[h,decide_false,ih];simp only[JN,if_false,KN];congr 2;funext x;simp;omega
theorem X9 (t:Tg) (l:List Tg):findP [.int,.int] [.int .i64 t.r,.int .i64 t.n] (l.map tg) 0=Hs (l.findIdx? λx=>decide (t=x)):=by
 rw[ZcN];congr 1;cases KT (λx=>decide (t=x)) l<;>rfl
theorem Tr {t:Tg} {l:List Tg}:(l.findIdx? λx=>decide (t=x))=none↔t∉l:=by
 rw[JY];constructor;intro h hm;have:=h t hm;simp at this;intro h x hx;simp only[decide_eq_false_iff_not];intro e;exact h (e▸hx)
theorem ZhX (m:List Eg) {l:List Opn} {k:Nat} (h:k<l.length):Un m (l.take (k+1))=Un m (l.take k)++(if ZhY m (l.getD k Jd)=Ht then [l.getD k Jd]else []):=by
 unfold Un;rw[ZI (d:=Jd) h,Jt];congr 1;generalize l.getD k Jd=x;cases hr:ZhY m x;rw[Jk (by rw[hr];simp),if_neg (by simp)];rfl;rw[Jm (by exact hr),if_pos rfl];rfl
structure LivS (m:List Eg) (l:List Opn) where
 k:Nat
 ks:List Tg
 hk:k<=l.length
 h:∀t,t∈ks↔Vm (Un m (l.take k)) t=Ht
def tgm (ks:List Tg):MapC:=⟨ks.map tg,ks.map λ_=> .agg []⟩
theorem Zhx (l:List Opn) (o:Opn) (t:Tg):Vm (l++ [o]) t=Ht↔Vm l t=Ht\/t∈o.drops:=by simp[Vm]
theorem Za4 {i:Nat} {l:List Tg}:(l.map λ_=>KW []).set i (KW [])=l.map λ_=>KW []:=by
 apply JW;simp;intro j h1 h2;rw[Kg];split<;>simp
theorem ZaK (m:List Eg) (l:List Opn) (hm:OkM m) (hl:l.length<=100000) (ho:∀o∈l,OkOp o) (hU:(l.map Opn.id).Nodup):
  Eff prog 64 [tr (Ze m),Zt l] noV (.vsl 63 (TL m l).length 15) (ZfL 63 (TL m l).length 15 48 ((TL m l).map opv)):=by
 have hcl:∀l:List Opn,∀p∈l.map opv,p.ids= []:=λl=>Yo YU l
 refine Eff.vn [63] func64 (by decide) rfl ntmps64 results64 (by simp) (hcl _) (by simp[Jo,tr,Zt]) (by simp[Jo]) ?_;have hlm:l.length<=maxLen:=by rw[Zb];omega
 simp only[go_sem,tr,Zt];intro b;refine Yh 5 32 15 48 rfl rfl ?_;refine YO (ι:=LivS m l) 68 (λx=> [(0,tr (Ze m)),(5,.sl (.row 32) ((Un m (l.take x.k)).map opv)),(6,.mref b),(19,Zt l),(20,.int .i64 (l.length:Int)),(21,.int .i64 (x.k:Int))]) (λ_=> []) (λx=> [(32,.live (Un m (l.take x.k)).length 15 48)]) (λx=> [(b,tgm x.ks)]) (λ_=> []) (λ_=> []) (λ_=> []) [] [] [63] (λx=>l.length-x.k) ⟨0,[],Jg _,λt=>by simp[Vm,Un]⟩
  (ZaD rfl (Fc6 rfl rfl rfl rfl rfl rfl) rfl (by simp[upd,Hp.setq,St.with,tgm])) (λx=>ZgX (Fc6 rfl rfl rfl rfl rfl rfl)) (λx=> ?_)
 obtain⟨k,ks,hk,h⟩:=x;simp only;by_cases hlt:(k:Int)<(l.length:Int);have hka:k<l.length:=by omega
 have i0:=Jb k
 have w1:=wk9 (k:=k) (by omega)
 have hR:=Zes m (l.getD k Jd) hm (ho _ (Zh hka));have hsn:=ZhX m hka;have hrl:(Un m (l.take k)).length<=100000:=JK (JK (Fe _ _).length_le (Jv _ _)) (by omega);cases hrd:ZhY m (l.getD k Jd);rw[hrd]at hR;rw[hrd]at hsn;simp only[JN,if_false,Jc]at hsn;simp only[go_sem,Zt,hlt,ZC hka,opv,i0];refine vc7 hR ?_;simp only[go_sem,w1];exact⟨⟨k+1,ks,by omega,λt=>by rw[hsn];exact h t⟩,nx9 (by omega),ZaD rfl (by simp only;rw[hsn];exact(Fc6 rfl rfl rfl rfl rfl rfl)) (by simp only;rw[hsn];rfl) (by simp[upd,Hp.setq,St.with,mkStX,Ya])⟩;rw[hrd]at hR;rw[hrd]at hsn;simp only[if_true]at hsn;have hrm:=Ym (show(Un m (l.take k)).length+1<=1000000 by omega) (show 176<=1000 by omega);have hdl:=(ho (l.getD k Jd) (Zh hka)).d;generalize hx:l.getD k Jd=x at *;have hsz:=Yb (Un m (l.take k));have hsx:Sized 15 [opv x]:=Yb [x];have hax:YZ [opv x]:=Xr [x];have hml:((Un m (l.take k)).map opv).length=(Un m (l.take k)).length:=Je _;simp only[opv]at hsx hax;simp only[go_sem,Zt,hlt,ZC hka,hx,opv,i0];refine vc7 hR ?_;simp only[go_sem,hml,hrm,hsz,hsx,hax];refine YO (ι:= { jk:Nat×List Tg // jk.1<=x.drops.length/\ ∀t,t∈jk.2↔(Vm (Un m (l.take k)) t=Ht\/t∈x.drops.take jk.1) }) 68 (λy=> [(0,tr (Ze m)),(5,.sl (.row 32) ((Un m (l.take k)++ [x]).map opv)),(6,.mref b),(19,Zt l),(20,.int .i64 (l.length:Int)),(21,.int .i64 (k:Int)),(34,tgs x.drops),(35,.int .i64 (x.drops.length:Int)),(36,.int .i64 (y.1.1:Int))]) (λ_=> []) (λy=> [(32,.live ((Un m (l.take k)).length+1) 15 48)]) (λy=> [(b,tgm y.1.2)]) (λ_=> []) (λ_=> []) (λ_=> []) [] [] [63] (λy=>x.drops.length-y.1.1) ⟨(0,ks),Jg _,λt=>by rw[h t];simp⟩
  (ZaD rfl (by rw[Jf];exact(Fc9 rfl rfl rfl rfl rfl rfl rfl rfl rfl)) rfl (by simp[upd,Hp.setq,St.with,mkStX,Ya])) (λy=>ZgX (Fc9 rfl rfl rfl rfl rfl rfl rfl rfl rfl)) (λy=> ?_)
 obtain⟨⟨j,ks'⟩,hj,h'⟩:=y;simp only at hj h' ⊢;by_cases hjt:(j:Int)<(x.drops.length:Int);have hja:j<x.drops.length:=by omega
 have j0:=Jb j
 have w2:=wk9 (k:=j) (by omega)
 have hmem:∀t,t∈x.drops.take (j+1)↔t∈x.drops.take j\/t=x.drops.getD j Jd:=λt=>by rw[ZI (d:=Jd) hja];simp
 generalize ht:x.drops.getD j Jd=t at *;cases hf:ks'.findIdx? (λy=>decide (t=y))with
 |none=>
  simp only[go_sem,tgs,hjt,ZE hja,ht,tg,j0,tgm,X9,hf,w2];refine⟨⟨(j+1,ks'++ [t]),hja,λu=> ?_⟩,nx9 (by omega),ZaD rfl (Fc9 rfl rfl rfl rfl rfl rfl rfl rfl rfl) rfl (by simp[upd,Hp.setq,St.with,mkStX,Ya,tgm,tg])⟩;rw[hmem,Jp,h',Jj,or_assoc]
 |some i=>
  simp only[go_sem,tgs,hjt,ZE hja,ht,tg,j0,tgm,X9,hf,w2];have hin:t∈ks':=JP.1 λhn=>by rw[Tr.2 hn]at hf;cases hf
  refine⟨⟨(j+1,ks'),hja,λu=> ?_⟩,nx9 (by omega),ZaD rfl (Fc9 rfl rfl rfl rfl rfl rfl rfl rfl rfl) rfl (by simp[upd,Hp.setq,St.with,mkStX,Ya,tgm,Za4])⟩;rw[hmem,<-or_assoc,<-h'];constructor
  ·exact .inl
  ·rintro (e|e)
   ·exact e
   ·rw[e];exact hin
 obtain rfl:j=x.drops.length:=by omega
 rw[JA]at h';simp only[go_sem,hjt,w1];refine⟨⟨k+1,ks',by omega,λt=>by rw[hsn,Zhx];exact h' t⟩,nx9 (by omega),ZaD rfl (by simp only;rw[hsn];exact(Fc6 rfl rfl rfl rfl rfl rfl)) (by simp only;rw[hsn,Ja];rfl) (by simp[upd,Hp.setq,St.with,mkStX,Ya])⟩;obtain rfl:k=l.length:=by omega
 rw[JA]at h;simp only[go_sem,hlt,JA];generalize hrd:Un m l=rd at *;have hrl:rd.length<=100000:=by rw[<-hrd];exact JK (Fe _ _).length_le hl
 have hal:Dw m l=rd.filter λo=> !Vm rd o.id:=by unfold Dw;rw[hrd]
 refine Zhq 11 63 15 48 rfl rfl ?_;refine YO (ι:= { k:Nat // k<=rd.length }) 68 (λy=> [(6,.mref b),(11,.vsl 63 ((rd.take y.1).filter λo=> !Vm rd o.id).length 15),(45,.sl (.row 32) (rd.map opv)),(46,.int .i64 (rd.length:Int)),(47,.int .i64 (y.1:Int))]) (λ_=> []) (λy=> [(63,.vec ((rd.take y.1).filter λo=> !Vm rd o.id).length 15 48),(32,.live rd.length 15 48)]) (λy=> [(b,tgm ks)]) (λ_=> []) (λy=> [(63,((rd.take y.1).filter λo=> !Vm rd o.id).map opv)]) (λ_=> []) [] [] [63] (λy=>rd.length-y.1) ⟨0,Jg _⟩
  (ZbC rfl (Fc5 rfl rfl rfl rfl rfl) rfl rfl rfl (by simp[upd,Hp.setq,St.with,mkStX,Ya,tgm])) (λy=>Zld (by simp[Jo,JV,Zy]) (Z7 YU _)) (λy=> ?_)
 obtain⟨k,hk⟩:=y;simp only;by_cases hlt2:(k:Int)<(rd.length:Int);have hka:k<rd.length:=by omega
 have i0:=Jb k
 have w1:=wk9 (k:=k) (by omega)
 have hsn:(rd.take (k+1)).filter (λo=> !Vm rd o.id)=(rd.take k).filter (λo=> !Vm rd o.id)++(if Vm rd (rd.getD k Jd).id=Ht then []else [rd.getD k Jd]):=by
  rw[ZI (d:=Jd) hka,Jt];congr 1;generalize rd.getD k Jd=x;cases hr:Vm rd x.id;rw[Jm (by rw[hr];rfl),if_neg (by simp)];rfl;rw[Jk (by rw[hr];simp),if_pos rfl];rfl
 have hfl:((rd.take k).filter λo=> !Vm rd o.id).length<=k:=JK (Jh _ _) (Jv _ _);have hrm:=Ym (show((rd.take k).filter λo=> !Vm rd o.id).length+1<=1000000 by omega) (show 176<=1000 by omega);generalize hx:rd.getD k Jd=x at *;generalize hal2:(rd.take k).filter (λo=> !Vm rd o.id)=al at *;have hml:(al.map opv).length=al.length:=Je _;have hai:∀p∈al.map opv,p.ids= []:=hcl al;cases hf:ks.findIdx? (λy=>decide (x.id=y))with
 |none=>
  have hd:Vm rd x.id=false:=by
   rw[JL];exact λhh=>Tr.1 hf ((h _).2 hh)
  rw[hd,if_neg (by simp)]at hsn;simp only[go_sem,Zt,hlt2,ZC hka,hx,opv,i0,tgm,tg,X9,hf,w1,hml,hrm];refine⟨λp hp=>by rw[Jj.1 hp];exact⟨rfl,rfl⟩,λp hp=>by rw[Jj.1 hp];exact YU x,λp hp=> ?_,⟨k+1,by omega⟩,nx9 (by omega),ZbC rfl ?_ ?_ rfl ?_ ?_⟩
  ·rcases Jp.1 hp with hp|hp
   ·rw[hai p hp];simp
   ·rw[Jj.1 hp];simp[Jo,JV]
  ·simp only;rw[hsn,Ja];exact(Fc5 rfl rfl rfl rfl rfl)
  ·simp only;rw[hsn,Ja];rfl
  ·simp only;rw[hsn,Jf];rfl
  ·simp[upd,Hp.setq,St.with,mkStX,Ya,ZlG]
 |some i=>
  have hd:Vm rd x.id=true:=(h _).1 (JP.1 λhn=>by rw[Tr.2 hn]at hf;cases hf);rw[hd,if_pos rfl,Jc]at hsn;have hik:i<ks.length:=(JG.1 hf).1;have hgd:(ks.map λ_=>KW []).getD i .any= .agg []:=by rw[getD_lt (by simpa using hik)];simp
  simp only[go_sem,Zt,hlt2,ZC hka,hx,opv,i0,tgm,tg,X9,hf,w1,hgd];refine⟨⟨k+1,by omega⟩,nx9 (by omega),ZbC rfl ?_ ?_ rfl ?_ ?_⟩
  ·simp only;rw[hsn];exact(Fc5 rfl rfl rfl rfl rfl)
  ·simp only;rw[hsn];rfl
  ·simp only;rw[hsn];rfl
  ·simp[upd,Hp.setq,St.with,mkStX,Ya]
 have htk:rd.take k=rd:=Jn (by omega);have hSS:=TI ops_sort 48 (Dw m l).length (by have:=(Tk m l).length_le;omega) (Dw m l) (ZkS (KB.sublist ((Tk m l).map _) hU)) rfl _ rfl;rw[hal]at hSS;simp only[go_sem,Zt,hlt2,htk];refine Yy 63 hSS (by simp[Jo,JV]) (hcl _) (hcl _) rfl rfl rfl ?_;simp only[go_sem];have hlv:TL m l=srt Yl (rd.filter λo=> !Vm rd o.id):=by unfold TL;rw[hal]
 have hll:(TL m l).length=(rd.filter λo=> !Vm rd o.id).length:=by rw[hlv,Zx]
 rw[hll,hlv];exact ZeO (r0:= .vsl 63 _ 15) (hcl _) rfl (.keep _ (by intro i hi;simp[Jo]at hi;subst hi;exact⟨_,Jj.2 rfl,rfl⟩)) rfl rfl
open Go.PL
open Go.Shelf Go.RowKit Go.Lib Go.Sort
def flatStr:Flat Str where
 p:= .str
 v:=λs=> [.string ⟨⟨s⟩⟩]
 sz:=1
 pos:=by decide
 hp:=λ_=>rfl
 hv:=λ_=>rfl
 to:=λS x j u hj h=>by
  match j,hj with
  |0,_=>cases h;rfl
 of:=λS x j hj=>by
  match j,hj with
  |0,_=>exact .str _
theorem Zsh {w:World} {b o:Nat} {vs:List Value} {e:TypeId} (h:w.heap[b]? = Hs (.cells ⟨vs⟩ e (0,0))) (ho:o<vs.length):w.cell? ⟨b,o,none⟩=Hs (vs.getD o undef):=by
 rw[Y0 h,Kd ho,PL.getD_lt ho]
theorem ZtP (xs:List Str) (j:Nat) (h:j<xs.length):xs.toArray[j]! = xs.getD j Jd:=by
 rw[PL.getD_lt h];simp[h]
theorem ZaV {w:World} {b:Nat} {xs:List Str} {e:TypeId} {vs:List Value} (hw:w.heap[b]? = Hs (.cells ⟨vs⟩ e (0,0))) (hl:xs.length*flatStr.sz<=vs.length)
  (hv:∀i j,i<xs.length->j<flatStr.sz->vs.getD (i*flatStr.sz+j) undef=(flatStr.v (xs.getD i Jd)).getD j undef):Holds encStr w b 0 xs.toArray:=by
 intro j hj;have hj':j<xs.length:=by simpa using hj
 have hl':xs.length<=vs.length:=by simpa[flatStr]using hl
 have h1:=hv j 0 hj' (by decide);simp only[flatStr,K0,Kj,Kv]at h1;rw[Nat.zero_add,ZtP xs j hj'];refine⟨?_,?_⟩;rw[Zsh hw (by omega),h1];simp[World.frozen?,hw]
theorem Zgx {w:World} {b c n lo:Nat} {xs ys rest:List Str} {e:TypeId} {vs:List Value} {os:Array Obj} (hlo:lo<=b) (hc:xs.length<=c) (hw:w.heap[b]? = Hs (.cells ⟨vs⟩ e (0,0))) (hl:xs.length*flatStr.sz<=vs.length) (hy:(ys++rest).length=xs.length):
  GM flatStr (grow (putRow encStr (Sort.ahead w n) b 0 (ys++rest).toArray) os) lo ys (.slice (Hs ⟨b,0,none⟩) ys.length c)/\BelowF (λk=>k<lo) w (grow (putRow encStr (Sort.ahead w n) b 0 (ys++rest).toArray) os):=by
 have hb:b<w.heap.size:=(JO.1 hw).1;have hl':xs.length<=vs.length:=by simpa[flatStr]using hl
 have hyl:ys.length<=xs.length:=by rw[<-hy];simp
 have hs:(grow (putRow encStr (Sort.ahead w n) b 0 (ys++rest).toArray) os).heap=w.heap.modify b (onCells (putCells encStr 0 (ys++rest).toArray))++os:=rfl;have hat:∀k,k<w.heap.size->(grow (putRow encStr (Sort.ahead w n) b 0 (ys++rest).toArray) os).heap[k]? = (w.heap.modify b (onCells (putCells encStr 0 (ys++rest).toArray)))[k]? :=λk hk=>by
  rw[hs,Array.getElem?_append_left (by simpa using hk)]
 refine⟨.inr ⟨b,c,e,(putCells encStr 0 (ys++rest).toArray ⟨vs⟩).toList,hlo,rfl,by omega,?_,?_,λi j hi hj=> ?_⟩,?_⟩;rw[hat b hb,Ko,if_pos rfl,hw];rfl;show ys.length*1<=_;simp only[putCells,Array.length_toList,Array.size_mapIdx,KD];omega;have hj0:j=0:=by have:j<1:=hj;omega
 subst hj0;have hiv:i<vs.length:=by omega
 show(putCells encStr 0 (ys++rest).toArray ⟨vs⟩).toList.getD (i*1+0) undef= [Value.string ⟨⟨ys.getD i Jd⟩⟩].getD 0 undef;simp only[K0,Kj,Kv];rw[PL.getD_lt (by simpa[putCells]using hiv)];simp only[putCells,Array.getElem_toList,Array.getElem_mapIdx];rw[if_pos ⟨Jg _,by simp;omega⟩];simp only[Nat.sub_zero];rw[ZtP (ys++rest) i (by simp;omega),PL.getD_lt (by simp;omega),PL.getD_lt hi,JE hi];refine⟨rfl,rfl,rfl,?_,λk hk=> ?_⟩;rw[hs];simp;have hk':k<lo:=hk;rw[hat k (by omega),Ko,if_neg (by omega)]
def SQ (xs:List Str):List Str:=xs.mergeSort λx y=>decide (x<=y)
theorem Zh2 (xs:List Str) (lo:Nat) (w:World) (v:Value) (hx:xs.length<=1000000) (hr:GM flatStr w lo xs v) (hlo:lo<=w.heap.size):
  Calls prog 123 #[v] w λe w'=>e= .returned (.tuple #[])/\GM flatStr w' lo (SQ xs) v/\BelowF (λk=>k<lo) w w':=by
 rcases hr with ⟨h0,rfl⟩|⟨b,c,e,vs,h1,rfl,h3,h4,h5,h6⟩;obtain rfl:=Kh.1 h0;refine(Any.slices_Sort_string_none Zkx none 0 w).mono λe w' ⟨he,hw⟩=> ?_
 subst hw;exact⟨he,.inl ⟨by simp[SQ],rfl⟩,K1 _ _⟩;have hb:b<w.heap.size:=(JO.1 h4).1;refine(Any.slices_Sort_string Zkx b 0 c xs w (ZaV h4 h5 h6) hb (by omega)).mono λe w' ⟨he,n,os,hw⟩=>⟨he,?_⟩
 have hly:(SQ xs++ []).length=xs.length:=by simp[SQ]
 have hrs:=Zgx (ys:=SQ xs) (rest:= []) (n:=n) (os:=os) h1 h3 h4 h5 hly;rw[Jc]at hrs hly;rw[hly]at hrs;rw[hw];exact hrs
theorem Ud (xs:List Str):(Lib.compact xs).length<=xs.length:=by
 unfold Lib.compact Lib.compactUpTo;rw[Je];exact JK (Jh _ _) (by simp)
theorem Zhu (xs:List Str) (lo:Nat) (w:World) (v:Value) (hx:xs.length<=1000000) (hr:GM flatStr w lo xs v):
  Calls prog 124 #[v] w λe w'=>∃u,e= .returned u/\GM flatStr w' lo (Lib.compact xs) u/\BelowF (λk=>k<lo) w w':=by
 rcases hr with ⟨h0,rfl⟩|⟨b,c,e,vs,h1,rfl,h3,h4,h5,h6⟩;obtain rfl:=Kh.1 h0;refine(Any.slices_Compact_string_empty Zja none 0 w).mono λe w' ⟨he,hw⟩=> ?_
 subst hw;exact⟨_,he,.inl ⟨by have:=Ud [];simpa using this,rfl⟩,K1 _ _⟩;refine(Any.slices_Compact_string Zja b 0 c xs w (ZaV h4 h5 h6) (by omega) h3).mono λe w' ⟨he,n,hw⟩=>⟨_,he,?_⟩
 have hcl:=Ud xs;have hrs:=Zgx (ys:=Lib.compact xs) (rest:=List.replicate (xs.length-(Lib.compact xs).length) []) (n:=n) (os:= #[]) h1 h3 h4 h5 (by simp;omega);have hg:∀W:World,grow W #[]=W:=λW=>by simp[grow]
 rw[hg]at hrs;rw[hw];exact hrs
def Xc (l:List Opn) (c:Str):List Str:=(l.filter λo=>o.kind==1&&o.cart==c).map Opn.item
def GT (l:List Opn) (c:Str):List Str:=Lib.compact (SQ (Xc l c))
theorem Ze6 {l:List Opn} {k:Nat} (c:Str) (h:k<l.length):Xc (l.take (k+1)) c=Xc (l.take k) c++(if((l.getD k Jd).kind==1&&(l.getD k Jd).cart==c)=Ht then [(l.getD k Jd).item]else []):=by
 unfold Xc;rw[ZI (d:=Jd) h,Jt,Jf];congr 1;generalize l.getD k Jd=x;cases hr:(x.kind==1&&x.cart==c);rw[Jk (by rw[hr];simp),if_neg (by simp)];rfl;rw[Jm (by exact hr),if_pos rfl];rfl
theorem Tv (l:List Opn) (c:Str):(Xc l c).length<=l.length:=by unfold Xc;rw[Je];exact Jh _ _
theorem Za5 (l:List Str):Sized 1 (l.map .str):=λe he=>by
 obtain⟨o,_,rfl⟩:=Jq.1 he;rfl
theorem ZhL (l:List Opn) (ct:Str) (hl:l.length<=100000) {c:Code} (hc:f69.body=Hs c):ZnI prog (λs=>s.n=33/\s.fr 5= .sl (.row 27) ((Xc l ct).map .str)/\s.m.q 27=Hs (.live (Xc l ct).length 1 9)) 3 c (St.init [Zt l,.str ct] 33):=by
 cases hc;have hlm:l.length<=maxLen:=by rw[Zb];omega
 refine WI ?_;simp only[go_sem];refine WI ?_;simp only[go_sem];refine WI ?_;simp only[go_sem,Zt];refine Yh 5 27 1 9 rfl rfl ?_;refine Zr (ι:= { x:Nat // x<=(l).length }) 33 (λx=> [(1,.str ct),(5,.sl (.row 27) ((Xc (l.take x.1) ct).map .str)),(8,Zt l),(9,.int .i64 (l.length:Int)),(10,.int .i64 (x.1:Int))]) (λx=> []) (λx=> [(27,.live ((Xc (l.take x.1) ct).length) (1) (9))]) (λx=>(l).length-x.1) ⟨0,Jg _⟩ ⟨rfl,(Fc5 rfl rfl rfl rfl rfl),fnl,(fcs rfl fnl)⟩ (λx=>⟨(Fc5 rfl (by simp[Jo,Zy]) rfl rfl rfl),fnl⟩) (λx=> ?_);obtain⟨k,hk⟩:=x;simp only at hk ⊢;by_cases h:(k:Int)<(l.length:Int)
 (have hka:k<(l).length:=by omega);(have w1:=We hka (hlm));(have i1:=Jb k)
 have hsn:=Ze6 ct hka;have hnl:=Tv (l.take k) ct;have htl:(l.take k).length<=k:=Jv _ _;have hrm:=Ym (show(Xc (l.take k) ct).length+1<=1000000 by omega) (show 16<=1000 by omega);have hml:((Xc (l.take k) ct).map K3).length=(Xc (l.take k) ct).length:=Je _;have hsz:=Za5 (Xc (l.take k) ct);generalize hx:l.getD k Jd=x at *;cases k1:(x.kind==1);rw[k1,Jr,if_neg (by simp),Jc]at hsn;simp only[go_sem,Zt,h,ZC hka,hx,opv,i1,k1,w1];exact⟨⟨k+1,by omega⟩,nx9 (by omega),⟨rfl,by simp only;rw[hsn];exact(Fc5 rfl rfl rfl rfl rfl),fnl,by simp only;rw[hsn];exact fcs rfl fnl⟩⟩;cases k2:(x.cart==ct);rw[k1,k2,JI,if_neg (by simp),Jc]at hsn;simp only[go_sem,Zt,h,ZC hka,hx,opv,i1,k1,k2,w1];exact⟨⟨k+1,by omega⟩,nx9 (by omega),⟨rfl,by simp only;rw[hsn];exact(Fc5 rfl rfl rfl rfl rfl),fnl,by simp only;rw[hsn];exact fcs rfl fnl⟩⟩;rw[k1,k2,Jz,if_pos rfl]at hsn;simp only[go_sem,Zt,h,ZC hka,hx,opv,i1,k1,k2,w1,hml,hsz,hrm];exact⟨⟨k+1,by omega⟩,nx9 (by omega),⟨rfl,by simp only;rw[hsn,Jf];exact(Fc5 rfl rfl rfl rfl rfl),fnl,by simp only;rw[hsn,Ja];exact fcs rfl fnl⟩⟩;have htk:l.take k=l:=Jn (by omega);simp only[go_sem,Zt,h,htk];exact⟨rfl,rfl,rfl⟩
theorem ZhK (l:List Opn) (ct:Str) (hl:l.length<=100000):Pp 69 [Zt l,.str ct] (.sl .no ((GT l ct).map .str)):=by
 have hnl:=Tv l ct;refine PL.Pure.tail flatStr (k:=3) (i:=5) (d:=27) (N:=33) (G:=λxs=>xs=Xc l ct) (g:=λxs=>Lib.compact (SQ xs)) func69 (by decide) rfl (by show 2<=33;decide) (by simp only[JS,XS]) (ZhL l ct hl rfl) (λs ⟨h2,h3,h4⟩=>⟨Xc l ct,_,rfl,h2,h3,h4⟩) ?_ (λxs h=>by rw[h];rfl);intro xs lo a w hG hd hN hr hlo;subst hG;have hcall:=Zh2 _ lo w _ (by omega) hr hlo;refine Zd9 (N:=33) hN (by decide) (by decide) (by decide) (by decide) (by decide) (by decide) (by decide) func123 (by decide) (by intro h;cases h) func124 (by decide) (by intro h;cases h) ?_;refine hcall.mono λe w' ⟨he,h1,h2⟩=>⟨_,he,?_⟩
 refine(Zhu _ lo w' _ (by simp[SQ];omega) h1).mono λe w'' ⟨u,he,h3,h4⟩=>⟨u,he,λa' hd' hr'=>⟨.inr rfl,by rw[hd',hd],?_⟩⟩
 exact⟨a'.tmps.getD 4 undef,Go.results_tmp rfl _ _ _,by rw[hr'];exact h3,h2.trans h4⟩
open Go.PL
def ZmE (a b:Int):PV:=if Wx a=Ht/\Wx b=Ht then .tup [.cpx .f64 (X1 a) (X1 b),.int .i64 0]else .tup [.cpx .f64 0 0,.int .i64 3]
theorem Zjo:X1 0=0:=by decide+kernel
theorem ZiE (a b c d:Int) (ha:Lim a) (hb:Lim b) (hc:Lim c) (hd:Lim d):Pp 162 [.cpx .f64 (X1 a) (X1 b),.cpx .f64 (X1 c) (X1 d)] (ZmE (a+c) (b+d)):=by
 have hW1:=Ga a b ha hb;have hW2:=Ga c d hc hd;have hP1:=Ti a b ha hb;have hP2:=Ti c d hc hd;have hO:=Zeg (a+c) (b+d);have w1:IntKind.i64.wrap (a+c)=a+c:=w64 (by obtain⟨_,_⟩:=ha;obtain⟨_,_⟩:=hc;omega);have w2:IntKind.i64.wrap (b+d)=b+d:=w64 (by obtain⟨_,_⟩:=hb;obtain⟨_,_⟩:=hd;omega);unfold ZmE;generalize Wx (a+c)=x at *;generalize Wx (b+d)=y at *;by_cases h:x=Ht/\y=Ht;rw[if_pos h]at hO ⊢;refine Zz func162 rfl ntmps162 results162 ?_;simp only[go_sem];refine vc1 hW1 ?_;simp only[go_sem];refine vc1 hW2 ?_;simp only[go_sem];refine vc1 hP1 ?_;simp only[go_sem];refine vc1 hP2 ?_;simp only[go_sem,w1,w2];refine vc1 hO ?_;simp only[go_sem];rw[if_neg h]at hO ⊢;refine Zz func162 rfl ntmps162 results162 ?_;simp only[go_sem];refine vc1 hW1 ?_;simp only[go_sem];refine vc1 hW2 ?_;simp only[go_sem];refine vc1 hP1 ?_;simp only[go_sem];refine vc1 hP2 ?_;simp only[go_sem,w1,w2];refine vc1 hO ?_;simp only[go_sem]
def GD (s:Int) (o:Opn):Int:=if o.kind=3/\Wx o.delta=Ht/\Wx (s+o.delta)=Ht then s+o.delta else s
def Zm4 (l:List Opn):Int:=l.foldl GD 0
theorem ZkI {s:Int} {o:Opn} (h:Lim s):Lim (GD s o):=by
 unfold GD;split;rename_i h2;exact Su.1 h2.2.2;exact h
theorem Zb1:∀(l:List Opn) {s:Int},Lim s->Lim (l.foldl GD s)
 | [],s,h=>h
 |o::l,s,h=>Zb1 l (ZkI h)
theorem Zp1:Lim 0:=by unfold Lim;omega
theorem ZkP {l:List Opn} {k:Nat} (h:k<l.length):Zm4 (l.take (k+1))=GD (Zm4 (l.take k)) (l.getD k Jd):=by
 unfold Zm4;rw[ZI (d:=Jd) h,KE];rfl
theorem Zid (l:List Opn) (hl:l.length<=maxLen):Pp 122 [Zt l] (.int .i64 (Zm4 l)):=by
 have f0:Wx 0=true:=by decide
 have hP:=Ti (Zm4 l) 0 (Zb1 l Zp1) Zp1;have hl2:=hl;rw[Zb]at hl2;refine Zz func122 rfl ntmps122 results122 ?_;simp only[go_sem,Zt];refine Zr (ι:= { k:Nat // k<=l.length }) 47 (λx=> [(3,.cpx .f64 (X1 (Zm4 (l.take x.1))) (X1 0)),(13,Zt l),(14,.int .i64 (l.length:Int)),(15,.int .i64 (x.1:Int))]) (λx=> []) (λx=> []) (λx=>l.length-x.1) ⟨0,Jg _⟩
  ⟨rfl,Fc4 (by show PV.cpx .f64 0 0=PV.cpx .f64 (X1 0) (X1 0);rw[Zjo]) rfl rfl rfl,fnl,fnl⟩ (λx=>⟨(Fc4 rfl rfl rfl rfl),fnl⟩) (λx=> ?_)
 obtain⟨k,hk⟩:=x;simp only;by_cases h:(k:Int)<(l.length:Int);have hka:k<l.length:=by omega
 have i1:=Jb k
 have w1:=wk9 (k:=k) (by omega)
 have hsn:=ZkP hka;have hs:Lim (Zm4 (l.take k)):=Zb1 _ Zp1;generalize Zm4 (l.take k)=s at *;generalize hx:l.getD k Jd=x at *;by_cases k3:x.kind=3;have e3:(x.kind !=3)=false:=by simpa using k3
 have hO:=Zeg x.delta 0;cases f1:Wx x.delta;rw[f1]at hO;have hz:GD s x=s:=by unfold GD;rw[if_neg (by rw[f1];simp)]
 rw[hz]at hsn;simp only[JN,false_and,if_false]at hO;simp only[go_sem,Zt,h,ZC hka,hx,opv,i1,e3];refine vc1 hO ?_;simp only[go_sem,w1];exact⟨⟨k+1,by omega⟩,nx9 (by omega),⟨rfl,Fc4 (by simp only;rw[hsn];rfl) rfl rfl rfl,fnl,fnl⟩⟩;have hd:Lim x.delta:=Su.1 f1;rw[f1,f0]at hO;simp only[and_self,if_true]at hO;have hPl:=ZiE s 0 x.delta 0 hs Zp1 hd Zp1;cases f2:Wx (s+x.delta);have hz:GD s x=s:=by unfold GD;rw[if_neg (by rw[f2];simp)]
 rw[hz]at hsn;unfold ZmE at hPl;rw[f2]at hPl;simp only[JN,false_and,if_false]at hPl;simp only[go_sem,Zt,h,ZC hka,hx,opv,i1,e3];refine vc1 hO ?_;simp only[go_sem];refine vc1 hPl ?_;simp only[go_sem,w1];exact⟨⟨k+1,by omega⟩,nx9 (by omega),⟨rfl,Fc4 (by simp only;rw[hsn];rfl) rfl rfl rfl,fnl,fnl⟩⟩;have hz:GD s x=s+x.delta:=by unfold GD;rw[if_pos ⟨k3,f1,f2⟩]
 rw[hz]at hsn;unfold ZmE at hPl;rw[f2,show Wx (0+0)=Ht by decide]at hPl;simp only[and_self,if_true,Int.zero_add]at hPl;simp only[go_sem,Zt,h,ZC hka,hx,opv,i1,e3];refine vc1 hO ?_;simp only[go_sem];refine vc1 hPl ?_;simp only[go_sem,w1];exact⟨⟨k+1,by omega⟩,nx9 (by omega),⟨rfl,Fc4 (by simp only;rw[hsn];rfl) rfl rfl rfl,fnl,fnl⟩⟩;have e3:(x.kind !=3)=true:=by simpa using k3
 have hz:GD s x=s:=by unfold GD;rw[if_neg (λhh=>k3 hh.1)]
 rw[hz]at hsn;simp only[go_sem,Zt,h,ZC hka,hx,opv,i1,e3,w1];exact⟨⟨k+1,by omega⟩,nx9 (by omega),⟨rfl,Fc4 (by simp only;rw[hsn];rfl) rfl rfl rfl,fnl,fnl⟩⟩;have htk:l.take k=l:=Jn (by omega);simp only[go_sem,Zt,h,htk];refine vc1 hP ?_;simp only[go_sem]
def YE (l:List Opn):List Str:=(l.filter λo=>o.kind==4&&o.has).map Opn.text
theorem Zfv {l:List Opn} {k:Nat} (h:k<l.length):YE (l.take (k+1))=YE (l.take k)++(if((l.getD k Jd).kind==4&&(l.getD k Jd).has)=Ht then [(l.getD k Jd).text]else []):=by
 unfold YE;rw[ZI (d:=Jd) h,Jt,Jf];congr 1;generalize l.getD k Jd=x;cases hr:(x.kind==4&&x.has);rw[Jk (by rw[hr];simp),if_neg (by simp)];rfl;rw[Jm (by exact hr),if_pos rfl];rfl
theorem GG (l:List Opn):(YE l).length<=l.length:=by unfold YE;rw[Je];exact Jh _ _
def ZgU (f:Fd) (ops:List Opn):En:=
 if f.kind=1 then⟨f.at',Zm4 ops,(Te f).l⟩
 else⟨f.at',0,if f.kind=4 then YE ops else if(YE ops).length=0 then(Te f).l else [(YE ops).getD ((YE ops).length-1) []]⟩
theorem Zil (f:Fd) (l:List Opn) (hl:l.length<=100000):Pp 68 [fld f,Zt l] (ent (ZgU f l)):=by
 have hV:=Zhl f;have hlm:l.length<=maxLen:=by rw[Zb];omega
 have hT:=Zid l hlm;have hva:(Te f).at'=f.at':=rfl;have hvn:(Te f).n=0:=rfl;unfold ZgU;generalize Te f=v at *;obtain⟨va,vn,vl⟩:=v;simp only at hva hvn;subst hva hvn;by_cases k1:f.kind=1;have e1:(f.kind==1)=true:=by simpa using k1
 rw[if_pos k1];refine ZF func68 rfl ntmps68 results68 (WF _) ?_;simp only[go_sem,fld,Zt];refine vc2 hV ?_;simp only[go_sem,ent,e1];refine vc7 hT ?_;simp only[go_sem,ent];have e1:(f.kind==1)=false:=by simpa using k1
 rw[if_neg k1];refine ZF func68 rfl ntmps68 results68 (WF _) ?_;simp only[go_sem,fld,Zt];refine vc2 hV ?_;simp only[go_sem,ent,e1];refine Yh 6 35 1 9 rfl rfl ?_;refine Zr (ι:= { x:Nat // x<=(l).length }) 56 (λx=> [(2,.ptr 2 0),(4,.ptr 4 0),(5,.ptr 5 0),(6,.sl (.row 35) ((YE (l.take x.1)).map .str)),(18,Zt l),(19,.int .i64 (l.length:Int)),(20,.int .i64 (x.1:Int))]) (λx=> [(2,[.int .i64 f.at'.sc,.str f.at'.gr,.str f.at'.nm,.int .i64 f.kind,.str f.df,.sl .no (f.cases'.map .str),.int .i64 f.worth],Hf),(4,[.int .i64 0,.str [],.str [],.int .i64 0,.sl .nil []],Hf),(5,[.int .i64 f.at'.sc,.str f.at'.gr,.str f.at'.nm,.int .i64 0,.sl .no (vl.map .str)],Hf)]) (λx=> [(35,.live ((YE (l.take x.1)).length) (1) (9))]) (λx=>(l).length-x.1) ⟨0,Jg _⟩ ⟨rfl,(Fc7 rfl rfl rfl rfl rfl rfl rfl),(Fc3 ⟨rfl,rfl⟩ ⟨rfl,rfl⟩ ⟨rfl,rfl⟩),(fcs rfl fnl)⟩ (λx=>⟨(Fc7 rfl rfl rfl (by simp[Jo,Zy]) rfl rfl rfl),(Fc3 rfl rfl rfl)⟩) (λx=> ?_);obtain⟨k,hk⟩:=x;simp only at hk ⊢;by_cases h:(k:Int)<(l.length:Int)
 (have hka:k<(l).length:=by omega);(have w1:=We hka (hlm));(have i1:=Jb k)
 have hsn:=Zfv hka;have hnl:=GG (l.take k);have htl:(l.take k).length<=k:=Jv _ _;have hrm:=Ym (show(YE (l.take k)).length+1<=1000000 by omega) (show 16<=1000 by omega);have hml:((YE (l.take k)).map K3).length=(YE (l.take k)).length:=Je _;have hsz:=Za5 (YE (l.take k));generalize hx:l.getD k Jd=x at *;cases k1:(x.kind==4);rw[k1,Jr,if_neg (by simp),Jc]at hsn;simp only[go_sem,Zt,h,ZC hka,hx,opv,i1,k1,w1];exact⟨⟨k+1,by omega⟩,nx9 (by omega),⟨rfl,by simp only;rw[hsn];exact(Fc7 rfl rfl rfl rfl rfl rfl rfl),(Fc3 ⟨rfl,rfl⟩ ⟨rfl,rfl⟩ ⟨rfl,rfl⟩),by simp only;rw[hsn];exact fcs rfl fnl⟩⟩;cases k2:x.has;rw[k1,k2,JI,if_neg (by simp),Jc]at hsn;simp only[go_sem,Zt,h,ZC hka,hx,opv,i1,k1,k2,w1];exact⟨⟨k+1,by omega⟩,nx9 (by omega),⟨rfl,by simp only;rw[hsn];exact(Fc7 rfl rfl rfl rfl rfl rfl rfl),(Fc3 ⟨rfl,rfl⟩ ⟨rfl,rfl⟩ ⟨rfl,rfl⟩),by simp only;rw[hsn];exact fcs rfl fnl⟩⟩;rw[k1,k2,Jz,if_pos rfl]at hsn;simp only[go_sem,Zt,h,ZC hka,hx,opv,i1,k1,k2,w1,hml,hsz,hrm];exact⟨⟨k+1,by omega⟩,nx9 (by omega),⟨rfl,by simp only;rw[hsn,Jf];exact(Fc7 rfl rfl rfl rfl rfl rfl rfl),(Fc3 ⟨rfl,rfl⟩ ⟨rfl,rfl⟩ ⟨rfl,rfl⟩),by simp only;rw[hsn,Ja];exact fcs rfl fnl⟩⟩;have htk:l.take k=l:=Jn (by omega);rw[htk];have hnl:=GG l;by_cases k4:f.kind=4;have e4:(f.kind==4)=true:=by simpa using k4
 rw[if_pos k4];simp only[go_sem,Zt,h,e4,ent];have e4:(f.kind==4)=false:=by simpa using k4
 rw[if_neg k4];have hml:((YE l).map K3).length=(YE l).length:=Je _;by_cases k5:(YE l).length=0;have e5:¬(0:Int)<((YE l).length:Int):=by omega
 rw[if_pos k5];simp only[go_sem,Zt,h,e4,ent,hml,e5];have e5:(0:Int)<((YE l).length:Int):=by omega
 have w5:IntKind.i64.wrap (((YE l).length:Int)-1)=(((YE l).length-1:Nat):Int):=by rw[w64 (by omega)];omega
 have hlt:(YE l).length-1<(YE l).length:=by omega
 have b5:(0:Int)<=(((YE l).length-1:Nat):Int)/\(((YE l).length-1:Nat):Int)<((YE l).length:Int):=by omega
 rw[if_neg k5];simp only[go_sem,Zt,h,e4,ent,hml,e5,w5,b5.1,b5.2,ZP hlt]
open Go.PL Go.PL.Srt
theorem Zg1 (m:List Eg) (l:List Opn) (hm:OkM m) (hl:l.length<=100000) (ho:∀o∈l,OkOp o) (hU:(l.map Opn.id).Nodup):Pp 37 [tr (Ze m),Zt l] (Zt (TL m l)):=by
 have hcl:∀l:List Opn,∀p∈l.map opv,p.ids= []:=λl=>Yo YU l
 have hL:=ZaK m l hm hl ho hU;have hll:=SA m l;have hlo:∀o∈TL m l,OkOp o:=λo h=>ho o (Zgk h)
 generalize TL m l=A at *;refine PL.Pure.of_p [] func37 (by decide) rfl ntmps37 results37 (by simp) (Wn _) ?_;simp only[go_sem,tr,Zt];refine Dm 10 hL (hcl _) (by simp[Jo,tr,Zt]) rfl rfl ?_;simp only[go_sem,K4,id];refine YO (ι:= { k:Nat // k<=A.length }) 25 (λx=> [(5,.vsl 10 A.length 15),(11,.vsl 10 A.length 15),(12,.int .i64 (A.length:Int)),(13,.int .i64 (x.1:Int))]) (λ_=> []) (λ_=> [(10,.vec A.length 15 48)]) (λ_=> []) (λ_=> []) (λ_=> [(10,A.map opv)]) (λ_=> []) [] [] [] (λx=>A.length-x.1) ⟨0,Jg _⟩
  (ZbB rfl (Fc4 rfl rfl rfl rfl) rfl rfl) (λx=>Zd8 (by simp[Jo,JV,Zy]) (Z7 YU _)) (λx=> ?_)
 obtain⟨k,hk⟩:=x;simp only;by_cases h:(k:Int)<(A.length:Int);have hka:k<A.length:=by omega
 have i0:=Jb k
 have w1:=wk9 (k:=k) (by omega)
 have hO:=Sa (A.getD k Jd) (hlo _ (Zh hka));have hset:(A.map opv).set k (opv (A.getD k Jd))=A.map opv:=by
  rw[Up];congr 1;rw[getD_lt hka];exact Kq hka
 simp only[opv]at hset;simp only[go_sem,h,i0,ZC hka,opv];refine vc6 hO ?_;simp only[go_sem,h,i0,ZC hka,opv,hset,w1];exact⟨⟨k+1,by omega⟩,nx9 (by omega),ZbB rfl (Fc4 rfl rfl rfl rfl) rfl rfl⟩;simp only[go_sem,h];exact⟨_,rfl,K7 (by simp) rfl (Je _) (hcl _)⟩
def V3 (m:List Eg) (l:List Opn) (b:Tg):List Opn:=(l.filter λo=>(toT m o b).c==0&&(toT m o b).ok).map λo=>(toT m o b).o
theorem Zh1 (m:List Eg) {l:List Opn} (b:Tg) {k:Nat} (h:k<l.length):V3 m (l.take (k+1)) b=V3 m (l.take k) b++(if((toT m (l.getD k Jd) b).c==0&&(toT m (l.getD k Jd) b).ok)=Ht then [(toT m (l.getD k Jd) b).o]else []):=by
 unfold V3;rw[ZI (d:=Jd) h,Jt,Jf];congr 1;generalize l.getD k Jd=x;cases hr:((toT m x b).c==0&&(toT m x b).ok);rw[Jk (by rw[hr];simp),if_neg (by simp)];rfl;rw[Jm (by exact hr),if_pos rfl];rfl
theorem SO (m:List Eg) (l:List Opn) (b:Tg):(V3 m l b).length<=l.length:=by unfold V3;rw[Je];exact Jh _ _
theorem Zhk (m:List Eg) (l:List Opn) (b:Tg) (hm:OkM m) (hr:RightM m) (hl:l.length<=100000) (ho:∀o∈l,OkOp o):Pp 65 [tr (Ze m),Zt l,tg b] (Zt (V3 m l b)):=by
 have hlm:l.length<=maxLen:=by rw[Zb];omega
 refine ZF func65 rfl ntmps65 results65 (Wn _) ?_;simp only[go_sem,tr,Zt,tg];refine Yh 7 35 15 48 rfl rfl ?_;refine Zr (ι:= { x:Nat // x<=(l).length }) 38 (λx=> [(0,tr (Ze m)),(5,.ptr 5 0),(7,.sl (.row 35) ((V3 m (l.take x.1) b).map opv)),(13,Zt l),(14,.int .i64 (l.length:Int)),(15,.int .i64 (x.1:Int))]) (λx=> [(5,[.int .i64 b.r,.int .i64 b.n],Hf)]) (λx=> [(35,.live ((V3 m (l.take x.1) b).length) (15) (48))]) (λx=>(l).length-x.1) ⟨0,Jg _⟩ ⟨rfl,(Fc6 rfl rfl rfl rfl rfl rfl),(fcs ⟨rfl,rfl⟩ fnl),(fcs rfl fnl)⟩ (λx=>⟨(Fc6 rfl rfl (by simp[Jo,Zy]) rfl rfl rfl),(fcs rfl fnl)⟩) (λx=> ?_);obtain⟨k,hk⟩:=x;simp only at hk ⊢;by_cases h:(k:Int)<(l.length:Int)
 (have hka:k<(l).length:=by omega);(have w1:=We hka (hlm));(have i1:=Jb k)
 have hT:=ZiH m (l.getD k Jd) b hm hr (ho _ (Zh hka));have hsn:=Zh1 m b hka;have hsl:=SO m (l.take k) b;have htl:(l.take k).length<=k:=Jv _ _;have hrm:=Ym (show(V3 m (l.take k) b).length+1<=1000000 by omega) (show 176<=1000 by omega);have hml:((V3 m (l.take k) b).map opv).length=(V3 m (l.take k) b).length:=Je _;have hsz:=Yb (V3 m (l.take k) b);generalize toT m (l.getD k Jd) b=y at *;obtain⟨yo,yk,yc⟩:=y;have hsx:Sized 15 [opv yo]:=Yb [yo];have hax:YZ [opv yo]:=Xr [yo];generalize hx:l.getD k Jd=x at *;simp only at hsn;simp only[opv]at hsx hax;cases k1:(yc==0);rw[k1,Jr,if_neg (by simp),Jc]at hsn;simp only[go_sem,Zt,h,ZC hka,hx,opv,i1];refine vc7 hT ?_;simp only[go_sem,Fm,opv,k1,w1];exact⟨⟨k+1,by omega⟩,nx9 (by omega),⟨rfl,by simp only;rw[hsn];exact(Fc6 rfl rfl rfl rfl rfl rfl),fcs ⟨rfl,rfl⟩ fnl,by simp only;rw[hsn];exact fcs rfl fnl⟩⟩;cases yk;rw[k1,JI,if_neg (by simp),Jc]at hsn;simp only[go_sem,Zt,h,ZC hka,hx,opv,i1];refine vc7 hT ?_;simp only[go_sem,Fm,opv,k1,w1];exact⟨⟨k+1,by omega⟩,nx9 (by omega),⟨rfl,by simp only;rw[hsn];exact(Fc6 rfl rfl rfl rfl rfl rfl),fcs ⟨rfl,rfl⟩ fnl,by simp only;rw[hsn];exact fcs rfl fnl⟩⟩;rw[k1,Jz,if_pos rfl]at hsn;simp only[go_sem,Zt,h,ZC hka,hx,opv,i1];refine vc7 hT ?_;simp only[go_sem,Fm,opv,k1,w1,hml,hsz,hrm,hsx,hax];exact⟨⟨k+1,by omega⟩,nx9 (by omega),⟨rfl,by simp only;rw[hsn,Jf];exact(Fc6 rfl rfl rfl rfl rfl rfl),fcs ⟨rfl,rfl⟩ fnl,by simp only;rw[hsn,Ja];exact fcs rfl fnl⟩⟩;have htk:l.take k=l:=Jn (by omega);simp only[go_sem,Zt,h,htk]
open Go.PL Go.PL.Srt
structure Sp where
 item:Str
 at':Rf
 deriving DecidableEq,Inhabited
def spv (s:Sp):PV:= .agg [.str s.item,.int .i64 s.at'.sc,.str s.at'.gr,.str s.at'.nm]
def spO (o:Opn):Sp:=⟨o.item,o.at'⟩
def Z2 (seen:List Opn) (s:Sp):List Opn:=seen.filter λo=>decide (spO o=s)
theorem Zow (a b:Sp):(a.item==b.item&&(a.at'.sc==b.at'.sc&&(a.at'.gr==b.at'.gr&&a.at'.nm==b.at'.nm)))=decide (a=b):=by
 obtain⟨i1,r1⟩:=a;obtain⟨i2,r2⟩:=b;cases r1;cases r2;rw[J5];simp
theorem ZcM (s:Sp):∀(l:List Sp) (i:Nat),findP [.str,.int,.str,.str] [.str s.item,.int .i64 s.at'.sc,.str s.at'.gr,.str s.at'.nm] (l.map spv) i=Hs ((l.findIdx? λx=>decide (s=x)).map (· + i))
 | [],i=>rfl
 |n::l,i=>by
  have ih:=ZcM s l (i+1);simp only[JD,spv,findP,Zq,VS,if_true,KA,J3,Zow];by_cases h:s=n;simp[h];simp only[h,decide_false,ih];simp only[JN,if_false,KN];congr 2;funext x;simp;omega
theorem Zau (s:Sp) (l:List Sp):findP [.str,.int,.str,.str] [.str s.item,.int .i64 s.at'.sc,.str s.at'.gr,.str s.at'.nm] (l.map spv) 0=Hs (l.findIdx? λx=>decide (s=x)):=by
 rw[ZcM];congr 1;cases KT (λx=>decide (s=x)) l<;>rfl
theorem Zgc {t:Sp} {l:List Sp}:(l.findIdx? λx=>decide (t=x))=none↔t∉l:=by
 rw[JY];constructor;intro h hm;have:=h t hm;simp at this;intro h x hx;simp only[decide_eq_false_iff_not];intro e;exact h (e▸hx)
theorem ZjD {t:Sp} {l:List Sp} {i:Nat} (h:(l.findIdx? λx=>decide (t=x))=Hs i):i<l.length/\l.getD i Jd=t:=by
 obtain⟨h1,h2,_⟩:=JG.1 h;exact⟨h1,by rw[getD_lt h1];exact(of_decide_eq_true h2).symm⟩
theorem Zbc {seen:List Opn} {s:Sp} (h:¬ ∃o∈seen,spO o=s):Z2 seen s= []:=by
 unfold Z2;rw[Kk];intro o ho hd;exact h ⟨o,ho,of_decide_eq_true hd⟩
theorem Fv (seen:List Opn) (s:Sp):(Z2 seen s).length<=seen.length:=Jh _ _
def G1 (F:List Fd) (seen:List Opn) (sc:Int) (item:Str):List En:=(YG F sc).map λf=>ZgU f (Z2 seen ⟨item,f.at'⟩)
theorem Zjl (F:List Fd) (seen:List Opn) (ks:List Sp) (sc:Int) (item:Str) (hF:OkFs F) (hs:seen.length<=100000) (hks:∀s,s∈ks↔ ∃o∈seen,spO o=s):
  Pp 66 [.int .i64 sc,.str item,.rptr [Zs F],.rptr [.rmap (ks.map spv) (ks.map λs=>Zt (Z2 seen s))]] (Ys (G1 F seen sc item)):=by
 have hFn:=hF.n;have hSc:=S7 F sc (by omega) hF.c;have hscl:(YG F sc).length<=F.length:=Jh _ _;unfold G1;generalize hA:YG F sc=A at *;have hAm:A.length<=maxLen:=by rw[Zb];omega
 have hV:∀f s,Pp 68 [fld f,Zt (Z2 seen s)] (ent (ZgU f (Z2 seen s))):=λf s=>Zil f _ (JK (Fv _ _) hs)
 refine ZF func66 rfl ntmps66 results66 (Sq _) ?_;simp only[go_sem,Zs];refine vc2 hSc ?_;simp only[go_sem,Zs];refine Yh 7 28 5 125 rfl rfl ?_;refine Zr (ι:= { x:Nat // x<=(A).length }) 31 (λx=> [(1,.str item),(3,.rptr [.rmap (ks.map spv) (ks.map λs=>Zt (Z2 seen s))]),(7,.sl (.row 28) (((A.take x.1).map λf=>ZgU f (Z2 seen ⟨item,f.at'⟩)).map ent)),(12,Zs A),(13,.int .i64 (A.length:Int)),(14,.int .i64 (x.1:Int))]) (λx=> []) (λx=> [(28,.live (x.1) (5) (125))]) (λx=>(A).length-x.1) ⟨0,Jg _⟩ ⟨rfl,(Fc6 rfl rfl rfl rfl rfl rfl),fnl,(fcs rfl fnl)⟩ (λx=>⟨(Fc6 rfl rfl (by simp[Jo,Zy]) rfl rfl rfl),fnl⟩) (λx=> ?_);obtain⟨k,hk⟩:=x;simp only at hk ⊢;by_cases h:(k:Int)<(A.length:Int)
 (have hka:k<(A).length:=by omega);(have w1:=We hka (hAm));(have i1:=Jb k)
 have htk:((A.take (k+1)).map λf=>ZgU f (Z2 seen ⟨item,f.at'⟩))=((A.take k).map λf=>ZgU f (Z2 seen ⟨item,f.at'⟩))++ [ZgU (A.getD k Jd) (Z2 seen ⟨item,(A.getD k Jd).at'⟩)]:=by rw[ZI (d:=Jd) hka,Jf];rfl
 have hlk:((A.take k).map λf=>ZgU f (Z2 seen ⟨item,f.at'⟩)).length=k:=by simp;omega
 have hrm:=Ym (show k+1<=1000000 by omega) (show 72<=1000 by omega);have hsz:=ZdE ((A.take k).map λf=>ZgU f (Z2 seen ⟨item,f.at'⟩));have hV1:=hV (A.getD k Jd) ⟨item,(A.getD k Jd).at'⟩;have hfp:=Zau ⟨item,(A.getD k Jd).at'⟩ ks;have hget:∀i,i<ks.length->(ks.map λs=>Zt (Z2 seen s)).getD i .any=Zt (Z2 seen (ks.getD i Jd)):=λi hi=>by rw[getD_lt (by simpa using hi),getD_lt hi,JB]
 generalize hx:A.getD k Jd=x at *;generalize ((A.take k).map λf=>ZgU f (Z2 seen ⟨item,f.at'⟩))=E at *;generalize hv:ZgU x (Z2 seen ⟨item,x.at'⟩)=v at *;have hsx:Sized 5 [ent v]:=ZdE [v];have hax:YZ [ent v]:=ZiV [v];have hml:(E.map ent).length=k:=by rw[Je];exact hlk
 simp only[ent]at hsx hax;simp only at hfp;cases hf:ks.findIdx? (λy=>decide ((⟨item,x.at'⟩:Sp)=y))with
 |none=>
  rw[hf]at hfp;have hn:Z2 seen ⟨item,x.at'⟩= []:=Zbc (λhh=>Zgc.1 hf ((hks _).2 hh));rw[hn]at hV1;simp only[go_sem,Zs,h,ZO hka,hx,fld,i1];refine vDq ?_;simp only[go_sem,hfp];refine vc7 hV1 ?_;simp only[go_sem,ent,hsz,hsx,hax,hml,hrm,w1];exact⟨⟨k+1,by omega⟩,nx9 (by omega),⟨rfl,by simp only;rw[htk,Jf];exact(Fc6 rfl rfl rfl rfl rfl rfl),fnl,fcs rfl fnl⟩⟩
 |some i=>
  rw[hf]at hfp;obtain⟨hi,he⟩:=ZjD hf;have hg:=hget i hi;rw[he]at hg;simp only[go_sem,Zs,h,ZO hka,hx,fld,i1];refine vDq ?_;simp only[go_sem,hfp,hg];refine vc7 hV1 ?_;simp only[go_sem,ent,hsz,hsx,hax,hml,hrm,w1];exact⟨⟨k+1,by omega⟩,nx9 (by omega),⟨rfl,by simp only;rw[htk,Jf];exact(Fc6 rfl rfl rfl rfl rfl rfl),fnl,fcs rfl fnl⟩⟩
 have htk:A.take k=A:=Jn (by omega);simp only[go_sem,Zs,h,htk,Ys]
open Go.PL
theorem ZeQ (f:Fd) (l:List Str) (hf:f.cases'.length<=maxLen) (hl:l.length<=maxLen):Pp 265 [fld f,YD l] (.bool (l.all (DL f))):=by
 refine Zz func265 rfl ntmps265 results265 ?_;simp only[go_sem,fld,YD];refine Zr (ι:= { x:Nat // x<=(l).length/\(∀j,j<x->DL f (l.getD j [])=Ht) }) 18 (λx=> [(2,.ptr 2 0),(7,YD l),(8,.int .i64 (l.length:Int)),(9,.int .i64 (x.1:Int))]) (λx=> [(2,DJ f,Hf)]) (λx=> []) (λx=>(l).length-x.1) ⟨0,Jg _,λj hj=>absurd hj (JF j)⟩ ⟨rfl,(Fc4 rfl rfl rfl rfl),(fcs ⟨rfl,rfl⟩ fnl),fnl⟩ (λx=>⟨(Fc4 rfl rfl rfl rfl),(fcs rfl fnl)⟩) (λx=> ?_);obtain⟨k,hk,hI⟩:=x;simp only at hk hI ⊢;by_cases h:(k:Int)<(l.length:Int)
 (have hka:k<(l).length:=by omega);(have w1:=We hka (hl));(have i1:=Jb k)
 have hF:=F9 f (l.getD k []) hf;cases hq:DL f (l.getD k []);rw[hq]at hF;have hz:=ZiN (p:=DL f) hka hq;simp only[go_sem,YD,h,ZP hka,i1,DJ];refine vc2 hF ?_;simp only[go_sem,hz]
 ·rw[hq]at hF;simp only[go_sem,YD,h,ZP hka,i1,DJ];refine vc2 hF ?_;simp only[go_sem,w1];exact⟨⟨k+1,by(try simp only);omega,Zi hI hq⟩,by show(l).length-(k+1)<(l).length-k;omega,⟨rfl,(Fc4 rfl rfl rfl rfl),(fcs ⟨rfl,rfl⟩ fnl),fnl⟩⟩
 have hz:=ZlE (p:=DL f) (d:= []) (l:=l) (λj hj=>hI j (by omega));simp only[go_sem,h,hz]
theorem Zg6 (f:Fd) (e:En) (hl:f.cases'.length<=maxLen) (he:e.l.length<=maxLen):Pp 243 [fld f,ent e] (.bool (Ss f e)):=by
 have hR:=VJ f hl;have hA:=ZeQ f e.l hl he;cases hr:Y5 f;rw[hr]at hR;refine Zz func243 rfl ntmps243 results243 ?_;simp only[go_sem,fld,ent];refine vc2 hR ?_;simp only[go_sem,Ss,hr,Jr];rw[hr]at hR;by_cases ha:e.at'=f.at';have ha':=decide_eq_true ha;by_cases h1:f.kind=1
 ·have k1:(f.kind==1)=true:=by rw[h1];rfl
  have hx:Ss f e=Zn3 e:=by simp only[Ss,hr,ha',Jz,JH,h1,if_true]
  rw[hx];refine Zz func243 rfl ntmps243 results243 ?_;simp only[go_sem,fld,ent];refine vc2 hR ?_;simp only[go_sem,Zo,ha',k1];repeat' ((first|(first|apply Zl|apply Zj|apply Zp)<;>intro h|refine vDq ?_)<;>first|simp only[go_sem,h]|simp only[go_sem]|skip)
  all_goals (simp_all[Zn3];try(first|omega|(rw[decide_eq_true (show(-4503599627370497:Int)<e.n by omega),decide_eq_true (show e.n<4503599627370497 by omega)];simp)))
 have k1:(f.kind==1)=false:=beq_eq_false_iff_ne.2 h1;have hx:Ss f e=(ZeI f e&&ZcR f e):=by simp only[Ss,hr,ha',Jz,JH,h1,if_false]
 rw[hx];by_cases hn:e.n=0;have n1:(e.n !=0)=false:=by rw[hn];rfl
 by_cases h4:f.kind=4;have k4:(f.kind==4)=true:=by rw[h4];rfl
 have hx2:(ZeI f e&&ZcR f e)=(decide ((e.l.length:Int)<=400)&&e.l.all (DL f)):=by
  simp only[ZeI,ZcR,h4,if_true,hn,decide_true,J3];congr 1;rw[J5];simp
 rw[hx2];by_cases h5:(e.l.length:Int)<=400;refine Zz func243 rfl ntmps243 results243 ?_;simp only[go_sem,fld,ent];refine vc2 hR ?_;simp only[go_sem,Zo,ha',k1,n1,k4,h5];refine vc2 hA ?_;simp only[go_sem,decide_eq_true h5,JH];refine Zz func243 rfl ntmps243 results243 ?_;simp only[go_sem,fld,ent];refine vc2 hR ?_;simp only[go_sem,Zo,ha',k1,n1,k4,h5,Jr];have k4:(f.kind==4)=false:=beq_eq_false_iff_ne.2 h4;have hx2:(ZeI f e&&ZcR f e)=(((e.l.length:Int)==1)&&e.l.all (DL f)):=by
  simp only[ZeI,ZcR,h4,if_false,hn,decide_true,J3];congr 1
 rw[hx2];cases h5:(e.l.length:Int)==1;refine Zz func243 rfl ntmps243 results243 ?_;simp only[go_sem,fld,ent];refine vc2 hR ?_;simp only[go_sem,Zo,ha',k1,n1,k4,h5,Jr];refine Zz func243 rfl ntmps243 results243 ?_;simp only[go_sem,fld,ent];refine vc2 hR ?_;simp only[go_sem,Zo,ha',k1,n1,k4,h5];refine vc2 hA ?_;simp only[go_sem,JH];have n1:(e.n !=0)=true:=bne_iff_ne.2 hn;have hx2:(ZeI f e&&ZcR f e)=false:=by simp[ZcR,hn]
 rw[hx2];refine Zz func243 rfl ntmps243 results243 ?_;simp only[go_sem,fld,ent];refine vc2 hR ?_;simp only[go_sem,Zo,ha',k1,n1];have ha':=decide_eq_false ha;have hx:Ss f e=false:=by simp only[Ss,ha',JI,Jr]
 rw[hx];refine Zz func243 rfl ntmps243 results243 ?_;simp only[go_sem,fld,ent];refine vc2 hR ?_;simp only[go_sem,Zo,ha']
theorem ZB {l:List En} {i:Nat} (h:i<l.length):(l.map ent).getD i .any=ent (l.getD i Jd):=Xa h
theorem ZcW {l:List Rw} {i:Nat} (h:i<l.length):(l.map row).getD i .any=row (l.getD i Jd):=Xa h
theorem V1 (l:List Fd) (es:List En) (hl:l.length<=maxLen) (hes:es.length<=maxLen) (hl':∀f∈l,f.cases'.length<=maxLen) (hes':∀e∈es,e.l.length<=maxLen):Pp 196 [Zs l,Ys es] (.bool (Xs l es)):=by
 by_cases he:l.length=es.length;have he':((l.length:Int) !=(es.length:Int))=false:=by rw[he];exact bne_self_eq_false _
 have hx:Xs l es=(Jy l.length).all (λi=>Ss (l.getD i Jd) (es.getD i Jd)):=by simp only[Xs,he,decide_true,JH]
 rw[hx];refine Zz func196 rfl ntmps196 results196 ?_;simp only[go_sem,Zs,Ys,he'];refine Zr (ι:= { x:Nat // x<=(l).length/\(∀j,j<x->Ss (l.getD j Jd) (es.getD j Jd)=Ht) }) 27 (λx=> [(1,Ys es),(12,Zs l),(13,.int .i64 (l.length:Int)),(14,.int .i64 (x.1:Int))]) (λx=> []) (λx=> []) (λx=>(l).length-x.1) ⟨0,Jg _,λj hj=>absurd hj (JF j)⟩ ⟨rfl,(Fc4 rfl rfl rfl rfl),fnl,fnl⟩ (λx=>⟨(Fc4 rfl rfl rfl rfl),fnl⟩) (λx=> ?_);obtain⟨k,hk,hI⟩:=x;simp only at hk hI ⊢;by_cases h:(k:Int)<(l.length:Int)
 (have hka:k<(l).length:=by omega);(have w1:=We hka (hl));(have i1:=Jb k)
 have hkb:k<es.length:=by omega
 have i2:(k:Int)<(es.length:Int):=by omega
 have hF:=Zg6 (l.getD k Jd) (es.getD k Jd) (hl' _ (Zh hka)) (hes' _ (Zh hkb));cases hf:Ss (l.getD k Jd) (es.getD k Jd);rw[hf]at hF;have hz:=ZM (p:=λi=>Ss (l.getD i Jd) (es.getD i Jd)) hka hf;simp only[go_sem,Zs,Ys,h,i1,ZO hka,fld];refine vDq ?_;simp only[go_sem,ZB hkb,ent,i1,i2];refine vc2 hF ?_;simp only[go_sem,hz]
 ·rw[hf]at hF;simp only[go_sem,Zs,Ys,h,i1,ZO hka,fld];refine vDq ?_;simp only[go_sem,ZB hkb,ent,i1,i2];refine vc2 hF ?_;simp only[go_sem,w1];exact⟨⟨k+1,by(try simp only);omega,Zi hI hf⟩,by show(l).length-(k+1)<(l).length-k;omega,⟨rfl,(Fc4 rfl rfl rfl rfl),fnl,fnl⟩⟩
 have hz:=Vb (p:=λi=>Ss (l.getD i Jd) (es.getD i Jd)) (n:=l.length) (λj hj=>hI j (by omega));simp only[go_sem,h,hz];have he':((l.length:Int) !=(es.length:Int))=true:=bne_iff_ne.2 (by omega);have hx:Xs l es=false:=by simp only[Xs,he,decide_false,Jr]
 rw[hx];refine Zz func196 rfl ntmps196 results196 ?_;simp only[go_sem,Zs,Ys,he']
open Go.PL
theorem Do (l:List Fd) (d:Dc) (hl:l.length<=maxLen) (hl':∀f∈l,f.cases'.length<=1000000) (hd:Zli d):Pp 154 [Zs l,doc d] (.bool (Wt l d)):=by
 obtain⟨d1,d2,d3,d4⟩:=hd;have hl2:∀f∈l,f.cases'.length<=maxLen:=λf hf=>by have:=hl' f hf;rw[Zb];omega
 have hR:=V9 l hl hl2;cases hr:VA l;rw[hr]at hR;have hx:Wt l d=false:=by simp only[Wt,ZaE,hr,Jr]
 refine Zz func154 rfl ntmps154 results154 ?_;simp only[go_sem,Zs,doc];refine vc2 hR ?_;simp only[go_sem,hx];rw[hr]at hR;have h16:=ZaZ hr;have sl:∀sc,(YG l sc).length<=maxLen:=λsc=>JK (Jh _ _) hl
 have sc:∀s,∀f∈YG l s,f.cases'.length<=maxLen:=λs f hf=>hl2 f (KL.1 hf).1
 have hS0:=S7 l 0 (by omega) hl';have hS1:=S7 l 1 (by omega) hl';by_cases h4:(400:Int)<(d.rows.length:Int);have hx:Wt l d=false:=by simp only[Wt,ZaE,h4,decide_true,Bool.not_true,Jr,JI]
 refine Zz func154 rfl ntmps154 results154 ?_;simp only[go_sem,Zs,doc];refine vc2 hR ?_;simp only[go_sem,h4,hx];have hE:=V1 (YG l 0) d.head (sl 0) d1 (sc 0) d3;cases he:Xs (YG l 0) d.head;rw[he]at hE;have hx:Wt l d=false:=by simp only[Wt,ZaE,he,Jr,JI]
 refine Zz func154 rfl ntmps154 results154 ?_;simp only[go_sem,Zs,doc];refine vc2 hR ?_;simp only[go_sem,h4];refine vDq ?_;simp only[go_sem,Zs];refine vc2 hS0 ?_;simp only[go_sem,Zs];refine vc2 hE ?_;simp only[go_sem,hx];rw[he]at hE;have hx:Wt l d=(Jy d.rows.length).all (U7 l d.rows):=by simp only[Wt,ZaE,hr,h4,he,decide_false,Bool.not_false,Jz,JH]
 rw[hx];refine Zz func154 rfl ntmps154 results154 ?_;simp only[go_sem,Zs,doc];refine vc2 hR ?_;simp only[go_sem,h4];refine vDq ?_;simp only[go_sem,Zs];refine vc2 hS0 ?_;simp only[go_sem,Zs];refine vc2 hE ?_;simp only[go_sem,Zs];refine vc2 hS1 ?_;simp only[go_sem];refine Zr (ι:= { x:Nat // x<=(d.rows).length/\(∀j,j<x->U7 l d.rows j=Ht) }) 59 (λx=> [(3,.ptr 3 0),(5,Zs (YG l 1)),(26,.sl .no (d.rows.map row)),(27,.int .i64 (d.rows.length:Int)),(28,.int .i64 (x.1:Int))]) (λx=> [(3,[.sl .no (d.head.map ent),.sl .no (d.rows.map row)],Hf)]) (λx=> []) (λx=>(d.rows).length-x.1) ⟨0,Jg _,λj hj=>absurd hj (JF j)⟩ ⟨rfl,(Fc5 rfl rfl rfl rfl rfl),(fcs ⟨rfl,rfl⟩ fnl),fnl⟩ (λx=>⟨(Fc5 rfl rfl (by simp[Jo,Zy]) (by simp[Jo,Zy]) rfl),(fcs (by simp[Jo,JV,Zy]) fnl)⟩) (λx=> ?_);obtain⟨k,hk,hI⟩:=x;simp only at hk hI ⊢;by_cases h:(k:Int)<(d.rows.length:Int)
 (have hka:k<(d.rows).length:=by omega);(have w1:=We hka (d2));(have i1:=Jb k)
 have hN:=YL (d.rows.getD k Jd).item;have rk:=d4 _ (Zh (d:=Jd) hka);have hE1:=V1 (YG l 1) (d.rows.getD k Jd).l (sl 1) rk.1 (sc 1) rk.2;have gk:=ZcW hka;cases hn:Z0 (d.rows.getD k Jd).item;rw[hn]at hN;have hz:=ZM (p:=U7 l d.rows) hka (by simp only[U7,hn,Jr]);simp only[go_sem,h,gk,row,i1];refine vDq ?_;simp only[go_sem,h,gk,row,i1];refine vc1 hN ?_;simp only[go_sem,hz];rw[hn]at hN;by_cases h0:0<(k:Int);have hk1:k-1<d.rows.length:=by omega
 have gj:=ZcW hk1;have w2:IntKind.i64.wrap ((k:Int)-1)=((k-1:Nat):Int):=by
  rw[Zb]at d2;rw[w64 (by omega)];omega
 have j1:(0:Int)<=((k-1:Nat):Int):=by omega
 have j2:((k-1:Nat):Int)<(d.rows.length:Int):=by omega
 cases hb:XA (d.rows.getD (k-1) Jd).item (d.rows.getD k Jd).item;have hz:=ZM (p:=U7 l d.rows) hka (by simp only[U7,hb,decide_eq_false (show ¬k=0 by omega),Bool.or_self,JI,Jr]);simp only[go_sem,h,gk,row,i1];refine vDq ?_;simp only[go_sem,h,gk,row,i1];refine vc1 hN ?_;simp only[go_sem,h0,w2,gj,gk,row,h,i1,j1,j2,hb,hz];cases hf:Xs (YG l 1) (d.rows.getD k Jd).l;rw[hf]at hE1;have hz:=ZM (p:=U7 l d.rows) hka (by simp only[U7,hf,JI]);simp only[go_sem,h,gk,row,i1];refine vDq ?_;simp only[go_sem,h,gk,row,i1];refine vc1 hN ?_;simp only[go_sem,h0,w2,gj,gk,row,h,i1,j1,j2,hb,Zs];refine vc2 hE1 ?_;simp only[go_sem,hz]
 ·rw[hf]at hE1;have ok:U7 l d.rows k=true:=by simp only[U7,hn,hb,hf,Bool.or_true,Jz]
  simp only[go_sem,h,gk,row,i1];refine vDq ?_;simp only[go_sem,h,gk,row,i1];refine vc1 hN ?_;simp only[go_sem,h0,w2,gj,gk,row,h,i1,j1,j2,hb,Zs];refine vc2 hE1 ?_;simp only[go_sem,w1];exact⟨⟨k+1,by(try simp only);omega,Zi hI ok⟩,by show(d.rows).length-(k+1)<(d.rows).length-k;omega,⟨rfl,(Fc5 rfl rfl rfl rfl rfl),(fcs ⟨rfl,rfl⟩ fnl),fnl⟩⟩
 have hk0:k=0:=by omega
 cases hf:Xs (YG l 1) (d.rows.getD k Jd).l;rw[hf]at hE1;have hz:=ZM (p:=U7 l d.rows) hka (by simp only[U7,hf,JI]);simp only[go_sem,h,gk,row,i1];refine vDq ?_;simp only[go_sem,h,gk,row,i1];refine vc1 hN ?_;simp only[go_sem,h0,gk,row,h,i1,Zs];refine vc2 hE1 ?_;simp only[go_sem,hz]
 ·rw[hf]at hE1;have ok:U7 l d.rows k=true:=by simp only[U7,hn,decide_eq_true hk0,hf,Bool.true_or,Jz]
  simp only[go_sem,h,gk,row,i1];refine vDq ?_;simp only[go_sem,h,gk,row,i1];refine vc1 hN ?_;simp only[go_sem,h0,gk,row,h,i1,Zs];refine vc2 hE1 ?_;simp only[go_sem,w1];exact⟨⟨k+1,by(try simp only);omega,Zi hI ok⟩,by show(d.rows).length-(k+1)<(d.rows).length-k;omega,⟨rfl,(Fc5 rfl rfl rfl rfl rfl),(fcs ⟨rfl,rfl⟩ fnl),fnl⟩⟩
 have hz:=Vb (p:=U7 l d.rows) (n:=d.rows.length) (λj hj=>hI j (by omega));simp only[go_sem,h,hz]
theorem Vg (l:List Rw):Sized 2 (l.map row):=λe he=>by
 obtain⟨x,_,rfl⟩:=Jq.1 he;rfl
open Go.PL Go.PL.Srt
def Zap (y:Dc×Int):PV:= .tup [doc y.1,.int .i64 y.2]
theorem UN (y:Dc×Int):(Zap y).dids= []:=by simp only[Zap,JS,JM,Zl2,Jc]
def Xm (A:List Opn) (c:Str):List Opn:=A.filter λo=>o.cart==c
theorem ZhN {l:List Opn} {k:Nat} (c:Str) (h:k<l.length):Xm (l.take (k+1)) c=Xm (l.take k) c++(if((l.getD k Jd).cart==c)=Ht then [l.getD k Jd]else []):=by
 unfold Xm;rw[ZI (d:=Jd) h,Jt];congr 1;generalize l.getD k Jd=x;cases hr:(x.cart==c);rw[Jk (by rw[hr];simp),if_neg (by simp)];rfl;rw[Jm (by exact hr),if_pos rfl];rfl
def Yf (m:List Eg) (l:List Opn) (cart:Str) (b:Tg):Dc×Int:=
 if 400<(l.length:Int)then(Jd,14)else if Z0 cart=Hf then(Jd,5)else if(XC (Ze m) b).2≠0 then(Jd,(XC (Ze m) b).2)
 else(⟨G1 (XC (Ze m) b).1 (V3 m (Xm (TL m l) cart) b) 0 [],(GT (Xm (TL m l) cart) cart).map λi=>⟨i,G1 (XC (Ze m) b).1 (V3 m (Xm (TL m l) cart) b) 1 i⟩⟩,0)
def vsV (pre:List Opn) (ks:List Sp):List PV:=(Jy ks.length).map λj=> .sl (.row (1000+j)) ((Z2 pre (ks.getD j Jd)).map opv)
def qV (n:Nat) (pre:List Opn) (ks:List Sp):PL.Rows:=λi=>if i=59 then Hs (.live n 15 48)else if 1000<=i/\i<1000+ks.length then Hs (.live (Z2 pre (ks.getD (i-1000) Jd)).length 15 48)else none
theorem Vj (pre:List Opn) (ks:List Sp):(vsV pre ks).length=ks.length:=by simp[vsV]
theorem ZnN (pre:List Opn) {ks:List Sp} {j:Nat} (h:j<ks.length):(vsV pre ks).getD j .any= .sl (.row (1000+j)) ((Z2 pre (ks.getD j Jd)).map opv):=by
 unfold vsV;rw[getD_lt (by simpa using h),JB,JJ]
theorem XL (pre:List Opn) (o:Opn) (s:Sp):Z2 (pre++ [o]) s=Z2 pre s++(if spO o=s then [o]else []):=by
 unfold Z2;rw[Jt];congr 1;by_cases h:spO o=s<;>simp[h]
theorem ZaR {ks:List Sp} (h:ks.Nodup) {i j:Nat} (hi:i<ks.length) (hj:j<ks.length) (e:ks.getD i Jd=ks.getD j Jd):i=j:=by
 rw[getD_lt hi,getD_lt hj]at e;exact(List.getElem_inj h).1 e
theorem Zo9 {pre:List Opn} {ks:List Sp} {o:Opn} {j:Nat} (hn:ks.Nodup) (hj:j<ks.length) (hs:ks.getD j Jd=spO o):
  (vsV pre ks).set j (.sl (.row (1000+j)) ((Z2 pre (spO o)++ [o]).map opv))=vsV (pre++ [o]) ks:=by
 apply JW;simp[vsV];intro i h1 h2;have hi:i<ks.length:=by simpa[vsV]using h2
 rw[Kg];by_cases e:j=i;subst e;rw[if_pos rfl];simp only[vsV,JB,JJ];rw[XL,hs,if_pos rfl];rw[if_neg e];simp only[vsV,JB,JJ];rw[XL,if_neg (λh=>e (ZaR hn hj hi (by rw[hs,h]))),Jc]
theorem Zo8 {pre:List Opn} {ks:List Sp} {o:Opn} (hn:spO o∉ks) (h0:Z2 pre (spO o)= []) (z:PV):
  (vsV pre ks++ [z]).set ks.length (.sl (.row (1000+ks.length)) ([o].map opv))=vsV (pre++ [o]) (ks++ [spO o]):=by
 apply JW;simp[vsV];intro i h1 h2;have hi:i<ks.length+1:=by simpa[vsV]using h2
 rw[Kg];by_cases e:ks.length=i;subst e;rw[if_pos rfl];simp only[vsV,JB,JJ];have:(ks++ [spO o]).getD ks.length Jd=spO o:=by rw[getD_lt (by simp)];simp
 rw[this,XL,if_pos rfl,h0,KM];have hi':i<ks.length:=by omega
 rw[if_neg e,JE (by simpa[vsV]using hi')];simp only[vsV,JB,JJ];have:(ks++ [spO o]).getD i Jd=ks.getD i Jd:=by rw[getD_lt (by simp;omega),getD_lt hi',JE hi']
 rw[this,XL,if_neg,Jc];intro h;rw[getD_lt hi']at h;exact hn (h▸JX hi')
theorem Zdu (n:Nat) (pre:List Opn) {ks:List Sp} {j:Nat} (h:j<ks.length):qV n pre ks (1000+j)=Hs (.live (Z2 pre (ks.getD j Jd)).length 15 48):=by
 unfold qV;rw[if_neg (by omega),if_pos (by omega),show 1000+j-1000=j by omega]
theorem Zk7 {pre:List Opn} {ks:List Sp} {i:Nat} (h:i<ks.length):∀r∈((vsV pre ks).getD i .any).ids,r= .r (1000+i):=λr hr=>by
 rw[ZnN pre h]at hr;simpa[Jo]using hr
theorem Zkj {n:Nat} {pre:List Opn} {ks:List Sp} {x:Opn} {j i:Nat} (hnd:ks.Nodup) (hj:j<ks.length) (hje:ks.getD j Jd=spO x) (hi:i≠1000+j):qV n (pre++ [x]) ks i=qV n pre ks i:=by
 unfold qV;by_cases h1:i=59;rw[if_pos h1,if_pos h1];rw[if_neg h1,if_neg h1];by_cases h2:1000<=i/\i<1000+ks.length;rw[if_pos h2,if_pos h2,XL,if_neg,Jc];intro e;have:=ZaR hnd hj (show i-1000<ks.length by omega) (by rw[hje,e]);omega;rw[if_neg h2,if_neg h2]
theorem ZnD {n:Nat} {pre:List Opn} {ks:List Sp} {x:Opn} {i:Nat} (hn:spO x∉ks) (hi:i≠1000+ks.length):qV n (pre++ [x]) (ks++ [spO x]) i=qV n pre ks i:=by
 unfold qV;by_cases h1:i=59;rw[if_pos h1,if_pos h1];rw[if_neg h1,if_neg h1];by_cases h2:1000<=i/\i<1000+ks.length;have hlt:i-1000<ks.length:=by omega
 have e:(ks++ [spO x]).getD (i-1000) Jd=ks.getD (i-1000) Jd:=by rw[getD_lt (by simp;omega),getD_lt hlt,JE hlt]
 rw[if_pos h2,if_pos (by simp;omega),e,XL,if_neg,Jc];intro e;rw[getD_lt hlt]at e;exact hn (e▸JX hlt);rw[if_neg h2,if_neg (by simp;omega)]
def vwL (cart:Str) (mine seen:List Opn) (k:Nat):List (Nat×PV):= [(2,.str cart),(8,.ptr 8 0),(10,.ptr 10 0),(12,.sl (.row 59) (mine.map opv)),(15,.ptr 15 0),(65,Zt seen),(66,.int .i64 (seen.length:Int)),(67,.int .i64 (k:Int))]
def vwH (F:List Fd) (x:PV):List (Nat×List PV):= [(8,[.sl .nil [],.sl .nil []]),(10,[.sl .no (F.map fld)]),(15,[x])]
theorem Zb9 {cart:Str} {mine seen:List Opn} {k:Nat} {F:List Fd} {x:PV} {q:PL.Rows} (h:q 59≠none):∀y∈vwL cart mine seen k,∀r∈y.2.ids,Zge (vwH F x) q r/\ ∀d,1000<=d->r≠ .r d:=by
 refine fcs ?_ (fcs ?_ (fcs ?_ (fcs ?_ (fcs ?_ (fcs ?_ (fcs ?_ (fcs ?_ fnl)))))))<;>intro r hr<;>simp[Jo,Zt]at hr<;>subst hr
 exact⟨⟨_,J8,rfl⟩,λd _=>by simp⟩;exact⟨⟨_,J4 _ J8,rfl⟩,λd _=>by simp⟩;exact⟨h,λd hd=>by simp;omega⟩;exact⟨⟨_,J4 _ (J4 _ J8),rfl⟩,λd _=>by simp⟩
theorem Zb8 {F:List Fd} {x:PV} (hx:x.ids= []):∀y∈vwH F x,∀c∈y.2,c.ids= []:=
 Fc3 (by simp[Jo]) (by simp[Jo]) (by simp[hx])
theorem Zoq (n:Nat) (pre:List Opn) (ks:List Sp):qV n pre ks 59≠none:=by unfold qV;simp
theorem Zk8 (pre:List Opn) (ks:List Sp):(vsV pre ks).map PV.share=ks.map λs=>Zt (Z2 pre s):=by
 apply JW;simp[vsV];intro i h1 h2;have hi:i<ks.length:=by simpa using h2
 simp only[vsV,JB,JJ,PV.share,Tok.sh,Zt];rw[getD_lt hi]
theorem Zk6 (pre:List Opn) (ks:List Sp):∀p∈vsV pre ks,p.clean=true:=λp hp=>by
 obtain⟨j,_,rfl⟩:=Jq.1 hp;rfl
def q59 (n:Nat):PL.Rows:=upd (λ_=>none) 59 (Hs (.live n 15 48))
theorem ZiJ (m:List Eg) (l:List Opn) (cart:Str) (b:Tg) (hm:OkM m) (hr:RightM m) (hl:l.length<=400) (ho:∀o∈l,OkOp o) (hU:(l.map Opn.id).Nodup) (hn:Z0 cart=Ht) (hc:(XC (Ze m) b).2=0):
  Pp 23 [tr (Ze m),Zt l,.str cart,tg b] (Zap (⟨G1 (XC (Ze m) b).1 (V3 m (Xm (TL m l) cart) b) 0 [],(GT (Xm (TL m l) cart) cart).map λi=>⟨i,G1 (XC (Ze m) b).1 (V3 m (Xm (TL m l) cart) b) 1 i⟩⟩,0)):=by
 have hcl:∀l:List Opn,∀p∈l.map opv,p.ids= []:=λl=>Yo YU l
 have hN:=YL cart;rw[hn]at hN;have hS:=Xy m b hm;have hF:=ZaS hm (a:=b) hc;have hL:=ZaK m l hm (by omega) ho hU;have hll:=SA m l;have hlo:∀o∈TL m l,OkOp o:=λo h=>ho o (Zgk h)
 generalize TL m l=A at *;have hmo:∀o∈Xm A cart,OkOp o:=λo h=>hlo o (KL.1 h).1
 have hml0:(Xm A cart).length<=A.length:=Jh _ _;have hT:=Zhk m (Xm A cart) b hm hr (by omega) hmo;have hI:=ZhK (Xm A cart) cart (by omega);have hsl:=SO m (Xm A cart) b;have hfill:=λsc it ks hks=>Zjl (XC (Ze m) b).1 (V3 m (Xm A cart) b) ks sc it hF (by omega) hks
 have c1:¬(400:Int)<(l.length:Int):=by omega
 have c2:((XC (Ze m) b).2 !=0)=false:=by simp[hc]
 generalize XC (Ze m) b=X at *;obtain⟨F,xc⟩:=X;simp only at hc hF hfill c2 ⊢;subst hc;refine ZF func23 rfl ntmps23 results23 (UN _) ?_;simp only[go_sem,tr,Zt,tg,c1];refine vc1 hN ?_;simp only[go_sem];refine vc5 hS ?_;simp only[go_sem,YF,Zs,c2];refine Dm 46 hL (hcl _) (by simp[Jo,tr,Zt]) rfl rfl ?_;simp only[go_sem,K4,id];refine Yh 12 59 15 48 rfl rfl ?_;refine YO (ι:= { k:Nat // k<=A.length }) 109 (λx=> [(0,tr (Ze m)),(2,.str cart),(7,.ptr 7 0),(8,.ptr 8 0),(10,.ptr 10 0),(12,.sl (.row 59) ((Xm (A.take x.1) cart).map opv)),(46,.vsl 46 A.length 15),(47,.int .i64 (A.length:Int)),(48,.int .i64 (x.1:Int))]) (λ_=> [(7,[.int .i64 b.r,.int .i64 b.n],Hf),(8,[.sl .nil [],.sl .nil []],Hf),(10,[.sl .no (F.map fld)],Hf)]) (λx=> [(46,.vec A.length 15 48),(59,.live (Xm (A.take x.1) cart).length 15 48)]) (λ_=> []) (λ_=> []) (λ_=> [(46,A.map opv)]) (λ_=> []) [] [] [] (λx=>A.length-x.1) ⟨0,Jg _⟩
  ⟨⟨rfl,(Fc9 rfl rfl rfl rfl rfl rfl rfl rfl rfl),(Fc3 ⟨rfl,rfl⟩ ⟨rfl,rfl⟩ ⟨rfl,rfl⟩),(Fc2 rfl rfl)⟩,fnl,fnl,(fcs rfl fnl),fnl,fnl,fnl⟩ (λx=>⟨⟨(Fc9 rfl rfl rfl rfl rfl rfl rfl rfl rfl),(Fc3 rfl rfl rfl)⟩,by simp[Z7 YU],fnl,by simp,fnl,fnl⟩) (λx=> ?_)
 obtain⟨k,hk⟩:=x;simp only;by_cases h:(k:Int)<(A.length:Int);have hka:k<A.length:=by omega
 have i0:=Jb k
 have w1:=wk9 (k:=k) (by omega)
 have hsn:=ZhN cart hka;have hml1:(Xm (A.take k) cart).length<=k:=JK (Jh _ _) (Jv _ _);have hrm:=Ym (show(Xm (A.take k) cart).length+1<=1000000 by omega) (show 176<=1000 by omega);have hml:((Xm (A.take k) cart).map opv).length=(Xm (A.take k) cart).length:=Je _;have hsz:=Yb (Xm (A.take k) cart);generalize hx:A.getD k Jd=x at *;have hsx:Sized 15 [opv x]:=Yb [x];have hax:YZ [opv x]:=Xr [x];simp only[opv]at hsx hax;cases k1:(x.cart==cart);rw[k1,if_neg (by simp),Jc]at hsn;simp only[go_sem,h,i0,ZC hka,hx,opv,k1,w1];exact⟨⟨k+1,by omega⟩,nx9 (by omega),⟨⟨rfl,by simp only;rw[hsn];exact(Fc9 rfl rfl rfl rfl rfl rfl rfl rfl rfl),(Fc3 ⟨rfl,rfl⟩ ⟨rfl,rfl⟩ ⟨rfl,rfl⟩),by simp only;rw[hsn];exact(Fc2 rfl rfl)⟩,fnl,fnl,(fcs rfl fnl),fnl,fnl,fnl⟩⟩;rw[k1,if_pos rfl]at hsn;simp only[go_sem,h,i0,ZC hka,hx,opv,k1,w1,hml,hsz,hrm,hsx,hax];exact⟨⟨k+1,by omega⟩,nx9 (by omega),⟨⟨rfl,by simp only;rw[hsn,Jf];exact(Fc9 rfl rfl rfl rfl rfl rfl rfl rfl rfl),(Fc3 ⟨rfl,rfl⟩ ⟨rfl,rfl⟩ ⟨rfl,rfl⟩),by simp only;rw[hsn,Ja];exact(Fc2 rfl rfl)⟩,fnl,fnl,(fcs rfl fnl),fnl,fnl,fnl⟩⟩;have htk:A.take k=A:=Jn (by omega);simp only[go_sem,h,htk];intro mb;refine vc7 hT ?_;simp only[go_sem,Zt];generalize hse:V3 m (Xm A cart) b=seen at *;generalize hmi:Xm A cart=mine at *;refine ZoQ (ι:= { x:Nat×List Sp // x.1<=seen.length/\(∀s,s∈x.2↔ ∃o∈seen.take x.1,spO o=s)/\x.2.Nodup })
  (λx=>vst 109 (vwL cart mine seen x.1.1) (vwH F (.mref mb)) (qV mine.length (seen.take x.1.1) x.1.2) (UF mb ⟨x.1.2.map spv,vsV (seen.take x.1.1) x.1.2⟩))
  (λx=>seen.length-x.1.1) ⟨(0,[]),Jg _,λs=>by simp,List.nodup_nil⟩ ?_ (λx=> ?_)
 refine(Gh.oToOm (b:=mb) (c:=⟨[],[]⟩) (by simp[upd,St.with,Hp.new])).trans (Zf9 rfl (Fc8 rfl rfl rfl rfl rfl rfl rfl rfl) (Fc3 ⟨rfl,rfl⟩ ⟨rfl,rfl⟩ ⟨rfl,rfl⟩) (λi=> ?_) (λi=> ?_) (λy hy r hr=>(Zb9 (Zoq _ _ _) y hy r hr).1) (λy hy c hc r hr=>by rw[Zb8 (x:= .mref mb) rfl y hy c hc]at hr;cases hr) (λb' c' hbc p hp r hr=> ?_));by_cases e:i=59;right;subst e;rfl;left;show qV mine.length [] [] i=none;unfold qV;rw[if_neg e,if_neg (by rintro ⟨h1,h2⟩;rw[Js]at h2;omega)];by_cases e:mb=i;right;subst e;show UF mb _ mb=upd _ mb _ mb;rw[Tx,Za];rfl;left;unfold UF;exact Zf _ _ e;obtain⟨rfl,rfl⟩:=ZbL hbc;simp[vsV]at hp;obtain⟨⟨k,ks⟩,hk,hks,hnd⟩:=x;simp only at hk hks hnd ⊢;by_cases h:(k:Int)<(seen.length:Int);refine⟨_,Gh.refl _,?_⟩;have hka:k<seen.length:=by omega
 have i0:=Jb k
 have w1:=wk9 (k:=k) (by omega)
 have htk1:seen.take (k+1)=seen.take k++ [seen.getD k Jd]:=ZI (d:=Jd) hka;generalize hx:seen.getD k Jd=x at *;have hfp:=Zau (spO x) ks;simp only[spO]at hfp;have hsx:Sized 15 [opv x]:=Yb [x];have hax:YZ [opv x]:=Xr [x];simp only[opv]at hsx hax;have q80:qV mine.length (seen.take k) ks 80=none:=by unfold qV;rw[if_neg (by omega),if_neg (by omega)]
 have q82:qV mine.length (seen.take k) ks 82=none:=by unfold qV;rw[if_neg (by omega),if_neg (by omega)]
 have hr1:=Ym (show 1<=1000000 by omega) (show 176<=1000 by omega);cases hf:ks.findIdx? (λy=>decide (spO x=y))with
 |none=>
  have hnk:spO x∉ks:=Zgc.1 hf;have h00:Z2 (seen.take k) (spO x)= []:=Zbc λhh=>hnk ((hks _).2 hh)
  have hnew:=Zo8 hnk h00 (.sl .nil []);simp only[spO]at hf;rw[hf]at hfp;simp only[go_sem,vst,vwL,vwH,h,i0,Zt,ZC hka,hx,opv,Tx,hfp,q80,q82,hr1,w1];refine⟨by omega,by simp,⟨(k+1,ks++ [spO x]),hka,λs=> ?_,?_⟩,nx9 (by omega),?_⟩
  ·rw[htk1,Jp,hks s,Jj];constructor
   ·rintro (⟨o,h1,h2⟩|rfl)
    ·exact⟨o,Jp.2 (.inl h1),h2⟩
    ·exact⟨x,by simp,rfl⟩
   ·rintro ⟨o,h1,h2⟩
    rcases Jp.1 h1 with h1|h1
    ·exact .inl ⟨o,h1,h2⟩
    ·rw[Jj.1 h1]at h2;exact .inr h2.symm
  ·refine List.nodup_append.2 ⟨hnd,by simp,λa ha c hc e=> ?_⟩;rw[Jj.1 hc]at e;exact hnk (e▸ha)
  ·show Gh _ (vst 109 (vwL cart mine seen (k+1)) (vwH F (.mref mb)) (qV mine.length (seen.take (k+1)) (ks++ [spO x])) (UF mb ⟨(ks++ [spO x]).map spv,vsV (seen.take (k+1)) (ks++ [spO x])⟩));have e:((vsV (seen.take k) ks++ [JQ .nil []]).set ks.length (.sl (.row 82) [opv x])).set ks.length (.sl (.row (1000+ks.length)) [opv x])=vsV (seen.take k++ [x]) (ks++ [spO x]):=by rw[KX];exact hnew
   rw[htk1,<-e,Jf];refine ZcX (kk:=82) (d:=1000+ks.length) (sz:=15) (k:=1) (e:=48) (c:=⟨ks.map spv++ [spv (spO x)],(vsV (seen.take k) ks++ [JQ .nil []]).set ks.length (.sl (.row 82) [opv x])⟩) (es:= [opv x]) rfl (Fc8 rfl rfl rfl rfl rfl rfl rfl rfl) (Fc3 ⟨rfl,rfl⟩ ⟨rfl,rfl⟩ ⟨rfl,rfl⟩) ?_ ?_ ?_ rfl (by omega) ?_ ?_ (λi h1 h2=> ?_) (λy hy r hr=> ?_) (λy hy c hc r hr=>by rw[Zb8 (x:= .mref mb) rfl y hy c hc]at hr;cases hr) (λi h1 h2 r hr=> ?_)
   ·show upd _ mb _ mb=_;rw[Za];rfl
   ·simp[Vj]
   ·rw[getD_lt (by simp[Vj])];simp
   ·have hl0:ks.length<(ks++ [spO x]).length:=by simp
    rw[Zdu _ _ hl0,getD_lt hl0,Ka (Ks _)];simp only[KY,Kl];rw[XL,h00,if_pos rfl];rfl
   ·rw[ZnD hnk (by omega)];exact q82
   ·rw[ZnD hnk h1]
    by_cases e80:i=80
    ·left;rw[e80];exact q80
    ·right;show _=upd (upd (qV mine.length (seen.take k) ks) 80 _) 82 _ i;rw[Zf _ _ (λe=>h2 e.symm),Zf _ _ (λe=>e80 e.symm)]
   ·have:=Zb9 (F:=F) (x:= .mref mb) (Zoq mine.length (seen.take k++ [x]) (ks++ [spO x])) y hy r hr;exact⟨this.1,this.2 _ (by omega)⟩
   ·have hi:i<ks.length:=by simp[Vj]at h1;omega
    have hg:((vsV (seen.take k) ks++ [JQ .nil []]).set ks.length (.sl (.row 82) [opv x])).getD i .any=(vsV (seen.take k) ks).getD i .any:=by
     rw[getD_lt (by simp[Vj];omega),getD_lt (by rw[Vj];exact hi),J7 (by omega),JE (by rw[Vj];exact hi)]
    rw[show(({ ks:=ks.map spv++ [spv (spO x)],vs:=(vsV (seen.take k) ks++ [JQ .nil []]).set ks.length (.sl (.row 82) [opv x]) }:MapC).vs.getD i .any)=(vsV (seen.take k) ks).getD i .any from hg]at hr;rw[Zk7 hi r hr];refine⟨?_,by simp;omega⟩;show qV _ _ _ (1000+i)≠none;rw[Zdu _ _ (by simp;omega)];simp
 |some j=>
  obtain⟨hj,hje⟩:=ZjD hf;have hvs:=ZnN (seen.take k) hj;have hqj:=Zdu mine.length (seen.take k) hj;rw[hje]at hvs hqj;have hset:=Zo9 hnd hj hje (pre:=seen.take k);have htl:=Fv (seen.take k) (spO x);have htk2:(seen.take k).length<=k:=Jv _ _;generalize hth:Z2 (seen.take k) (spO x)=th at *;have hml2:(th.map opv).length=th.length:=Je _;have hszt:=Yb th;have hrm:=Ym (show th.length+1<=1000000 by omega) (show 176<=1000 by omega);simp only[spO]at hf;rw[hf]at hfp;have n80:¬(80=1000+j):=by omega
  have n82:¬(82=1000+j):=by omega
  simp only[go_sem,vst,vwL,vwH,h,i0,Zt,ZC hka,hx,opv,Tx,hfp,q80,q82,hr1,w1,n80,n82,hvs,hqj,hml2,hszt,hrm,hsx,hax];refine⟨by omega,hj,⟨(k+1,ks),hka,λs=> ?_,hnd⟩,nx9 (by omega),?_⟩
  ·rw[htk1,hks s];constructor
   ·rintro ⟨o,h1,h2⟩;exact⟨o,Jp.2 (.inl h1),h2⟩
   ·rintro ⟨o,h1,h2⟩
    rcases Jp.1 h1 with h1|h1
    ·exact⟨o,h1,h2⟩
    ·rw[Jj.1 h1]at h2;have:spO x∈ks:=by rw[<-hje,getD_lt hj];exact JX hj
     obtain⟨o',h3,h4⟩:=(hks _).1 this;exact⟨o',h3,h4.trans h2⟩
  ·show Gh _ (vst 109 (vwL cart mine seen (k+1)) (vwH F (.mref mb)) (qV mine.length (seen.take (k+1)) ks) (UF mb ⟨ks.map spv,vsV (seen.take (k+1)) ks⟩));rw[Jf]at hset;have e:((vsV (seen.take k) ks).set j (.sl (.row 82) (th.map opv++ [opv x]))).set j (.sl (.row (1000+j)) (th.map opv++ [opv x]))=vsV (seen.take k++ [x]) ks:=by rw[KX];exact hset
   rw[htk1,<-e];refine ZcX (kk:=82) (d:=1000+j) (sz:=15) (k:=th.length+1) (e:=48) (c:=⟨ks.map spv,(vsV (seen.take k) ks).set j (.sl (.row 82) (th.map opv++ [opv x]))⟩) (es:=th.map opv++ [opv x]) rfl (Fc8 rfl rfl rfl rfl rfl rfl rfl rfl) (Fc3 ⟨rfl,rfl⟩ ⟨rfl,rfl⟩ ⟨rfl,rfl⟩) ?_ ?_ ?_ rfl (by omega) ?_ ?_ (λi h1 h2=> ?_) (λy hy r hr=> ?_) (λy hy c hc r hr=>by rw[Zb8 (x:= .mref mb) rfl y hy c hc]at hr;cases hr) (λi h1 h2 r hr=> ?_)
   ·show upd _ mb _ mb=_;rw[Za];rfl
   ·show j<(K2 _ _ _).length;rw[Km,Vj];exact hj
   ·show(K2 _ _ _).getD j K8=_;rw[getD_lt (by rw[Km,Vj];exact hj)];simp
   ·rw[Zdu _ _ hj,hje,XL,hth,if_pos rfl,Ja];rfl
   ·rw[Zkj hnd hj hje (by omega)];exact q82
   ·rw[Zkj hnd hj hje h1]
    by_cases e80:i=80
    ·left;rw[e80];exact q80
    ·right;show _=upd (upd (upd (qV mine.length (seen.take k) ks) 80 _) (1000+j) _) 82 _ i;rw[Zf _ _ (λe=>h2 e.symm),Zf _ _ (λe=>h1 e.symm),Zf _ _ (λe=>e80 e.symm)]
   ·have:=Zb9 (F:=F) (x:= .mref mb) (Zoq mine.length (seen.take k++ [x]) ks) y hy r hr;exact⟨this.1,this.2 _ (by omega)⟩
   ·have hi:i<ks.length:=by simpa[Vj]using h1
    have hr:r∈((K2 (vsV (seen.take k) ks) j (.sl (.row 82) (th.map opv++ [opv x]))).getD i .any).ids:=hr;rw[getD_lt (d:=K8) (by rw[Km,Vj];exact hi),J7 (Ne.symm h2),<-getD_lt (d:=K8) (by rw[Vj];exact hi)]at hr;rw[Zk7 hi r hr];refine⟨?_,by simp;omega⟩;show qV _ _ _ (1000+i)≠none;rw[Zdu _ _ hi];simp
 have htk2:seen.take k=seen:=Jn (by omega);have hks2:=hks;rw[htk2]at hks2;have g:Gh (vst 109 (vwL cart mine seen k) (vwH F (.mref mb)) (qV mine.length seen ks) (UF mb ⟨ks.map spv,vsV seen ks⟩)) (vst 109 (vwL cart mine seen k) (vwH F (.rmap (ks.map spv) (ks.map λs=>Zt (Z2 seen s)))) (q59 mine.length) (λ_=>none)):=by
  refine(Gh.omToO (b:=mb) (c:=⟨ks.map spv,vsV seen ks⟩) (Tx _ _) (Zk6 _ _)).trans ?_;rw[Zk8];refine(Gh.pubMap (b:=mb) (i:=15) (c:=⟨ks.map spv,ks.map λs=>Zt (Z2 seen s)⟩) (Za _ _ _) rfl rfl).trans ?_;refine Zf9 rfl (Fc8 rfl rfl rfl rfl rfl rfl rfl rfl) (Fc3 ⟨rfl,rfl⟩ ⟨rfl,rfl⟩ ⟨rfl,rfl⟩) (λi=> ?_) (λi=> .inl rfl) (λy hy r hr=>(Zb9 (q:=q59 mine.length) (by simp[q59,upd]) y hy r hr).1) (λy hy c hc r hr=>by rw[Zb8 (x:= .rmap (ks.map spv) (ks.map λs=>Zt (Z2 seen s))) rfl y hy c hc]at hr;cases hr) (λb' c' hbc=>by cases hbc);by_cases e:59=i;right;subst e;rfl;left;exact Zf _ _ e
 refine⟨_,by rw[htk2];exact g,?_⟩;have hf0:=hfill 0 [] ks hks2;have hf1:=λit=>hfill 1 it ks hks2
 generalize G1 F seen 0 []=E0 at *;have hrl:(GT mine cart).length<=1000:=by
  unfold GT;have h1:=Ud (SQ (Xc mine cart));have h2:=Tv mine cart;have h3:(SQ (Xc mine cart)).length=(Xc mine cart).length:=by simp[SQ]
  omega
 generalize GT mine cart=its at *;generalize hfm:(λi=>G1 F seen 1 i)=fm at *;have hf1:∀it,Pp 66 [.int .i64 1,.str it,.rptr [Zs F],.rptr [.rmap (ks.map spv) (ks.map λs=>Zt (Z2 seen s))]] (Ys (fm it)):=λit=>by rw[<-hfm];exact hf1 it
 have hrw:(its.map λi=>(⟨i,G1 F seen 1 i⟩:Rw))=its.map λi=>⟨i,fm i⟩:=by rw[<-hfm]
 rw[hrw];obtain⟨rws,hrws⟩:∃rws:List Rw,rws=its.map λi=>⟨i,fm i⟩:=⟨_,rfl⟩
 rw[<-hrws];have hlr:its.length=rws.length:=by rw[hrws];simp
 have hgr:∀k,k<rws.length->rws.getD k Jd=⟨its.getD k [],fm (its.getD k [])⟩:=λk hk=>by
  have hki:k<its.length:=by omega
  subst hrws;rw[getD_lt hk,getD_lt hki];simp
 clear hrw hfill hrws;have him:its.length<=maxLen:=by rw[Zb];omega
 simp only[go_sem,vst,vwL,vwH,h,q59];refine vc2 hf0 ?_;simp only[go_sem,Ys];refine vc7 hI ?_;simp only[go_sem];rw[hlr];refine Zr (ι:= { k:Nat // k<=rws.length }) 109 (λx=> [(8,.ptr 8 0),(19,.fn 66 [.ptr 10 0,.ptr 15 0]),(20,.ptr 20 0),(91,.sl .no (its.map .str)),(92,.int .i64 (rws.length:Int)),(93,.int .i64 (x.1:Int))]) (λx=> [(8,[.sl .nil [],.sl .nil []],Hf),(10,[.sl .no (F.map fld)],Ht),(15,[.rmap (ks.map spv) (ks.map λs=>Zt (Z2 seen s))],Ht),(20,[.sl .no (E0.map ent),Zpi 105 rws x.1],Hf)]) (λx=>Zpj 105 x.1) (λx=>rws.length-x.1) ⟨0,Jg _⟩
  ⟨rfl,(Fc6 rfl rfl rfl rfl rfl rfl),Fc4 ⟨rfl,rfl⟩ ⟨rfl,rfl⟩ ⟨rfl,rfl⟩ ⟨rfl,rfl⟩,fnl⟩ (λx=> ?_) (λx=> ?_)
 obtain⟨k,hk⟩:=x;cases k with
 |zero=>exact⟨(Fc6 rfl rfl rfl rfl rfl rfl),(Fc4 rfl rfl rfl rfl)⟩
 |succ k=>exact⟨(Fc6 rfl rfl rfl rfl rfl rfl),Fc4 rfl rfl rfl (by simp[Zpi,Zpj,Jo,JV,Zy])⟩
 clear hk hks hks2 hnd g h htk2;obtain⟨k,hk⟩:=x;simp only;by_cases h:(k:Int)<(rws.length:Int);have hka:k<rws.length:=by omega
 have hki:k<its.length:=by omega
 have w1:=wk9 (k:=k) (by omega)
 have i1:=Jb k
 have hli:(its.map K3).length=rws.length:=by rw[Je,hlr]
 have hO:=hf1 (its.getD k []);have hsn:(rws.take (k+1)).map row=(rws.take k).map row++ [row (rws.getD k Jd)]:=by rw[ZI (d:=Jd) hka,Jf];rfl
 rw[hgr k hka]at hsn;have hsz:=Vg (rws.take k);have hr0:=Ym (show 1<=1000000 by omega) (show 40<=1000 by omega);have hln:((rws.take k).map row).length=k:=by simp;omega
 have g0:=ZP hki;generalize its.getD k []=it at *;have hat:=ZiW [⟨it,fm it⟩];have hst:=Vg [⟨it,fm it⟩];cases k with
 |zero=>
  have h':(0:Int)<(rws.length:Int):=by simpa using h
  simp only[go_sem,Zpi,Zpj,h',g0,i1,hli];refine vDq ?_;simp only[go_sem];refine vc2 hO ?_;have w0:IntKind.i64.wrap 1=1:=w64 (by omega);simp only[go_sem,Ys,w1,w0];refine⟨hr0,⟨⟨0+1,by omega⟩,nx9 (by omega),⟨rfl,(Fc6 rfl rfl rfl rfl rfl rfl),Fc4 ⟨rfl,rfl⟩ ⟨rfl,rfl⟩ ⟨rfl,rfl⟩ ⟨?_,rfl⟩,fcs rfl fnl⟩⟩⟩;show Hs [JQ .no _,JQ (.row 105) _]=Hs [JQ .no _,JQ (.row 105) _];rw[hsn];rfl
 |succ k=>
  have hl3:(rws.take (k+1)).length=k+1:=by rw[Ki];omega
  have hr:=Ym (show k+1+1<=1000000 by omega) (show 40<=1000 by omega);simp only[go_sem,Zpi,Zpj,h,g0,i1,hli];refine vDq ?_;simp only[go_sem];refine vc2 hO ?_;simp only[go_sem,Ys,w1];refine⟨⟨hl3.symm,Vg _,by rw[hl3];exact hr⟩,⟨⟨k+1+1,by omega⟩,by show rws.length-(k+1+1)<rws.length-(k+1);omega,⟨rfl,(Fc6 rfl rfl rfl rfl rfl rfl),Fc4 ⟨rfl,rfl⟩ ⟨rfl,rfl⟩ ⟨rfl,rfl⟩ ⟨?_,rfl⟩,fcs ?_ fnl⟩⟩⟩
  ·show Hs [JQ .no _,JQ (.row 105) _]=Hs [JQ .no _,JQ (.row 105) _];rw[hsn];rfl
  ·show Hs _=Hs _;rw[hl3]
 obtain rfl:k=rws.length:=by omega
 cases rws with
 |nil=>
  have h':¬(0:Int)<0:=by omega
  simp only[go_sem,Zpi,Zpj,h'];rfl
 |cons r rs=>
  have ht:(r::rs).take (rs.length+1)=r::rs:=JA (l:=r::rs);have h':¬((rs.length+1:Nat):Int)<((rs.length+1:Nat):Int):=by omega
  simp only[go_sem,Zpi,Zpj,h',ht];rw[JA];rfl
theorem Zbw:doc Jd= .agg [.sl .no [],.sl .no []]:=rfl
theorem WS (m:List Eg) (l:List Opn) (cart:Str) (b:Tg) (hm:OkM m) (hr:RightM m) (ho:∀o∈l,OkOp o) (hU:(l.map Opn.id).Nodup):
  Pp 23 [tr (Ze m),Zt l,.str cart,tg b] (Zap (Yf m l cart b)):=by
 unfold Yf;by_cases h1:400<(l.length:Int);rw[if_pos h1];refine ZF func23 rfl ntmps23 results23 (UN _) ?_;simp only[go_sem,tr,Zt,tg,h1];simp only[Zap,Zbw];rw[if_neg h1];have hN:=YL cart;cases h2:Z0 cart;rw[h2]at hN;rw[if_pos rfl];refine ZF func23 rfl ntmps23 results23 (UN _) ?_;simp only[go_sem,tr,Zt,tg,h1];refine vc1 hN ?_;simp only[go_sem];simp only[Zap,Zbw];rw[if_neg (by simp)];by_cases h3:(XC (Ze m) b).2=0;rw[if_neg (by simpa using h3)];exact ZiJ m l cart b hm hr (by omega) ho hU h2 h3;rw[if_pos h3];rw[h2]at hN;have hS:=Xy m b hm;have e3:((XC (Ze m) b).2 !=0)=true:=by simpa using h3
 generalize XC (Ze m) b=X at *;obtain⟨F,xc⟩:=X;simp only at h3 e3 ⊢;refine ZF func23 rfl ntmps23 results23 (UN _) ?_;simp only[go_sem,tr,Zt,tg,h1];refine vc1 hN ?_;simp only[go_sem];refine vc5 hS ?_;simp only[go_sem,YF,Zs,e3];simp only[Zap,Zbw]
open Go.PL Go.PL.Srt
def svA:Opn:=⟨⟨1,1⟩,Jd,1,[97],1,[112,101,97,114],Jd,0,Hf,[],[]⟩
theorem Zj4 (e:En):(ent e).nomap=true:=by simp only[ent,KF,Ku,Tw,Jz]
open Go.PL Go.PL.Srt
theorem Zni (f:Fd) (ops:List Opn):(ZgU f ops).l.length<=ops.length+1:=by
 have h1:(Te f).l.length<=1:=by unfold Te;simp only;split<;>simp
 have h2:=GG ops;unfold ZgU;split;simp only;omega;simp only;split;omega;split;omega;simp
theorem Zc1 (l:List Opn) (c:Str):(GT l c).length<=l.length:=by
 unfold GT;have h1:=Ud (SQ (Xc l c));have h2:=Tv l c;have h3:(SQ (Xc l c)).length=(Xc l c).length:=by simp[SQ]
 omega
theorem ZcK {F:List Fd} {seen:List Opn} {sc:Int} {it:Str}:(G1 F seen sc it).length<=F.length/\ ∀e∈G1 F seen sc it,e.l.length<=seen.length+1:=by
 refine⟨by unfold G1;rw[Je];exact Jh _ _,λe he=> ?_⟩;obtain⟨f,_,rfl⟩:=Jq.1 he;have:=Zni f (Z2 seen ⟨it,f.at'⟩);have:=Fv seen ⟨it,f.at'⟩;omega
theorem Zk5 {m:List Eg} {l:List Opn} {cart:Str} {b:Tg} (hm:OkM m):Zli (Yf m l cart b).1:=by
 have hd:Zli (Jd:Dc):=⟨Jg _,Jg _,(λe h=>by cases h),(λe h=>by cases h)⟩;unfold Yf;split;exact hd;split;exact hd;split;exact hd;rename_i h1 _ h3;have hF:=(ZaS hm (a:=b) (show(XC (Ze m) b).2=0 from JP.1 h3)).n;have hs:=SO m (Xm (TL m l) cart) b;have hmi:(Xm (TL m l) cart).length<=(TL m l).length:=Jh _ _;have hli:=SA m l;have hit:=Zc1 (Xm (TL m l) cart) cart;generalize (XC (Ze m) b).1=F at *;generalize V3 m (Xm (TL m l) cart) b=seen at *;have f:=λsc it=>ZcK (F:=F) (seen:=seen) (sc:=sc) (it:=it)
 refine⟨by have:=(f 0 []).1;rw[Zb];simp only;omega,by rw[Zb];simp only[Je];omega,λe he=> ?_,λr hr=> ?_⟩;have:=(f 0 []).2 e he;rw[Zb];omega;simp only[Jq]at hr;obtain⟨i,_,rfl⟩:=hr;refine⟨by have:=(f 1 i).1;rw[Zb];simp only;omega,λe he=> ?_⟩;have:=(f 1 i).2 e he;rw[Zb];omega
open Go.PL
theorem Zby (e:En):(ent e).ids= []:=by simp[ent,Jo,JV]
theorem Zbh (x:En) (l:List En) (hl:(x::l).length<=100000):
  Eff prog 199 [Ys (x::l)] noV (.vsl 7 (x::l).length 5) (ZfL 7 (x::l).length 5 125 ((x::l).map ent)):=by
 have hcl:∀l:List En,∀p∈l.map ent,p.ids= []:=λl=>Yo Zby l
 refine Eff.vn [5,7] func199 (by decide) rfl ntmps199 results199 (by simp) (hcl _) (by simp[Jo,Ys]) (by simp[Jo]) ?_;simp only[go_sem,Ys];have hm:∀p∈ent x::l.map ent,∃y,p=ent y:=λp hp=>by
  rcases JU.1 hp with rfl|hp;exact⟨x,rfl⟩;obtain⟨y,_,rfl⟩:=Jq.1 hp;exact⟨y,rfl⟩
 have hc:∀p∈ent x::l.map ent,p.ids= []:=λp hp=>by obtain⟨y,rfl⟩:=hm p hp;exact Zby y
 have hrm:=Ym (show l.length+1<=1000000 by simp only[Ji]at hl;omega) (show 72<=1000 by omega);refine⟨λp hp=>by obtain⟨y,rfl⟩:=hm p hp;exact⟨rfl,rfl⟩,hc,λp hp=>by rw[hc p hp];simp,hrm,?_⟩;exact ZeO (r0:= .vsl 7 _ 5) hc rfl (.keep _ (by intro i hi;simp[Jo]at hi;subst hi;exact⟨_,Jj.2 rfl,rfl⟩)) rfl rfl
theorem Zbi:Pp 199 [Ys []] (Ys []):=by
 refine ZF func199 rfl ntmps199 results199 (Sq _) ?_;simp only[go_sem,Ys];intro b;cases b;simp only[go_sem,Ys];exact Yi (by omega) (by omega);simp only[go_sem,Ys]
theorem Sb (l:List En) (hl:l.length<=100000) (hl':∀e∈l,e.l.length<=1000000):Pp 156 [Ys l] (Ys l):=by
 have hcl:∀l:List En,∀p∈l.map ent,p.ids= []:=λl=>Yo Zby l
 cases l with
 |nil=>
  have hC:=Zbi;simp only[Ys,JZ]at hC;refine ZF func156 rfl ntmps156 results156 (Sq _) ?_;simp only[go_sem,Ys];refine vc1 hC ?_;simp only[go_sem,Ys];refine Zr (ι:= { x:Nat // x<=(([]:List En)).length }) 21 (λx=> [(0,.sl .no []),(7,.sl .no []),(8,.int .i64 0),(9,.int .i64 (x.1:Int))]) (λx=> []) (λx=> []) (λx=>(([]:List En)).length-x.1) ⟨0,Jg _⟩ ⟨rfl,(Fc4 rfl rfl rfl rfl),fnl,fnl⟩ (λx=>⟨(Fc4 rfl rfl rfl rfl),fnl⟩) (λx=> ?_);obtain⟨k,hk⟩:=x;simp only at hk ⊢;have h0:¬(k:Int)<0:=by omega
  simp only[go_sem,h0];simp only[Ys,JZ]
 |cons x l0=>
  have hC:=Zbh x l0 hl;generalize hA:x::l0=A at *;refine PL.Pure.of_p [] func156 (by decide) rfl ntmps156 results156 (by simp) (Sq _) ?_;simp only[go_sem,Ys];refine Dm 6 hC (hcl _) (by simp[Jo,Ys]) rfl (by simp only[go_sem,Ys]) ?_;simp only[go_sem,K4,id];refine YO (ι:= { k:Nat // k<=A.length }) 21 (λx=> [(0,.vsl 6 A.length 5),(7,.vsl 6 A.length 5),(8,.int .i64 (A.length:Int)),(9,.int .i64 (x.1:Int))]) (λ_=> []) (λ_=> [(6,.vec A.length 5 125)]) (λ_=> []) (λ_=> []) (λ_=> [(6,A.map ent)]) (λ_=> []) [] [] [] (λx=>A.length-x.1) ⟨0,Jg _⟩
   (ZbB rfl (Fc4 rfl rfl rfl rfl) rfl rfl) (λx=>Zd8 (by simp[Jo,JV,Zy]) (Z7 Zby _)) (λx=> ?_)
  obtain⟨k,hk⟩:=x;simp only;by_cases h:(k:Int)<(A.length:Int);have hka:k<A.length:=by omega
  have i0:=Jb k
  have w1:=wk9 (k:=k) (by omega)
  have hO:=VH (A.getD k Jd) (hl' _ (Zh hka));have hset:(A.map ent).set k (ent (A.getD k Jd))=A.map ent:=by
   rw[Up];congr 1;rw[getD_lt hka];exact Kq hka
  simp only[ent]at hset;simp only[go_sem,h,i0,ZB hka,ent];refine vc1 hO ?_;simp only[go_sem,h,i0,ZB hka,ent,hset,w1];exact⟨⟨k+1,by omega⟩,nx9 (by omega),ZbB rfl (Fc4 rfl rfl rfl rfl) rfl rfl⟩;simp only[go_sem,h];exact⟨_,rfl,K7 (by simp) rfl (Je _) (hcl _)⟩
open Go.PL
def YV (it:Str) (a b:List En):List Cg:=((Jy a.length).filter λi=> !decide (a.getD i Jd=b.getD i Jd)).map λi=>⟨1,it,a.getD i Jd,b.getD i Jd,[]⟩
def YJ (it:Str) (a b:List En) (k:Nat):List Cg:=((Jy k).filter λi=> !decide (a.getD i Jd=b.getD i Jd)).map λi=>⟨1,it,a.getD i Jd,b.getD i Jd,[]⟩
theorem GV (it:Str) (a b:List En) (k:Nat):YJ it a b (k+1)=YJ it a b k++(if a.getD k Jd=b.getD k Jd then []else [⟨1,it,a.getD k Jd,b.getD k Jd,[]⟩]):=by
 unfold YJ;rw[Kn,Jt,Jf];congr 1;by_cases h:a.getD k Jd=b.getD k Jd;rw[if_pos h,Jk (by rw[decide_eq_true h];simp)];rfl;rw[if_neg h,Jm (by rw[decide_eq_false h];rfl)];rfl
theorem T2 (it:Str) (a b:List En) (k:Nat):(YJ it a b k).length<=k:=by
 unfold YJ;rw[Je];exact JK (Jh _ _) (by simp)
theorem Zff (it:Str) (a b:List En) (hl:a.length<=100000) (hlb:a.length<=b.length) (ha':∀e∈a,e.l.length<=1000000) (hb':∀e∈b,e.l.length<=1000000):Pp 155 [.str it,Ys a,Ys b] (Zbu (YV it a b)):=by
 have hol:a.length<=maxLen:=by rw[Zb];omega
 have hK:YV it a b=YJ it a b a.length:=rfl;rw[hK];refine ZF func155 rfl ntmps155 results155 (ZcD _) ?_;simp only[go_sem,Ys];refine Yh 7 35 13 127 rfl rfl ?_;refine Zr (ι:= { x:Nat // x<=(a).length }) 38 (λx=> [(0,.str it),(2,Ys b),(7,.sl (.row 35) ((YJ it a b x.1).map chg)),(10,Ys a),(11,.int .i64 (a.length:Int)),(12,.int .i64 (x.1:Int))]) (λx=> []) (λx=> [(35,.live ((YJ it a b x.1).length) (13) (127))]) (λx=>(a).length-x.1) ⟨0,Jg _⟩ ⟨rfl,(Fc6 rfl rfl rfl rfl rfl rfl),fnl,(fcs rfl fnl)⟩ (λx=>⟨(Fc6 rfl rfl (by simp[Jo,Zy]) rfl rfl rfl),fnl⟩) (λx=> ?_);obtain⟨k,hk⟩:=x;simp only at hk ⊢;by_cases h:(k:Int)<(a.length:Int)
 (have hka:k<(a).length:=by omega);(have w1:=We hka (hol));(have i1:=Jb k)
 have hkb:k<b.length:=by omega
 have h':(k:Int)<(b.length:Int):=by omega
 have hsn:=GV it a b k;have hkl:=T2 it a b k;have hE:=Dn (a.getD k Jd) (b.getD k Jd) (by have:=ha' _ (Zh (d:=Jd) hka);rw[Zb];omega) (by have:=hb' _ (Zh (d:=Jd) hkb);rw[Zb];omega);have hO1:=VH (a.getD k Jd) (ha' _ (Zh hka));have hO2:=VH (b.getD k Jd) (hb' _ (Zh hkb));have hml:((YJ it a b k).map chg).length=(YJ it a b k).length:=Je _;have hsz:=V5 (YJ it a b k);have hrm:=Ym (show(YJ it a b k).length+1<=1000000 by omega) (show 192<=1000 by omega);by_cases he:a.getD k Jd=b.getD k Jd;rw[decide_eq_true he]at hE;rw[if_pos he,Jc]at hsn;simp only[go_sem,Ys,h,ZB hka,ZB hkb,ent,i1,h'];refine vDq ?_;simp only[go_sem,Ys,h,ZB hka,ZB hkb,ent,i1,h'];refine vc1 hE ?_;simp only[go_sem,w1];exact⟨⟨k+1,by omega⟩,nx9 (by omega),⟨rfl,by simp only;rw[hsn];exact(Fc6 rfl rfl rfl rfl rfl rfl),fnl,by simp only;rw[hsn];exact fcs rfl fnl⟩⟩;rw[decide_eq_false he]at hE;rw[if_neg he]at hsn;simp only[go_sem,Ys,h,ZB hka,ZB hkb,ent,i1,h'];refine vDq ?_;simp only[go_sem,Ys,h,ZB hka,ZB hkb,ent,i1,h'];refine vc1 hE ?_;simp only[go_sem];refine vDq ?_;simp only[go_sem,Ys,h,ZB hka,ZB hkb,ent,i1,h'];refine vc1 hO1 ?_;simp only[go_sem,Ys,h,ZB hka,ZB hkb,ent,i1,h'];refine vc1 hO2 ?_;simp only[go_sem,ent,hml,hsz,hrm,ZU,Xh,w1];exact⟨⟨k+1,by omega⟩,nx9 (by omega),⟨rfl,by simp only;rw[hsn,Jf];exact(Fc6 rfl rfl rfl rfl rfl rfl),fnl,by simp only;rw[hsn,Ja];exact fcs rfl fnl⟩⟩;obtain rfl:k=a.length:=by omega
 simp only[go_sem,Zbu,h]
open Go.PL
theorem ZhR (it:Str) (a b:List En) (hl:a.length<=100000) (hlb:a.length<=b.length) (ha':∀e∈a,e.l.length<=1000000) (hb':∀e∈b,e.l.length<=1000000):Eff prog 155 [.str it,Ys a,Ys b] noV (.sl (.row 35) ((YV it a b).map chg)) (Ziu 35 (YV it a b).length 13 127):=by
 have hol:a.length<=maxLen:=by rw[Zb];omega
 have hK:YV it a b=YJ it a b a.length:=rfl;rw[hK];refine Eff.rn [] func155 (by decide) rfl ntmps155 results155 (by simp) (by simp[Jo,Ys]) (by simp[Jo]) ?_;simp only[go_sem,Ys];refine Yh 7 35 13 127 rfl rfl ?_;refine Zr (ι:= { x:Nat // x<=(a).length }) 38 (λx=> [(0,.str it),(2,Ys b),(7,.sl (.row 35) ((YJ it a b x.1).map chg)),(10,Ys a),(11,.int .i64 (a.length:Int)),(12,.int .i64 (x.1:Int))]) (λx=> []) (λx=> [(35,.live ((YJ it a b x.1).length) (13) (127))]) (λx=>(a).length-x.1) ⟨0,Jg _⟩ ⟨rfl,(Fc6 rfl rfl rfl rfl rfl rfl),fnl,(fcs rfl fnl)⟩ (λx=>⟨(Fc6 rfl rfl (by simp[Jo,Zy]) rfl rfl rfl),fnl⟩) (λx=> ?_);obtain⟨k,hk⟩:=x;simp only at hk ⊢;by_cases h:(k:Int)<(a.length:Int)
 (have hka:k<(a).length:=by omega);(have w1:=We hka (hol));(have i1:=Jb k)
 have hkb:k<b.length:=by omega
 have h':(k:Int)<(b.length:Int):=by omega
 have hsn:=GV it a b k;have hkl:=T2 it a b k;have hE:=Dn (a.getD k Jd) (b.getD k Jd) (by have:=ha' _ (Zh (d:=Jd) hka);rw[Zb];omega) (by have:=hb' _ (Zh (d:=Jd) hkb);rw[Zb];omega);have hO1:=VH (a.getD k Jd) (ha' _ (Zh hka));have hO2:=VH (b.getD k Jd) (hb' _ (Zh hkb));have hml:((YJ it a b k).map chg).length=(YJ it a b k).length:=Je _;have hsz:=V5 (YJ it a b k);have hrm:=Ym (show(YJ it a b k).length+1<=1000000 by omega) (show 192<=1000 by omega);by_cases he:a.getD k Jd=b.getD k Jd;rw[decide_eq_true he]at hE;rw[if_pos he,Jc]at hsn;simp only[go_sem,Ys,h,ZB hka,ZB hkb,ent,i1,h'];refine vDq ?_;simp only[go_sem,Ys,h,ZB hka,ZB hkb,ent,i1,h'];refine vc1 hE ?_;simp only[go_sem,w1];exact⟨⟨k+1,by omega⟩,nx9 (by omega),⟨rfl,by simp only;rw[hsn];exact(Fc6 rfl rfl rfl rfl rfl rfl),fnl,by simp only;rw[hsn];exact fcs rfl fnl⟩⟩;rw[decide_eq_false he]at hE;rw[if_neg he]at hsn;simp only[go_sem,Ys,h,ZB hka,ZB hkb,ent,i1,h'];refine vDq ?_;simp only[go_sem,Ys,h,ZB hka,ZB hkb,ent,i1,h'];refine vc1 hE ?_;simp only[go_sem];refine vDq ?_;simp only[go_sem,Ys,h,ZB hka,ZB hkb,ent,i1,h'];refine vc1 hO1 ?_;simp only[go_sem,Ys,h,ZB hka,ZB hkb,ent,i1,h'];refine vc1 hO2 ?_;simp only[go_sem,ent,hml,hsz,hrm,ZU,Xh,w1];exact⟨⟨k+1,by omega⟩,nx9 (by omega),⟨rfl,by simp only;rw[hsn,Jf];exact(Fc6 rfl rfl rfl rfl rfl rfl),fnl,by simp only;rw[hsn,Ja];exact fcs rfl fnl⟩⟩;obtain rfl:k=a.length:=by omega
 simp only[go_sem,Zbu,h];exact Zn2 (r0:= .sl (.row 35) _) rfl (.keep _ (by intro i hi;simp[Jo]at hi;subst hi;exact⟨_,Jj.2 rfl,rfl⟩)) rfl
open Go.PL
def Ziq (r:Rw):Cg:=⟨3,r.item,Jd,Jd,r.l⟩
def Zht (r:Rw):Cg:=⟨2,r.item,Jd,Jd,r.l⟩
def VD:List Rw->List Rw->List Cg
 | [],[]=> []
 |p::ps,[]=>Ziq p::VD ps []
 | [],q::qs=>Zht q::VD [] qs
 |p::ps,q::qs=>if XA p.item q.item=Ht then Ziq p::VD ps (q::qs)else if XA q.item p.item=Ht then Zht q::VD (p::ps) qs else YV q.item p.l q.l++VD ps qs
termination_by a b=>a.length+b.length
def DG (l:List Fd) (a b:Dc):List Cg×Int:=if Wt l a=Hf\/Wt l b=Hf then([],5)else(YV [] a.head b.head++VD a.rows b.rows,0)
structure DiS (p q:List Rw) (h0:List Cg) where
 i:Nat
 j:Nat
 acc:List Cg
 row:Nat
 hi:i<=p.length
 hj:j<=q.length
 hl:acc.length<=h0.length+16*(i+j)
 h:acc++VD (p.drop i) (q.drop j)=h0++VD p q
open Go.PL
structure OkDd (d:Dc):Prop where
 h:d.head.length<=100000
 r:d.rows.length<=100000
 e:∀e∈d.head,e.l.length<=1000000
 s:∀r∈d.rows,r.l.length<=100000/\ ∀e∈r.l,e.l.length<=1000000
theorem OkDd.fine {d:Dc} (h:OkDd d):Zli d:=by
 have e:=Zb;refine⟨by have:=h.h;omega,by have:=h.r;omega,λx hx=>by have:=h.e x hx;omega,λr hr=>⟨by have:=(h.s r hr).1;omega,λx hx=>by have:=(h.s r hr).2 x hx;omega⟩⟩
theorem Zf4 {L:List Fd} {es:List En} (h:Xs L es=Ht):es.length=L.length:=by
 simp only[Xs,Jl,decide_eq_true_eq]at h;exact h.1.symm
theorem ZaX {m:List Fd} {d:Dc} (h:Wt m d=Ht):d.head.length=(YG m 0).length/\d.rows.length<=400/\(∀r∈d.rows,r.l.length=(YG m 1).length)/\(YG m 0).length<=16/\(YG m 1).length<=16:=by
 simp only[Wt,ZaE,Jl,Bool.not_eq_true',decide_eq_false_iff_not,Ju,JR]at h;obtain⟨⟨h1,h2,h3⟩,h4⟩:=h;have h16:=ZaZ h1;have hs:∀sc,(YG m sc).length<=16:=λsc=>JK (Jh _ _) h16
 refine⟨Zf4 h3,by omega,λr hr=> ?_,hs 0,hs 1⟩;obtain⟨i,hi,rfl⟩:=JC hr;have:=h4 i hi;simp only[U7,Jl]at this;have e1:=Zf4 this.2;rw[getD_lt hi]at e1;exact e1
theorem D7 (it:Str) (a b:List En):(YV it a b).length<=a.length:=T2 it a b a.length
theorem Sm (x:PV) (l:List Rw):PL.cut (x::l.map row) 1 ((l.length+1:Nat):Int)=l.map row:=by
 have e:((l.length+1:Nat):Int).toNat=l.length+1:=by omega
 simp[PL.cut,e,Jn]
structure DiX (p q:List Rw) (h0:List Cg) where
 P:List Rw
 Q:List Rw
 acc:List Cg
 id:Nat
 hP:∀r∈P,r∈p
 hQ:∀r∈Q,r∈q
 hl:acc.length+16*(P.length+Q.length)<=16+16*(p.length+q.length)
 h:acc++VD P Q=h0++VD p q
 hid:id=25\/id=91\/id=121\/id=44
def FK (x:List Cg) (c:Int):PV:= .tup [Zbu x,.int .i64 c]
theorem Gf (x:List Cg) (c:Int):(FK x c).dids= []:=by simp only[FK,JS,JM,ZcD,Jc]
theorem Zg5 (l:List Fd) (a b:Dc) (hl:l.length<=maxLen) (hl':∀f∈l,f.cases'.length<=1000000) (ha:OkDd a) (hb:OkDd b):
  Pp 114 [Zs l,doc a,doc b] (FK (DG l a b).1 (DG l a b).2):=by
 have hRa:=Do l a hl hl' ha.fine;have hRb:=Do l b hl hl' hb.fine;unfold DG;cases hra:Wt l a;rw[hra]at hRa;rw[if_pos (.inl rfl)];refine ZF func114 rfl ntmps114 results114 (Gf _ _) ?_;simp only[go_sem,Zs,doc];refine Uv ?_;simp only[go_sem];refine vc2 hRa ?_;simp only[go_sem,FK,Zbu];cases hrb:Wt l b;rw[hra]at hRa;rw[hrb]at hRb;rw[if_pos (.inr rfl)];refine ZF func114 rfl ntmps114 results114 (Gf _ _) ?_;simp only[go_sem,Zs,doc];refine Uv ?_;simp only[go_sem];refine vc2 hRa ?_;simp only[go_sem,FK,Zbu];refine vc2 hRb ?_;simp only[go_sem,FK,Zbu];rw[hra]at hRa;rw[hrb]at hRb;rw[if_neg (by simp)];obtain⟨a1,a2,a3,a4,a5⟩:=ZaX hra;obtain⟨b1,b2,b3,_,_⟩:=ZaX hrb;have hO:=ZhR [] a.head b.head ha.h (by omega) ha.e hb.e;refine ZF func114 rfl ntmps114 results114 (Gf _ _) ?_;simp only[go_sem,Zs,doc];refine Zb6 (ι:=DiX a.rows b.rows (YV [] a.head b.head)) 124 (λx=> [(8,.sl (.row x.id) (x.acc.map chg)),(9,.sl .no (x.P.map row)),(10,.sl .no (x.Q.map row))]) (λx=> []) (λx=> [(x.id,.live x.acc.length 13 127)]) (λx=>x.P.length+x.Q.length) 0 _ (by exact rfl) (λx=>⟨Fc3 (by simp[Jo,Zy]) rfl rfl,fnl⟩) (λx=> ?_) (λcut=> ?_)
 ·obtain⟨P,Q,acc,id,hP,hQ,hl,h,hid⟩:=x;simp only;cases P with
  |nil=>
   cases Q with
   |nil=>
    rw[VD,Jc]at h;rw[<-h];simp only[go_sem,FK,Zbu]
   |cons q qs=>
    have r0:(0:Int)<=0:=by omega
    have hml:(acc.map chg).length=acc.length:=Je _;have hsz:=V5 acc;have hrm:=Ym (show acc.length+1<=1000000 by have:=Jg;simp only[Ji,Js]at hl;omega) (show 192<=1000 by omega);have hl0:True:=trivial;have hg0:True:=trivial;have kl0:(((qs.length+1:Nat):Int)==0)=false:=by simp;omega
    have kg0:(0:Int)<((qs.length+1:Nat):Int):=by omega
    have ks1:(1:Int)<=((qs.length+1:Nat):Int):=by omega
    have ksr:=Vg qs;have hO2:=Sb q.l (hb.s q (hQ q (by simp))).1 (hb.s q (hQ q (by simp))).2;simp only[go_sem,row,hl0,hg0,kl0,kg0,r0];refine vDq ?_;simp only[go_sem,row,hl0,hg0,kl0,kg0,r0];refine vDq ?_;simp only[go_sem,row,hl0,hg0,kl0,kg0,r0];refine vDq ?_;simp only[go_sem,row,hl0,hg0,kl0,kg0,r0];refine vc1 hO2 ?_;rcases hid with rfl|rfl|rfl|rfl
    all_goals
     simp only[go_sem,row,hl0,hg0,kl0,kg0,r0,Ys,hml,hsz,hrm,ZU,Xh,Kc,Sm,ks1,ksr];exact⟨⟨[],qs,acc++ [Zht q],121,hP,λx hx=>hQ x (by simp[hx]),by simp only[Ja,Ji,Js]at hl ⊢;omega,by rw[<-h,VD,Jw];rfl,.inr (.inr (.inl rfl))⟩,by show _+qs.length<_+(q::qs).length;simp only[Ji];omega,⟨rfl,Fc3 (by show JQ _ _=JQ _ _;rw[Jf];rfl) rfl rfl,fnl,fcs (by show Hs (Row.live _ 13 _)=Hs (Row.live _ 13 _);rw[Ja];rfl) fnl⟩⟩
  |cons r ps=>
   cases Q with
   |nil=>
    have r0:(0:Int)<=0:=by omega
    have hml:(acc.map chg).length=acc.length:=Je _;have hsz:=V5 acc;have hrm:=Ym (show acc.length+1<=1000000 by have:=Jg;simp only[Ji,Js]at hl;omega) (show 192<=1000 by omega);have hl0:(((ps.length+1:Nat):Int)==0)=false:=by simp;omega
    have hg0:(0:Int)<((ps.length+1:Nat):Int):=by omega
    have hs1:(1:Int)<=((ps.length+1:Nat):Int):=by omega
    have hsr:=Vg ps;have kl0:True:=trivial;have kg0:True:=trivial;have hO1:=Sb r.l (ha.s r (hP r (by simp))).1 (ha.s r (hP r (by simp))).2;simp only[go_sem,row,hl0,hg0,kl0,kg0,r0];refine vDq ?_;simp only[go_sem,row,hl0,hg0,kl0,kg0,r0];refine vDq ?_;simp only[go_sem,row,hl0,hg0,kl0,kg0,r0];refine vc1 hO1 ?_;rcases hid with rfl|rfl|rfl|rfl
    all_goals
     simp only[go_sem,row,hl0,hg0,kl0,kg0,r0,Ys,hml,hsz,hrm,ZU,Xh,Kc,Sm,hs1,hsr];exact⟨⟨ps,[],acc++ [Ziq r],91,λx hx=>hP x (by simp[hx]),hQ,by simp only[Ja,Ji,Js]at hl ⊢;omega,by rw[<-h,VD,Jw];rfl,.inr (.inl rfl)⟩,by show ps.length+_<(r::ps).length+_;simp only[Ji];omega,⟨rfl,Fc3 (by show JQ _ _=JQ _ _;rw[Jf];rfl) rfl rfl,fnl,fcs (by show Hs (Row.live _ 13 _)=Hs (Row.live _ 13 _);rw[Ja];rfl) fnl⟩⟩
   |cons q qs=>
    have r0:(0:Int)<=0:=by omega
    have hml:(acc.map chg).length=acc.length:=Je _;have hsz:=V5 acc;have hrm:=Ym (show acc.length+1<=1000000 by have:=Jg;simp only[Ji,Js]at hl;omega) (show 192<=1000 by omega);have hl0:(((ps.length+1:Nat):Int)==0)=false:=by simp;omega
    have hg0:(0:Int)<((ps.length+1:Nat):Int):=by omega
    have hs1:(1:Int)<=((ps.length+1:Nat):Int):=by omega
    have hsr:=Vg ps;have kl0:(((qs.length+1:Nat):Int)==0)=false:=by simp;omega
    have kg0:(0:Int)<((qs.length+1:Nat):Int):=by omega
    have ks1:(1:Int)<=((qs.length+1:Nat):Int):=by omega
    have ksr:=Vg qs;have hO1:=Sb r.l (ha.s r (hP r (by simp))).1 (ha.s r (hP r (by simp))).2;have hO2:=Sb q.l (hb.s q (hQ q (by simp))).1 (hb.s q (hQ q (by simp))).2;cases c1:XA r.item q.item
    ·cases c2:XA q.item r.item
     ·have hO3:=Zff q.item r.l q.l (ha.s r (hP r (by simp))).1 (by rw[a3 r (hP r (by simp)),b3 q (hQ q (by simp))];exact Ks _) (ha.s r (hP r (by simp))).2 (hb.s q (hQ q (by simp))).2;have hol:=D7 q.item r.l q.l;have ha3:=a3 r (hP r (by simp));rw[VD,if_neg (by rw[c1];simp),if_neg (by rw[c2];simp)]at h;have hos:=V5 (YV q.item r.l q.l);have hoa:=ZiU (YV q.item r.l q.l);have hom:((YV q.item r.l q.l).map chg).length=(YV q.item r.l q.l).length:=Je _;have hro:=Ym (show acc.length+(YV q.item r.l q.l).length<=1000000 by simp only[Ji,Js]at hl;omega) (show 192<=1000 by omega);simp only[go_sem,row,hl0,hg0,kl0,kg0,r0,c1,c2];refine vDq ?_;simp only[go_sem,row,hl0,hg0,kl0,kg0,r0,c1,c2];refine vDq ?_;simp only[go_sem,row,hl0,hg0,kl0,kg0,r0,c1,c2];refine vDq ?_;simp only[go_sem,row,hl0,hg0,kl0,kg0,r0,c1,c2];refine vc1 hO3 ?_;rcases hid with rfl|rfl|rfl|rfl
      all_goals
       simp only[go_sem,row,hl0,hg0,kl0,kg0,r0,c1,c2,Zbu,hml,hsz,hos,hoa,hom,hro,ZU,Xh];refine vDq ?_;simp only[go_sem,row,hl0,hg0,kl0,kg0,r0,c1,c2,Kc,Sm,hs1,hsr,ks1,ksr];exact⟨⟨ps,qs,acc++YV q.item r.l q.l,44,λx hx=>hP x (by simp[hx]),λx hx=>hQ x (by simp[hx]),by simp only[Ja,Ji,Js]at hl ⊢;omega,by rw[<-h,Jw],.inr (.inr (.inr rfl))⟩,by show ps.length+qs.length<(r::ps).length+(q::qs).length;simp only[Ji];omega,⟨rfl,Fc3 (by show JQ _ _=JQ _ _;rw[Jf]) rfl rfl,fnl,fcs (by show Hs (Row.live _ 13 _)=Hs (Row.live _ 13 _);rw[Ja]) fnl⟩⟩
     ·rw[VD,if_neg (by rw[c1];simp),if_pos c2]at h;simp only[go_sem,row,hl0,hg0,kl0,kg0,r0,c1,c2];refine vDq ?_;simp only[go_sem,row,hl0,hg0,kl0,kg0,r0,c1,c2];refine vDq ?_;simp only[go_sem,row,hl0,hg0,kl0,kg0,r0,c1,c2];refine vDq ?_;simp only[go_sem,row,hl0,hg0,kl0,kg0,r0,c1,c2];refine vc1 hO2 ?_;rcases hid with rfl|rfl|rfl|rfl
      all_goals
       simp only[go_sem,row,hl0,hg0,kl0,kg0,r0,c1,c2,Ys,hml,hsz,hrm,ZU,Xh,Kc,Sm,hs1,hsr,ks1,ksr];exact⟨⟨r::ps,qs,acc++ [Zht q],121,hP,λx hx=>hQ x (by simp[hx]),by simp only[Ja,Ji,Js]at hl ⊢;omega,by rw[<-h,Jw];rfl,.inr (.inr (.inl rfl))⟩,by show _+qs.length<_+(q::qs).length;simp only[Ji];omega,⟨rfl,Fc3 (by show JQ _ _=JQ _ _;rw[Jf];rfl) rfl rfl,fnl,fcs (by show Hs (Row.live _ 13 _)=Hs (Row.live _ 13 _);rw[Ja];rfl) fnl⟩⟩
    ·rw[VD,if_pos c1]at h;simp only[go_sem,row,hl0,hg0,kl0,kg0,r0,c1];refine vDq ?_;simp only[go_sem,row,hl0,hg0,kl0,kg0,r0,c1];refine vDq ?_;simp only[go_sem,row,hl0,hg0,kl0,kg0,r0,c1];refine vc1 hO1 ?_;rcases hid with rfl|rfl|rfl|rfl
     all_goals
      simp only[go_sem,row,hl0,hg0,kl0,kg0,r0,c1,Ys,hml,hsz,hrm,ZU,Xh,Kc,Sm,hs1,hsr,ks1,ksr];exact⟨⟨ps,q::qs,acc++ [Ziq r],91,λx hx=>hP x (by simp[hx]),hQ,by simp only[Ja,Ji,Js]at hl ⊢;omega,by rw[<-h,Jw];rfl,.inr (.inl rfl)⟩,by show ps.length+_<(r::ps).length+_;simp only[Ji];omega,⟨rfl,Fc3 (by show JQ _ _=JQ _ _;rw[Jf];rfl) rfl rfl,fnl,fcs (by show Hs (Row.live _ 13 _)=Hs (Row.live _ 13 _);rw[Ja];rfl) fnl⟩⟩
 simp only[go_sem];refine vc2 hRa ?_;simp only[go_sem];refine vc2 hRb ?_;simp only[go_sem];refine Zne 25 hO (by simp[Jo,Ys]) rfl ?_ ?_;simp only[go_sem,Ys];simp only[go_sem];refine vDq ?_;simp only[go_sem];refine Yr (cut ⟨a.rows,b.rows,YV [] a.head b.head,25,λ_ h=>h,λ_ h=>h,?_,rfl,.inl rfl⟩ _ ⟨rfl,Fc3 rfl rfl rfl,fnl,fcs rfl fnl⟩);have:=D7 [] a.head b.head;omega
open Go.PL
def UG (v:List Int):PV:= .agg (v.map (.int .i64))
def TN (v:List Int):Bool:=v.all λn=>decide (0<=n)&&decide (n<=400)
def VG (v:List Int) (t:Tg):Bool:=Vl t&&decide (t.n<=v.getD (t.r-1).toNat 0)
theorem Sv {v:List Int} {i:Nat} (h:i<v.length):(v.map (Ke .i64)).getD i .any= .int .i64 (v.getD i 0):=by
 simp[List.getD_eq_getElem?_getD,h]
theorem ZY {v:List Int} (h:v.length=6):KU 6 (v.map (Ke .i64))=v.map (Ke .i64):=Jn (by simp[h])
theorem GX {v:List Int} {i:Nat} (h:i<v.length) (hn:¬(0<=v.getD i 0/\v.getD i 0<=400)):TN v=false:=by
 rw[JL];intro hr;simp only[TN,Ju,Jl,decide_eq_true_eq]at hr;apply hn;rw[getD_lt h];exact hr _ (JX h)
theorem Fk {v:List Int} (h:∀j,j<v.length->0<=v.getD j 0/\v.getD j 0<=400):TN v=true:=by
 simp only[TN,Ju,Jl,decide_eq_true_eq];intro x hx;obtain⟨i,hi,rfl⟩:=JC hx;have:=h i hi;rwa[getD_lt hi]at this
theorem Zko {v:List Int} (h:TN v=Ht) {j:Nat} (hj:j<v.length):0<=v.getD j 0/\v.getD j 0<=400:=by
 simp only[TN,Ju,Jl,decide_eq_true_eq]at h;rw[getD_lt hj];exact h _ (JX hj)
theorem Fu {t:Tg} (h:Vl t=Ht):IntKind.i64.wrap (t.r-1)=t.r-1/\0<=t.r-1/\t.r-1<6/\(t.r-1).toNat<6/\(t.r-1).toNat<=5:=by
 simp only[Vl,Jl,decide_eq_true_eq]at h;exact⟨w64 (by omega),by omega,by omega,by omega,by omega⟩
def atM (v:List Int) (l:List Opn):List Opn:=l.filter λo=>VG v o.id
theorem Zey (v:List Int) (l:List Opn):(atM v l).Sublist l:=J6
theorem ZlI (v:List Int) {l:List Opn} {k:Nat} (h:k<l.length):atM v (l.take (k+1))=atM v (l.take k)++(if VG v (l.getD k Jd).id=Ht then [l.getD k Jd]else []):=by
 unfold atM;rw[ZI (d:=Jd) h,Jt];congr 1;generalize l.getD k Jd=x;cases hr:VG v x.id;rw[Jk (by rw[hr];simp),if_neg (by simp)];rfl;rw[Jm (by exact hr),if_pos rfl];rfl
def So (v:List Int) (l:List Opn):Bool:=(atM v l).all λo=>o.drops.all (VG v)
def FW (v:List Int) (l:List Opn):Bool:=(Jy 6).all λi=>(Jy (v.getD i 0).toNat).all λn=>decide ((⟨(i:Int)+1,(n:Int)+1⟩:Tg)∈l.map Opn.id)
def WX (v:List Int) (l:List Opn):Bool:=TN v&&(So v l&&FW v (atM v l))
structure Mo where
 id:Tg
 l:List Cg
deriving DecidableEq,Inhabited
def mo (x:Mo):PV:= .agg [.int .i64 x.id.r,.int .i64 x.id.n,.sl .no (x.l.map chg)]
def mos (l:List Mo):PV:= .sl .no (l.map mo)
theorem vc9 {x:Bool} {M:KH} {g:FuncId} {args args':List PV} {K:KR} {r:PV} (h1:Pp g args' r) (h2:K.k r M.m) (h0:Kt M.m args:=by first|(simp only[go_sem,ref,ent,Ys,doc,YD,row,Zs,fld,lns,tg,refs,prs,pr,eg,egs,tgs,lg,lgs,YS,opv,tr,Zt,chg,Zbu,mo,mos,UG];done)|exact rfl) (he:KO M.m args=args':=by first|(simp only[go_sem,ref,ent,Ys,doc,YD,row,Zs,fld,lns,tg,refs,prs,pr,eg,egs,tgs,lg,lgs,YS,opv,tr,Zt,chg,Zbu,mo,mos,UG];done)|exact rfl):@Vo prog x M (Hs (g,args)) K:=Z6 h1 h0 he h2
def ZhO (x:List Mo×Int):PV:= .tup [mos x.1,.int .i64 x.2]
def FL:Nat->List Rw->List Rw->List Cg
 |0,_,_=> []
 |_+1,[],[]=> []
 |n+1,p::ps,[]=>Ziq p::FL n ps []
 |n+1,[],q::qs=>Zht q::FL n [] qs
 |n+1,p::ps,q::qs=>if XA p.item q.item=Ht then Ziq p::FL n ps (q::qs)else if XA q.item p.item=Ht then Zht q::FL n (p::ps) qs else YV q.item p.l q.l++FL n ps qs
theorem To:∀(n:Nat) (p q:List Rw),p.length+q.length<n->VD p q=FL n p q
 |0,_,_,h=>by omega
 |n+1,[],[],_=>by rw[VD];rfl
 |n+1,p::ps,[],h=>by
  rw[VD,FL,To n ps [] (by simp at h ⊢;omega)]
 |n+1,[],q::qs,h=>by
  rw[VD,FL,To n [] qs (by simp at h ⊢;omega)]
 |n+1,p::ps,q::qs,h=>by
  rw[VD,FL,To n ps (q::qs) (by simp at h ⊢;omega),To n (p::ps) qs (by simp at h ⊢;omega),To n ps qs (by simp at h ⊢;omega)]
def ZeL (l:List Fd) (a b:Dc):List Cg×Int:=if Wt l a=Hf\/Wt l b=Hf then([],5)else(YV [] a.head b.head++FL 1000000 a.rows b.rows,0)
theorem Zl1 {l:List Fd} {a b:Dc} (h:a.rows.length+b.rows.length<1000000):DG l a b=ZeL l a b:=by
 unfold DG ZeL;rw[To 1000000 _ _ h]
def Zdo (m:List Eg) (o:Opn) (cart:Str):Bool:=((o.cart==cart)||decide (0<o.drops.length))&&decide (0<(TL m [o]).length)
def FO (m:List Eg) (F:List Fd) (cart:Str) (b:Tg):List Opn->Dc->List Opn->List Mo->List Mo×Int
 |_,_,[],acc=>(acc,0)
 |ah,was,o::s,acc=>
  if Zdo m o cart=Hf then FO m F cart b ah was s acc
  else if(Yf m (ah++ [o]) cart b).2≠0 then([],(Yf m (ah++ [o]) cart b).2)
  else if(DG F was (Yf m (ah++ [o]) cart b).1).2≠0 then([],(DG F was (Yf m (ah++ [o]) cart b).1).2)
  else FO m F cart b (ah++ [o]) (Yf m (ah++ [o]) cart b).1 s (if(DG F was (Yf m (ah++ [o]) cart b).1).1= []then acc else acc++ [⟨o.id,(DG F was (Yf m (ah++ [o]) cart b).1).1⟩])
def Zmi (m:List Eg) (l:List Opn) (cart:Str) (b:Tg):List Mo×Int:=
 if(Yf m l cart b).2≠0 then([],(Yf m l cart b).2)else if(XC (Ze m) b).2≠0 then([],(XC (Ze m) b).2)
 else if(Yf m [] cart b).2≠0 then([],(Yf m [] cart b).2)else FO m (XC (Ze m) b).1 cart b [] (Yf m [] cart b).1 (Srt.srt Yl l) []
def ZdT (c:Cg) (item:Str) (place:Rf):Bool:=(c.item==item)&&((c.kind==2)||((c.kind==1)&&decide (c.now.at'=place)))
open Go.PL
def TH (m:List Opn) (t:Tg):Option Opn:=m.find? λo=>decide (o.id=t)
def Um (m:List Opn) (o:Opn):List Opn×Int:=
 if XJ o=Hf then(m,5)else
 if TH m o.id=Hs o then(m,7)else
 if(TH m o.id).isSome=Ht then(m,15)else
 if 1<o.id.n/\(TH m ⟨o.id.r,o.id.n-1⟩).isSome=Hf then(m,17)else
 if 399<m.length then(m,9)else(m++ [o],0)
def Yp (m:List Opn) (i:Nat):List Opn:=m.filter λo=>decide (o.id.r=(i:Int)+1)
def YX (m:List Opn):List Int:=(Jy 6).map λi=>((Yp m i).length:Int)
structure PoolOk (m:List Opn):Prop where
 l:m.length<=400
 t:∀o∈m,Vl o.id=Ht
 r:∀o∈m,XJ o=Ht
 n:∀i,i<6-> ∀j,j<(Yp m i).length->((Yp m i).getD j Jd).id=⟨(i:Int)+1,(j:Int)+1⟩
theorem ZhU:PoolOk []:=⟨by simp,by simp,by simp,λi _ j hj=>by simp[Yp]at hj⟩
theorem ZdB (m:List Opn) (o:Opn) (i:Nat):Yp (m++ [o]) i=Yp m i++(if o.id.r=(i:Int)+1 then [o]else []):=by
 unfold Yp;rw[Jt];congr 1;by_cases h:o.id.r=(i:Int)+1;rw[if_pos h,Jm (by simpa using h)];rfl;rw[if_neg h,Jk (by simpa using h)];rfl
theorem ZgB (m:List Opn) (i:Nat):(Yp m i).length<=m.length:=Jh _ _
theorem XH (m:List Opn) {i:Nat} (h:i<6):(YX m).getD i 0=((Yp m i).length:Int):=by
 unfold YX;rw[getD_lt (by simpa using h)];simp
theorem Vv {m:List Opn} {o:Opn} {i:Nat}:o∈Yp m i↔o∈m/\o.id.r=(i:Int)+1:=by simp[Yp]
theorem PoolOk.at' {m:List Opn} (h:PoolOk m) {o:Opn} (ho:o∈m):∃i j:Nat,i<6/\j<(Yp m i).length/\o.id=⟨(i:Int)+1,(j:Int)+1⟩/\(Yp m i).getD j Jd=o:=by
 have ht:=h.t o ho;simp only[Vl,Jl,decide_eq_true_eq]at ht;obtain⟨j,hj,hjo⟩:=JC (Vv.2 ⟨ho,show o.id.r=(((o.id.r-1).toNat:Nat):Int)+1 by omega⟩);have hn:=h.n (o.id.r-1).toNat (by omega) j hj;rw[getD_lt hj,hjo]at hn;exact⟨_,j,by omega,hj,hn,by rw[getD_lt hj,hjo]⟩
theorem PoolOk.uni {m:List Opn} (h:PoolOk m) {o p:Opn} (ho:o∈m) (hp:p∈m) (e:o.id=p.id):o=p:=by
 obtain⟨i,j,_,_,h1,h2⟩:=h.at' ho;obtain⟨i',j',_,_,h3,h4⟩:=h.at' hp;rw[h1,h3]at e;injection e with e1 e2
 obtain rfl:i=i':=by omega
 obtain rfl:j=j':=by omega
 rw[<-h2,<-h4]
theorem Sw {m:List Opn} {t:Tg} {o:Opn} (h:TH m t=Hs o):o∈m/\o.id=t:=⟨List.mem_of_find?_eq_some h,by simpa using List.find?_some h⟩
theorem PoolOk.get {m:List Opn} (h:PoolOk m) {o:Opn} (ho:o∈m):TH m o.id=Hs o:=by
 cases hg:TH m o.id with
 |none=>exact absurd (decide_eq_true rfl) (J9.1 hg o ho)
 |some p=>obtain⟨h1,h2⟩:=Sw hg;rw[h.uni h1 ho h2]
theorem PoolOk.has {m:List Opn} (h:PoolOk m) (t:Tg):VG (YX m) t=(TH m t).isSome:=by
 rw[J5];constructor;intro hv;simp only[VG,Jl,decide_eq_true_eq]at hv;obtain⟨h1,h2⟩:=hv;have h3:=Fu h1;simp only[Vl,Jl,decide_eq_true_eq]at h1;rw[XH m (by omega)]at h2;have hj:(t.n-1).toNat<(Yp m (t.r-1).toNat).length:=by omega
 have hn:=h.n (t.r-1).toNat (by omega) _ hj;have hm:=(Vv.1 (Zh (d:=Jd) hj)).1;have he:((Yp m (t.r-1).toNat).getD (t.n-1).toNat Jd).id=t:=by
  rw[hn];cases t;simp only at h1 ⊢;congr 1<;>omega
 have:=h.get hm;rw[he]at this;rw[this];rfl;intro hs;obtain⟨o,ho⟩:=Kf.1 hs;obtain⟨hm,rfl⟩:=Sw ho;obtain⟨i,j,hi,hj,he,_⟩:=h.at' hm;simp only[VG,Jl,decide_eq_true_eq];refine⟨h.t o hm,?_⟩;rw[he];have:((i:Int)+1-1).toNat=i:=by omega
 simp only[this];rw[XH m hi];omega
theorem PoolOk.found {m:List Opn} (h:PoolOk m) {t:Tg} (hv:VG (YX m) t=Ht):TH m t=Hs ((Yp m (t.r-1).toNat).getD (t.n-1).toNat Jd):=by
 rw[h.has]at hv;obtain⟨o,ho⟩:=Kf.1 hv;obtain⟨hm,rfl⟩:=Sw ho;obtain⟨i,j,hi,hj,he,e⟩:=h.at' hm;rw[ho,he];have e1:((i:Int)+1-1).toNat=i:=by omega
 have e2:((j:Int)+1-1).toNat=j:=by omega
 simp only[e1,e2,e]
open Go.PL
theorem SL {o:Opn} (h:XJ o=Ht):Vl o.id=true:=by
 cases ht:Vl o.id;simp[XJ,ht]at h;rfl
theorem Zgw {m:List Opn} (h:PoolOk m) (o:Opn):Um m o=
  if XJ o=Hf then(m,5)else
  if VG (YX m) o.id=Ht then(if(Yp m (o.id.r-1).toNat).getD (o.id.n-1).toNat Jd=o then(m,7)else(m,15))else
  if o.id.n≠((Yp m (o.id.r-1).toNat).length:Int)+1 then(m,17)else
  if 400<=m.length then(m,9)else(m++ [o],0):=by
 unfold Um;cases hr:XJ o;simp only[if_true];simp only[Kz,if_false];have ht:=SL hr;have ht':=ht;simp only[Vl,Jl,decide_eq_true_eq]at ht;cases hv:VG (YX m) o.id;have hn:(TH m o.id).isSome=false:=by rw[<-h.has,hv]
 have hn':TH m o.id=none:=Option.not_isSome_iff_eq_none.1 (by rw[hn];simp);rw[hn'];simp only[reduceCtorEq,if_false,Option.isSome_none,JN];have hlen:((Yp m (o.id.r-1).toNat).length:Int)<o.id.n:=by
  rw[JL]at hv;simp only[VG,ht',JH,ne_eq,decide_eq_true_eq,XH m (show(o.id.r-1).toNat<6 by omega)]at hv;omega
 have hl4:(399<m.length)=(400<=m.length):=by rw[Nat.lt_iff_add_one_le]
 simp only[hl4];have hg:(TH m ⟨o.id.r,o.id.n-1⟩).isSome=(Vl ⟨o.id.r,o.id.n-1⟩&&decide (o.id.n-1<=((Yp m (o.id.r-1).toNat).length:Int))):=by
  rw[<-h.has];simp only[VG,XH m (show(o.id.r-1).toNat<6 by omega)]
 have hc:(1<o.id.n/\(TH m ⟨o.id.r,o.id.n-1⟩).isSome=Hf)↔o.id.n≠((Yp m (o.id.r-1).toNat).length:Int)+1:=by
  rw[hg];constructor;rintro ⟨h1,h2⟩ e;rw[JL]at h2;apply h2;simp only[Vl,Jl,decide_eq_true_eq];omega;intro e;refine⟨by omega,?_⟩;rw[JL];intro h2;simp only[Vl,Jl,decide_eq_true_eq]at h2;omega
 by_cases hq:o.id.n≠((Yp m (o.id.r-1).toNat).length:Int)+1;rw[if_pos (hc.2 hq),if_pos hq];rw[if_neg (λx=>hq (hc.1 x)),if_neg hq];have hf:=h.found hv;rw[hf];simp only[if_true,Option.isSome_some,Option.some.injEq]
theorem PoolOk.put {m:List Opn} (h:PoolOk m) (o:Opn):PoolOk (Um m o).1:=by
 rw[Zgw h];split;exact h;rename_i hr;have hr:XJ o=true:=by simpa using hr
 have ht:=SL hr;have ht':=ht;simp only[Vl,Jl,decide_eq_true_eq]at ht;split;split<;>exact h
 split;exact h;rename_i hn;split;exact h;rename_i hl;refine⟨by rw[Ja];simp;omega,λx hx=> ?_,λx hx=> ?_,λi hi j hj=> ?_⟩;rcases Jp.1 hx with hx|hx;exact h.t x hx;rw[Jj.1 hx];exact ht';rcases Jp.1 hx with hx|hx;exact h.r x hx;rw[Jj.1 hx];exact hr;rw[ZdB]at hj ⊢;by_cases e:o.id.r=(i:Int)+1;rw[if_pos e]at hj ⊢;have ei:(o.id.r-1).toNat=i:=by omega
 rw[ei]at hn;by_cases hj2:j<(Yp m i).length;rw[getD_lt hj,JE hj2];have:=h.n i hi j hj2;rwa[getD_lt hj2]at this;rw[Ja]at hj;simp only[Ji,Js]at hj;obtain rfl:j=(Yp m i).length:=by omega
 rw[getD_lt (by simp),Ka (Ks _)];simp only[KY,Kl];have hn2:o.id.n=((Yp m i).length:Int)+1:=by omega
 rw[<-e,<-hn2];rw[if_neg e]at hj ⊢;rw[Jc]at hj ⊢;exact h.n i hi j hj
open Go.PL
def Zcb (m:List Opn):List Opn:=(Jy 6).flatMap (Yp m)
theorem SF {m:List Opn} (h:PoolOk m) {o:Opn}:o∈Zcb m↔o∈m:=by
 constructor;intro ho;obtain⟨i,_,hi⟩:=KK.1 ho;exact(Vv.1 hi).1;intro ho;obtain⟨i,j,hi,hj,_,e⟩:=h.at' ho;exact KK.2 ⟨i,JR.2 hi,by rw[<-e];exact Zh hj⟩
theorem ZdP (k:Nat):∀(m:List Opn),(∀o∈m,1<=o.id.r)->((Jy k).flatMap (Yp m)).length=(m.filter λo=>decide (o.id.r<=(k:Int))).length:=by
 induction k with
 |zero=>
  intro m h;rw[Kk.2 (λo ho=>by have:=h o ho;simp only[decide_eq_true_eq];omega)];rfl
 |succ k ih=>
  intro m h;rw[Kn,Kw,Ja,ih m h];simp only[List.flatMap_cons,List.flatMap_nil,Jc];induction m with
  |nil=>rfl
  |cons o m im=>
   have h0:=h o (by simp);have h1:=im (λx hx=>h x (by simp[hx]));unfold Yp at h1 ⊢;by_cases a:o.id.r<=(k:Int);rw[Jm (by simpa using a),Jk (by simp only[decide_eq_true_eq];omega),Jm (by simp only[decide_eq_true_eq];omega)];simp only[Ji];omega;by_cases b:o.id.r=(k:Int)+1;rw[Jk (by simpa using a),Jm (by simpa using b),Jm (by simp only[decide_eq_true_eq];omega)];simp only[Ji];omega;rw[Jk (by simpa using a),Jk (by simpa using b),Jk (by simp only[decide_eq_true_eq];omega)];exact h1
theorem Zgs {m:List Opn} (h:PoolOk m):(Zcb m).length=m.length:=by
 have ht:∀o∈m,1<=o.id.r/\o.id.r<=6:=λo ho=>by
  have:=h.t o ho;simp only[Vl,Jl,decide_eq_true_eq]at this;omega
 unfold Zcb;rw[ZdP 6 m λo ho=>(ht o ho).1,Kx.2 λo ho=>by have:=ht o ho;simp only[decide_eq_true_eq];omega]
theorem ZiS {m:List Opn} (h:PoolOk m):atM (YX m) (Zcb m)=Zcb m:=
 Kx.2 λo ho=>by
  have hm:=(SF h).1 ho;rw[h.has,h.get hm];rfl
theorem PoolOk.nodup {m:List Opn} (h:PoolOk m):((Zcb m).map Opn.id).Nodup:=by
 have hrow:∀i,i<6->((Yp m i).map Opn.id).Nodup:=λi hi=>by
  rw[KB,List.pairwise_iff_getElem];intro a b ha hb hab;rw[Je]at ha hb;have h1:=h.n i hi a ha;have h2:=h.n i hi b hb;rw[getD_lt ha]at h1;rw[getD_lt hb]at h2;rw[JB,JB,h1,h2];simp only[ne_eq,Tg.mk.injEq];omega
 unfold Zcb;rw[List.map_flatMap,KB,List.pairwise_flatMap];refine⟨λi hi=>hrow i (JR.1 hi),?_⟩;refine List.Pairwise.imp ?_ List.nodup_range;intro i j hij x hx y hy hxy;obtain⟨o,ho,rfl⟩:=Jq.1 hx;obtain⟨p,hp,e⟩:=Jq.1 hy;have h1:=(Vv.1 ho).2;have h2:=(Vv.1 hp).2;rw[e,<-hxy]at h2;exact hij (by omega)
open Go.PL
def VT (l:List Opn):List Opn:=l.foldl (λm o=>(Um m o).1) []
theorem Zf5 (l:List Opn):PoolOk (VT l):=by
 unfold VT
 suffices h:∀m,PoolOk m->PoolOk (l.foldl (λm o=>(Um m o).1) m)from h [] ZhU
 induction l with
 |nil=>intro m h;exact h
 |cons o l ih=>intro m h;exact ih _ (h.put o)
theorem ZhB {l:List Opn} {k:Nat} (h:k<l.length):VT (l.take (k+1))=(Um (VT (l.take k)) (l.getD k Jd)).1:=by
 unfold VT;rw[ZI (d:=Jd) h,KE];rfl
theorem Zki {m:List Opn} {o x:Opn} (h:x∈(Um m o).1):x∈m\/x=o:=by
 unfold Um at h;repeat' split at h
 all_goals first|exact .inl h|exact(Jp.1 h).imp id (λh=>Jj.1 h)
theorem ZcJ {l:List Opn} {x:Opn} (h:x∈VT l):x∈l:=by
 unfold VT at h
 suffices g:∀m,x∈l.foldl (λm o=>(Um m o).1) m->x∈m\/x∈l from(g [] h).resolve_left (by simp)
 clear h;induction l with
 |nil=>intro m h;exact .inl h
 |cons o l ih=>
  intro m h;rcases ih _ h with h|h;rcases Zki h with h|rfl;exact .inl h;exact .inr (by simp);exact .inr (by simp[h])
theorem ZeH {m:List Opn} (h:PoolOk m):WX (YX m) (Zcb m)=m.all λo=>o.drops.all (VG (YX m)):=by
 have h1:TN (YX m)=true:=by
  refine Fk λj hj=> ?_
  have hj6:j<6:=by simpa[YX]using hj
  rw[XH m hj6];have:=ZgB m j;have:=h.l;omega
 have h2:FW (YX m) (Zcb m)=true:=by
  simp only[FW,Ju,JR,decide_eq_true_eq];intro i hi n hn;rw[XH m hi]at hn;have hn':n<(Yp m i).length:=by omega
  have h3:=h.n i hi n hn';refine Jq.2 ⟨(Yp m i).getD n Jd,(SF h).2 (Vv.1 (Zh hn')).1,h3⟩
 unfold WX So;rw[ZiS h,h1,h2,JH,J3,J5,Ju,Ju];exact⟨λg x hx=>g x ((SF h).2 hx),λg x hx=>g x ((SF h).1 hx)⟩
open Go.PL
@[go_sem] theorem Zpk (m:Hp) (k:IntKind) (l:List Int):KO m (l.map (.int k))=l.map (.int k):=by
 induction l with
 |nil=>rfl
 |cons a l ih=>simp only[JD,KO,ih,PV.give]
@[go_sem] theorem Zme (m:Hp) (k:IntKind) (l:List Int):Kt m (l.map (.int k))=True:=by
 induction l with
 |nil=>rfl
 |cons a l ih=>simp only[JD,Kt,ih,K5,and_self]
theorem XW (v:List Int):JV (v.map (.int .i64))= []:=by
 induction v with
 |nil=>rfl
 |cons a v ih=>simp only[JD,JV,Jo,ih,Jc]
theorem Zet (v:List Int) (hv:v.length=6):Pp 72 [UG v] (.bool (TN v)):=by
 refine Zz func72 rfl ntmps72 results72 ?_;simp only[go_sem,UG,hv,ZY hv];refine Zr (ι:= { i:Nat // i<=6/\ ∀j,j<i->0<=v.getD j 0/\v.getD j 0<=400 }) 16 (λi=> [(5,UG v),(6,.int .i64 (i.1:Int))]) (λ_=> []) (λ_=> []) (λi=>6-i.1) ⟨0,by omega,λj hj=>by omega⟩
  ⟨rfl,(Fc2 rfl rfl),fnl,fnl⟩ (λi=>⟨Fc2 (by simp[UG,Jo,XW]) rfl,fnl⟩) (λi=> ?_)
 obtain⟨i,hi,hall⟩:=i;simp only;simp only[go_sem,UG,hv];refine Zp (λh=> ?_) (λh=> ?_);have hi6:i<v.length:=by have:=of_decide_eq_true h;omega
 have i0:=Jb i
 have i5:i<=5:=by omega
 have i6:(i:Int)<6:=by omega
 simp only[go_sem,UG,h,hv,i0,i5,i6,Sv hi6];refine Zj (λh1=> ?_) (λh1=> ?_);simp only[go_sem,h1,hv];exact(GX hi6 (by have:=of_decide_eq_true h1;omega));simp only[go_sem,h1,hv];refine Zp (λh2=> ?_) (λh2=> ?_);simp only[go_sem,h2];exact(GX hi6 (by have:=of_decide_eq_true h2;omega));simp only[go_sem,h2];have h3:=of_decide_eq_false h1;have h4:=of_decide_eq_false h2;rw[IntWalk.i64_in _ (by omega)];refine⟨⟨i+1,by omega,λj hj=> ?_⟩,by show 6-(i+1)<6-i;omega,⟨rfl,(Fc2 rfl rfl),fnl,fnl⟩⟩;rcases JT j i with hlt|hge;exact hall j hlt;obtain rfl:j=i:=by omega
 omega;simp only[go_sem,h];exact(Fk (by rw[hv];intro j hj;exact hall j (by have:=of_decide_eq_false h;omega)))
theorem UI (v:List Int) (hv:v.length=6) (t:Tg):Pp 73 [UG v,tg t] (.bool (VG v t)):=by
 have ht:=Tj t;cases hb:Vl t;rw[hb]at ht;refine Zz func73 rfl ntmps73 results73 ?_;simp only[go_sem,tg,UG,hv];refine vDq ?_;simp only[go_sem,hv];refine vc3 ht ?_;simp only[go_sem,hv];simp[VG,hb];rw[hb]at ht;obtain⟨e1,e2,e3,e4,e5⟩:=Fu hb;refine Zz func73 rfl ntmps73 results73 ?_;simp only[go_sem,tg,UG,hv];refine vDq ?_;simp only[go_sem,hv];refine vc3 ht ?_;simp only[go_sem,hv,e1,e2,e3,e4,e5,Sv];simp[VG,hb]
theorem Zhe (v:List Int) (hv:v.length=6) (t:Tg):Pp 25 [UG v,tg t] (.bool (VG v t)):=by
 have ht:=VI t;cases hb:Vl t;rw[hb]at ht;refine Zz func25 rfl ntmps25 results25 ?_;simp only[go_sem,tg,UG,hv];refine vDq ?_;simp only[go_sem,hv];refine vc3 ht ?_;simp only[go_sem,hv];simp[VG,hb];rw[hb]at ht;obtain⟨e1,e2,e3,e4,e5⟩:=Fu hb;refine Zz func25 rfl ntmps25 results25 ?_;simp only[go_sem,tg,UG,hv];refine vDq ?_;simp only[go_sem,hv];refine vc3 ht ?_;simp only[go_sem,hv,e1,e2,e3,e4,e5,Sv];simp[VG,hb]
open Go.PL
def m6 (m:List Opn):List PV:=(Jy 6).map λi=>Zt (Yp m i)
theorem ZaL (m:List Opn):(m6 m).length=6:=by simp[m6]
theorem ZkK (m:List Opn):KU 6 (m6 m)=m6 m:=Jn (by rw[ZaL];exact Ks _)
theorem ZbA (m:List Opn) {i:Nat} (h:i<6):(m6 m).getD i .any=Zt (Yp m i):=by
 unfold m6;rw[getD_lt (by simpa using h)];simp
theorem ZjB (m:List Opn):JV (m6 m)= []:=rfl
theorem VV (m:List Opn):(YX m).length=6:=by simp[YX]
def ZeV (m:List Opn) (k:Nat):List Int:=(Jy 6).map λi=>if i<k then((Yp m i).length:Int)else 0
theorem ZbD (m:List Opn) (k:Nat):(ZeV m k).length=6:=by simp[ZeV]
theorem Zmh (m:List Opn):ZeV m 6=YX m:=by
 unfold ZeV YX;exact List.map_congr_left λi hi=>if_pos (JR.1 hi)
theorem Zmg (m:List Opn) {k:Nat} (h:k<6):KU k ((ZeV m k).map (Ke .i64))++ [.int .i64 ((Yp m k).length:Int)]++K6 (k+1) ((ZeV m k).map (Ke .i64))=(ZeV m (k+1)).map (.int .i64):=by
 have hl:k<((ZeV m k).map (Ke .i64)).length:=by rw[Je,ZbD];exact h
 have hs:((ZeV m k).map (Ke .i64)).set k (.int .i64 ((Yp m k).length:Int))=_:=List.set_eq_take_append_cons_drop;rw[if_pos hl]at hs;rw[Jw,List.singleton_append,<-hs];refine JW (by simp[ZeV]) λi h1 h2=> ?_
 by_cases e:k=i;subst e;rw[List.getElem_set_self];simp[ZeV];rw[J7 e];simp only[ZeV,JB,JJ];have:(i<k+1)=(i<k):=by simp only[eq_iff_iff];omega
 simp only[this]
theorem Zjy (m:List Opn):(ZeV m 0).map (Ke .i64)= [.int .i64 0,.int .i64 0,.int .i64 0,.int .i64 0,.int .i64 0,.int .i64 0]:=rfl
theorem Zd7 (v:List Int):(v.map (Ke .i64)).all PV.atom=true:=by
 induction v with
 |nil=>rfl
 |cons a v ih=>rw[JD,List.all_cons,ih];rfl
theorem S5 (m:List Opn):Pp 20 [.rptr (m6 m)] (UG (YX m)):=by
 refine Zz func20 rfl ntmps20 results20 ?_;simp only[go_sem,ZaL,ZkK];refine Zr (ι:= { k:Nat // k<=6 }) 23 (λk=> [(2,.ptr 2 0),(3,.ptr 3 0),(12,.agg (m6 m)),(13,.int .i64 (k.1:Int))]) (λk=> [(2,(ZeV m 0).map (.int .i64),Hf),(3,(ZeV m k.1).map (.int .i64),Hf)]) (λ_=> []) (λk=>6-k.1) ⟨0,by omega⟩
  ⟨rfl,(Fc4 rfl rfl rfl rfl),Fc2 ⟨rfl,rfl⟩ ⟨rfl,rfl⟩,fnl⟩ (λk=>⟨(Fc4 rfl rfl rfl rfl),Fc2 rfl (by rw[XW];rfl)⟩) (λk=> ?_)
 obtain⟨k,hk⟩:=k;simp only;by_cases h:(k:Int)<6;have k6:k<6:=by omega
 have k0:=Jb k
 have k5:k<=5:=by omega
 have k7:k+1<=6:=k6;have w1:=wk9 (k:=k) (by omega)
 simp only[go_sem,h,k0,k5,k6,k7,ZaL,ZbA m k6,Zt,ZbD,Zmg m k6,w1];exact⟨⟨k+1,k6⟩,by show 6-(k+1)<6-k;omega,⟨rfl,(Fc4 rfl rfl rfl rfl),Fc2 ⟨rfl,rfl⟩ ⟨rfl,rfl⟩,fnl⟩⟩;obtain rfl:k=6:=by omega
 simp only[go_sem,h,UG,Zmh,Zjy,ZbD,VV,ZY (VV m),Zd7,Ja,Jc]
def Zhw (m:List Opn) (k:Nat):List Opn:=(Jy k).flatMap (Yp m)
theorem DD (m:List Opn) (k:Nat):Zhw m (k+1)=Zhw m k++Yp m k:=by
 unfold Zhw;rw[Kn,Kw];simp
theorem Zjd {m:List Opn} (h:PoolOk m) {k:Nat} (hk:k<=6):(Zhw m k).length<=m.length:=by
 have ht:∀o∈m,1<=o.id.r:=λo ho=>by
  have:=h.t o ho;simp only[Vl,Jl,decide_eq_true_eq]at this;omega
 unfold Zhw;rw[ZdP k m ht];exact Jh _ _
theorem ZiB (m:List Opn) (hm:PoolOk m):Pp 15 [.rptr (m6 m)] (.int .i64 (m.length:Int)):=by
 have hH:=S5 m;have hL:(Zhw m 6).length=m.length:=Zgs hm;have hl:=hm.l;have hv:=VV m;refine Zz func15 rfl ntmps15 results15 ?_;simp only[go_sem];refine vc1 hH ?_;simp only[go_sem,UG];refine Zr (ι:= { k:Nat // k<=6 }) 16 (λk=> [(3,.int .i64 ((Zhw m k.1).length:Int)),(7,UG (YX m)),(8,.int .i64 (k.1:Int))]) (λ_=> []) (λ_=> []) (λk=>6-k.1) ⟨0,by omega⟩
  ⟨rfl,(Fc3 rfl rfl rfl),fnl,fnl⟩ (λk=>⟨Fc3 rfl (by simp[UG,Jo,XW]) rfl,fnl⟩) (λk=> ?_)
 obtain⟨k,hk⟩:=k;simp only;by_cases h:(k:Int)<6;have k6:k<(YX m).length:=by rw[hv];omega
 have k0:=Jb k
 have k5:k<=5:=by omega
 have k7:(k:Int)<6:=by omega
 have w1:=wk9 (k:=k) (by omega)
 have hc:=Zjd hm (k:=k+1) (by omega);have w2:IntKind.i64.wrap (((Zhw m k).length:Int)+(YX m).getD k 0)=((Zhw m (k+1)).length:Int):=by
  rw[XH m (by omega)];rw[DD,Ja]at hc ⊢;rw[w64 (by omega)];omega
 simp only[go_sem,h,UG,hv,k0,k5,k7,Sv k6,w1,w2];exact⟨⟨k+1,by omega⟩,by show 6-(k+1)<6-k;omega,⟨rfl,(Fc3 rfl rfl rfl),fnl,fnl⟩⟩;obtain rfl:k=6:=by omega
 simp only[go_sem,h,hL]
open Go.PL
def opc (x:Opn×Int):PV:= .tup [opv x.1,.int .i64 x.2]
theorem Zgr (x:Opn×Int):(opc x).dids= []:=by simp only[opc,JS,JM,Ty,Jc]
def findP (m:List Opn) (t:Tg):Opn×Int:=if VG (YX m) t=Ht then((Yp m (t.r-1).toNat).getD (t.n-1).toNat Jd,0)else(Jd,6)
theorem Zg9 (m:List Opn) (t:Tg) (ho:∀o∈m,OkOp o):Pp 57 [.rptr (m6 m),tg t] (opc (findP m t)):=by
 have hH:=S5 m;have hV:=UI (YX m) (VV m) t;have hv:=VV m;cases hb:VG (YX m) t;rw[hb]at hV;have hf:findP m t=(Jd,6):=by simp[findP,hb]
 rw[hf];refine ZF func57 rfl ntmps57 results57 (Zgr _) ?_;simp only[go_sem,tg];refine vDq ?_;simp only[go_sem];refine vc1 hH ?_;simp only[go_sem,hv,ZY hv];refine vc9 hV ?_;simp only[go_sem,opc,Zw];rw[hb]at hV;have hf:findP m t=((Yp m (t.r-1).toNat).getD (t.n-1).toNat Jd,0):=by simp[findP,hb]
 rw[hf];have hb':=hb;simp only[VG,Jl,decide_eq_true_eq]at hb';obtain⟨h1,h2⟩:=hb';obtain⟨e1,e2,e3,e4,e5⟩:=Fu h1;rw[XH m e4]at h2;have h1':=h1;simp only[Vl,Jl,decide_eq_true_eq]at h1';have n1:IntKind.i64.wrap (t.n-1)=t.n-1:=w64 (by omega);have n0:0<=t.n-1:=by omega
 have nl:(t.n-1).toNat<(Yp m (t.r-1).toNat).length:=by omega
 have nI:t.n-1<((Yp m (t.r-1).toNat).length:Int):=by omega
 have hO:=Sa _ (ho _ (Vv.1 (Zh (d:=Jd) nl)).1);have hg:=ZC nl;have h6:(K6 (t.r-1).toNat (m6 m)).getD 0 .any=Zt (Yp m (t.r-1).toNat):=by rw[Y1,Kj];exact ZbA m e4
 have e6:1<=6-(t.r-1).toNat:=by omega
 generalize (Yp m (t.r-1).toNat).getD (t.n-1).toNat Jd=x at *;refine ZF func57 rfl ntmps57 results57 (Zgr _) ?_;simp only[go_sem,tg];refine vDq ?_;simp only[go_sem];refine vc1 hH ?_;simp only[go_sem,hv,ZY hv];refine vc9 hV ?_;simp only[go_sem];refine vDq ?_;simp only[go_sem,ZaL,e1,e2,e3,e4,e5,e6,n1,n0,nl,nI,h6,Zt,KG,hg,opv];refine vc6 hO ?_;simp only[go_sem,opc,opv]
theorem Zjw {t:Tg}:VG [0,0,0,0,0,0] t=false:=by
 cases h:Vl t;simp[VG,h];have h1:=h;simp only[Vl,Jl,decide_eq_true_eq]at h1;obtain⟨_,_,_,e4,_⟩:=Fu h;have:([0,0,0,0,0,0]:List Int).getD (t.r-1).toNat 0=0:=by
  generalize (t.r-1).toNat=i at e4;match i,e4 with
  |0,_=>rfl
  |1,_=>rfl
  |2,_=>rfl
  |3,_=>rfl
  |4,_=>rfl
  |5,_=>rfl
 simp only[VG,h,this,JH,decide_eq_false_iff_not];omega
theorem Zei (m:List Opn) (hm:PoolOk m) (ho:∀o∈m,OkOp o):Pp 63 [.rptr (m6 m),UG [0,0,0,0,0,0],.int .i64 400] (Zt (Zcb m)):=by
 have hl:=hm.l;have hlen:∀k,k<6-> ∀j,j<=(Yp m k).length->(Zhw m k++(Yp m k).take j).length<=400:=λk hk j hj=>by
  have:=Zjd hm (k:=k+1) (by omega);rw[DD,Ja]at this;rw[Ja,Ki];omega
 refine ZF func63 rfl ntmps63 results63 (Wn _) ?_;simp only[go_sem,UG,ZaL,ZkK];refine Yh 7 41 15 48 rfl rfl ?_;refine Zr (ι:= { k:Nat // k<=6 }) 45 (λx=> [(2,.int .i64 400),(4,.ptr 4 0),(7,.sl (.row 41) ((Zhw m x.1).map opv)),(17,.agg (m6 m)),(18,.int .i64 (x.1:Int))]) (λx=> [(4,[.int .i64 0,.int .i64 0,.int .i64 0,.int .i64 0,.int .i64 0,.int .i64 0],Hf)]) (λx=> [(41,.live (Zhw m x.1).length 15 48)]) (λx=>6-x.1) ⟨0,by omega⟩
  ⟨rfl,Fc5 rfl rfl rfl rfl rfl,fcs ⟨rfl,rfl⟩ fnl,(fcs rfl fnl)⟩ (λx=>⟨Fc5 rfl rfl (by simp[Jo,Zy]) (by rw[Jo,ZjB];rfl) rfl,fcs rfl fnl⟩) (λx=> ?_)
 obtain⟨k,hk⟩:=x;simp only;by_cases h:(k:Int)<6;have k6:k<6:=by omega
 have k0:=Jb k
 have k5:k<=5:=by omega
 have w1:=wk9 (k:=k) (by omega)
 have hlk:=hlen k k6;have hor:∀o∈Yp m k,OkOp o:=λo h=>ho o (Vv.1 h).1
 have h6:=ZbA m k6;have hcs:=DD m k;generalize hR:Yp m k=R at *;generalize hC:Zhw m k=C at *;simp only[go_sem,h,k0,k5,ZaL,h6,Zt];refine Zr (ι:= { j:Nat // j<=R.length }) 45 (λx=> [(2,.int .i64 400),(4,.ptr 4 0),(7,.sl (.row 41) ((C++R.take x.1).map opv)),(17,.agg (m6 m)),(18,.int .i64 (k:Int)),(21,Zt R),(22,.int .i64 (R.length:Int)),(23,.int .i64 (x.1:Int))]) (λx=> [(4,[.int .i64 0,.int .i64 0,.int .i64 0,.int .i64 0,.int .i64 0,.int .i64 0],Hf)]) (λx=> [(41,.live (C++R.take x.1).length 15 48)]) (λx=>R.length-x.1) ⟨0,Jg _⟩
  ⟨rfl,by simp only[KP,Jc];exact(Fc8 rfl rfl rfl rfl rfl rfl rfl rfl),fcs ⟨rfl,rfl⟩ fnl,by simp only[KP,Jc];exact(fcs rfl fnl)⟩ (λx=>⟨Fc8 rfl rfl (by simp[Jo,Zy]) (by rw[Jo,ZjB];rfl) rfl rfl rfl rfl,fcs rfl fnl⟩) (λx=> ?_)
 obtain⟨j,hj⟩:=x;simp only;by_cases h2:(j:Int)<(R.length:Int);have hja:j<R.length:=by omega
 have j0:=Jb j
 have w2:IntKind.i64.wrap ((j:Int)+1)=((j+1:Nat):Int):=by
  have:=hlk (j+1) hja;rw[Ja,Ki]at this;rw[w64 (by omega)];rfl
 have hO:=Sa _ (hor _ (Zh (d:=Jd) hja));have hH:=UI [0,0,0,0,0,0] rfl (R.getD j Jd).id;rw[Zjw]at hH;have hgd:=ZC hja;have hsn:=ZI (d:=Jd) hja;have hlt:¬(400:Int)<=((C++R.take j).length:Int):=by
  have:=hlk (j+1) hja;rw[hsn,<-Jw,Ja]at this;simp only[Ji,Js]at this;omega
 have hrm:=Ym (show(C++R.take j).length+1<=1000000 by have:=hlk j hj;omega) (show 176<=1000 by omega);have hml:((C++R.take j).map opv).length=(C++R.take j).length:=Je _;have hsz:=Yb (C++R.take j);generalize hx:R.getD j Jd=x at *;have hsx:Sized 15 [opv x]:=Yb [x];have hax:YZ [opv x]:=Xr [x];generalize hT:R.take j=T at *;have e2:C++R.take (j+1)=(C++T)++ [x]:=by rw[hsn,Jw]
 generalize C++T=CT at *;simp only[opv]at hsx hax;simp only[go_sem,h2,Zt,hgd,opv,j0,hlt,hml];refine vc9 hH ?_;simp only[go_sem,opv];refine vc6 hO ?_;simp only[go_sem,opv,hml,hrm,hsz,hsx,hax,w2];exact⟨⟨j+1,by omega⟩,nx9 (by omega),⟨rfl,by simp only;rw[e2,Jf];exact(Fc8 rfl rfl rfl rfl rfl rfl rfl rfl),fcs ⟨rfl,rfl⟩ fnl,by simp only;rw[e2,Ja];exact(fcs rfl fnl)⟩⟩;obtain rfl:j=R.length:=by omega
 simp only[go_sem,h2,JA,w1];exact⟨⟨k+1,k6⟩,by show 6-(k+1)<6-k;omega,⟨rfl,by simp only;rw[hcs];exact(Fc5 rfl rfl rfl rfl rfl),fcs ⟨rfl,rfl⟩ fnl,by simp only;rw[hcs];exact(fcs rfl fnl)⟩⟩;obtain rfl:k=6:=by omega
 simp only[go_sem,h,Zt];rfl
theorem ZiC (m:List Opn) (hm:PoolOk m) (ho:∀o∈m,OkOp o):Pp 22 [.rptr (m6 m)] (Zt (Zcb m)):=by
 have hS:=Zei m hm ho;refine ZF func22 rfl ntmps22 results22 (Wn _) ?_;simp only[go_sem];refine vc9 hS ?_;simp only[go_sem,Zt]
end Go.Proofs.YtepchngegclagaaGreat
namespace Go.PL
end Go.PL
namespace Go.Proofs.YtepchngegclagaaGreat
open Go.PL
theorem ZiR (v:List Int) (l:List Opn):(atM v l).length<=l.length:=Jh _ _
theorem Zaj (l:List Opn) (v:List Int) (hl:l.length<=100000) (hv:v.length=6):Pp 62 [Zt l,UG v] (Zt (atM v l)):=by
 have hlm:l.length<=maxLen:=by rw[Zb];omega
 refine ZF func62 rfl ntmps62 results62 (Wn _) ?_;simp only[go_sem,Zt,UG,hv,ZY hv];refine Yh 5 21 15 48 rfl rfl ?_;refine Zr (ι:= { k:Nat // k<=l.length }) 24 (λx=> [(3,.ptr 3 0),(5,.sl (.row 21) ((atM v (l.take x.1)).map opv)),(8,Zt l),(9,.int .i64 (l.length:Int)),(10,.int .i64 (x.1:Int))]) (λx=> [(3,v.map (.int .i64),Hf)]) (λx=> [(21,.live (atM v (l.take x.1)).length 15 48)]) (λx=>l.length-x.1) ⟨0,Jg _⟩
  ⟨rfl,(Fc5 rfl rfl rfl rfl rfl),fcs ⟨rfl,rfl⟩ fnl,(fcs rfl fnl)⟩ (λx=>⟨Fc5 rfl (by simp[Jo,Zy]) rfl rfl rfl,fcs (by rw[XW];rfl) fnl⟩) (λx=> ?_)
 obtain⟨k,hk⟩:=x;simp only;by_cases h:(k:Int)<(l.length:Int);have hka:k<l.length:=by omega
 have i1:=Jb k
 have w1:=We hka hlm;have hH:=UI v hv (l.getD k Jd).id;have hsn:=ZlI v hka;have hal:=ZiR v (l.take k);have htl:(l.take k).length<=k:=Jv _ _;have hrm:=Ym (show(atM v (l.take k)).length+1<=1000000 by omega) (show 176<=1000 by omega);have hml:((atM v (l.take k)).map opv).length=(atM v (l.take k)).length:=Je _;have hsz:=Yb (atM v (l.take k));generalize hx:l.getD k Jd=x at *;have hsx:Sized 15 [opv x]:=Yb [x];have hax:YZ [opv x]:=Xr [x];simp only[opv]at hsx hax;cases hb:VG v x.id;rw[hb]at hH;rw[hb,if_neg (by simp),Jc]at hsn;simp only[go_sem,Zt,h,ZC hka,hx,opv,i1,hv,ZY hv];refine vc9 hH ?_;simp only[go_sem,w1];exact⟨⟨k+1,by omega⟩,nx9 (by omega),⟨rfl,by simp only;rw[hsn];exact(Fc5 rfl rfl rfl rfl rfl),fcs ⟨rfl,rfl⟩ fnl,by simp only;rw[hsn];exact(fcs rfl fnl)⟩⟩;rw[hb]at hH;rw[hb,if_pos rfl]at hsn;simp only[go_sem,Zt,h,ZC hka,hx,opv,i1,hv,ZY hv];refine vc9 hH ?_;simp only[go_sem,hml,hrm,hsz,hsx,hax,w1];exact⟨⟨k+1,by omega⟩,nx9 (by omega),⟨rfl,by simp only;rw[hsn,Jf];exact(Fc5 rfl rfl rfl rfl rfl),fcs ⟨rfl,rfl⟩ fnl,by simp only;rw[hsn,Ja];exact(fcs rfl fnl)⟩⟩;obtain rfl:k=l.length:=by omega
 simp only[go_sem,Zt,h,JA]
open Go.PL
open Go.PL
structure RAtS (l:List Opn) where
 k:Nat
 hk:k<=l.length
 id:Nat
 hid:id=27
def ixO (l:List Opn) (t:Tg):Int:=(l.findIdx? λo=>decide (o.id=t)).elim (-1) Int.ofNat
theorem Zad (l:List Opn) (t:Tg) (hl:l.length<=100000):Pp 84 [Zt l,tg t] (.int .i64 (ixO l t)):=by
 have hlm:l.length<=maxLen:=by rw[Zb];omega
 refine Zz func84 rfl ntmps84 results84 ?_;simp only[go_sem,Zt,tg];refine Zr (ι:= { x:Nat // x<=(l).length/\(∀j,j<x-> ¬(l.getD j Jd).id=t) }) 20 (λx=> [(0,Zt l),(3,.ptr 3 0),(5,.int .i64 (x.1:Int))]) (λx=> [(3,[.int .i64 t.r,.int .i64 t.n],Hf)]) (λx=> []) (λx=>(l).length-x.1) ⟨0,Jg _,λj hj=>absurd hj (JF j)⟩ ⟨rfl,(Fc3 rfl rfl rfl),(fcs ⟨rfl,rfl⟩ fnl),fnl⟩ (λx=>⟨(Fc3 rfl rfl rfl),(fcs rfl fnl)⟩) (λx=> ?_);obtain⟨k,hk,hI⟩:=x;simp only at hk hI ⊢;by_cases h:(k:Int)<(l.length:Int)
 (have hka:k<(l).length:=by omega);(have w1:=We hka (hlm));(have i1:=Jb k)
 by_cases he:(l.getD k Jd).id=t;have hix:ixO l t=(k:Int):=by
  unfold ixO;rw[show l.findIdx? (λo=>decide (o.id=t))=Hs k from JG.2 ⟨hka,by rw[<-getD_lt (d:=Jd) hka];simpa using he,λj hj=>by rw[<-getD_lt (d:=Jd) (by omega)];simpa using hI j hj⟩];rfl
 simp only[go_sem,Zt,h];refine vDq ?_;simp only[go_sem,Zt,h,ZC hka,opv,i1,tg,ZD,he,hix]
 ·simp only[go_sem,Zt,h];refine vDq ?_;simp only[go_sem,Zt,h,ZC hka,opv,i1,tg,ZD,he,w1];exact⟨⟨k+1,by(try simp only);omega,Zi hI he⟩,by show(l).length-(k+1)<(l).length-k;omega,⟨rfl,(Fc3 rfl rfl rfl),(fcs ⟨rfl,rfl⟩ fnl),fnl⟩⟩
 have hix:ixO l t= -1:=by
  unfold ixO;rw[JY.2 λo ho=> ?_];rfl;obtain⟨j,hj,rfl⟩:=JC ho;have:=hI j (by omega);rw[getD_lt hj]at this;simpa using this
 simp only[go_sem,Zt,h,hix]
open Go.PL Go.PL.Srt
theorem Zeh (a b:Opn):Pp 112 [opv a,opv b] (.int .i64 (Zdl a b)):=by
 have h1:=Th a b;have h2:=Th b a;unfold Zdl;cases e1:Yl a b
 ·cases e2:Yl b a;all_goals
   rw[e1]at h1;rw[e2]at h2;refine Zz func112 rfl ntmps112 results112 ?_;simp only[go_sem,opv];refine vc6 h1 ?_;simp only[go_sem];refine vc6 h2 ?_;simp only[go_sem]
 rw[e1]at h1;refine Zz func112 rfl ntmps112 results112 ?_;simp only[go_sem,opv];refine vc6 h1 ?_;simp only[go_sem]
theorem Zkf:SortK opv 112 Yl Zdl where
 len _:=rfl
 atom a:=rfl
 ids a:=by simp[opv,Jo,JV]
 known _:=rfl
 give a m:=by simp[opv,PV.give,KO]
 givable a m:=by simp[opv,K5,Kt]
 part a:=rfl
 cmp:=Zeh
 cv a b:=by
  unfold Zdl;cases h1:Yl a b
  ·cases h2:Yl b a<;>simp
  ·simp
 good:=ZaT
theorem Zce (x:Opn) (l:List Opn) (hl:(x::l).length<=100000):
  Eff prog 110 [Zt (x::l)] noV (.vsl 7 (x::l).length 15) (ZfL 7 (x::l).length 15 48 ((x::l).map opv)):=by
 have hcl:∀l:List Opn,∀p∈l.map opv,p.ids= []:=λl=>Yo YU l
 refine Eff.vn [5,7] func110 (by decide) rfl ntmps110 results110 (by simp) (hcl _) (by simp[Jo,Zt]) (by simp[Jo]) ?_;simp only[go_sem,Zt];have hm:∀p∈opv x::l.map opv,∃y,p=opv y:=λp hp=>by
  rcases JU.1 hp with rfl|hp;exact⟨x,rfl⟩;obtain⟨y,_,rfl⟩:=Jq.1 hp;exact⟨y,rfl⟩
 have hc:∀p∈opv x::l.map opv,p.ids= []:=λp hp=>by obtain⟨y,rfl⟩:=hm p hp;exact YU y
 have hrm:=Ym (show l.length+1<=1000000 by simp only[Ji]at hl;omega) (show 176<=1000 by omega);refine⟨λp hp=>by obtain⟨y,rfl⟩:=hm p hp;exact⟨rfl,rfl⟩,hc,λp hp=>by rw[hc p hp];simp,hrm,?_⟩;exact ZeO (r0:= .vsl 7 _ 15) hc rfl (.keep _ (by intro i hi;simp[Jo]at hi;subst hi;exact⟨_,Jj.2 rfl,rfl⟩)) rfl rfl
theorem Zhb (m:List Eg) (o:Opn) (cart:Str) (hm:OkM m) (ho:OkOp o):Pp 113 [tr (Ze m),opv o,.str cart] (.bool (Zdo m o cart)):=by
 have hA:=Zg1 m [o] hm (by simp) (λx hx=>by rw[Jj.1 hx];exact ho) (by simp);have hr0:=Ym (show 1<=1000000 by omega) (show 176<=1000 by omega);have hsx:Sized 15 [opv o]:=Yb [o];have hax:YZ [opv o]:=Xr [o];have hll:=SA m [o];generalize hL:TL m [o]=L at *;have hml:(L.map opv).length=L.length:=Je _;simp only[Zt,JD,JZ]at hA;simp only[opv]at hsx hax;have hd:(o.drops.map tg).length=o.drops.length:=Je _;unfold Zdo;rw[hL];cases k1:(o.cart==cart);by_cases k2:o.drops.length=0;have e2:(((o.drops.length:Nat):Int)==0)=true:=by rw[k2];rfl
 have e3:decide (0<o.drops.length)=false:=by simp[k2]
 rw[e3];refine Zz func113 rfl ntmps113 results113 ?_;simp only[go_sem,tr,opv,tgs,k1,hd,e2];rfl;have e2:(((o.drops.length:Nat):Int)==0)=false:=by rw[beq_eq_false_iff_ne];omega
 have e3:decide (0<o.drops.length)=true:=by simp;omega
 rw[e3];refine Zz func113 rfl ntmps113 results113 ?_;simp only[go_sem,tr,opv,tgs,k1,hd,e2,hsx,hax,hr0];refine vc7 hA ?_;simp only[go_sem,hml];simp;refine Zz func113 rfl ntmps113 results113 ?_;simp only[go_sem,tr,opv,tgs,k1,hsx,hax,hr0];refine vc7 hA ?_;simp only[go_sem,hml];simp
theorem Zju {l:List Mo} {k:Nat} (h:k<l.length):(l.map mo).getD k .any=mo (l.getD k Jd):=Xa h
theorem ZgH (l:List Mo):Sized 3 (l.map mo):=λe he=>by
 obtain⟨t,_,rfl⟩:=Jq.1 he;rfl
theorem ZlL (l:List Mo):YZ (l.map mo):=λe he=>by
 obtain⟨t,_,rfl⟩:=Jq.1 he;rfl
theorem ZjT (x:Mo):(mo x).dids= []:=by simp only[mo,JS,JM,ZcE,Jc]
theorem ZfX (l:List Mo):JM (l.map mo)= []:=by
 induction l with
 |nil=>rfl
 |cons t l ih=>simp only[JD,JM,ih,ZjT,Jc]
theorem Zmw (l:List Mo):(mos l).dids= []:=by simp only[mos,JS,ZfX]
theorem Zc9 (x:List Mo×Int):(ZhO x).dids= []:=by simp only[ZhO,JS,JM,Zmw,Jc]
theorem Zb7 {m:List Eg} {l:List Opn} {cart:Str} {b:Tg} (hm:OkM m):OkDd (Yf m l cart b).1:=by
 have hd:OkDd (Jd:Dc):=⟨Jg _,Jg _,(λe h=>by cases h),(λe h=>by cases h)⟩;unfold Yf;split;exact hd;split;exact hd;split;exact hd;rename_i h1 _ h3;have hF:=(ZaS hm (a:=b) (show(XC (Ze m) b).2=0 from JP.1 h3)).n;have hs:=SO m (Xm (TL m l) cart) b;have hmi:(Xm (TL m l) cart).length<=(TL m l).length:=Jh _ _;have hli:=SA m l;have hit:=Zc1 (Xm (TL m l) cart) cart;generalize (XC (Ze m) b).1=F at *;generalize V3 m (Xm (TL m l) cart) b=seen at *;have f:=λsc it=>ZcK (F:=F) (seen:=seen) (sc:=sc) (it:=it)
 refine⟨by have:=(f 0 []).1;simp only;omega,by simp only[Je];omega,λe he=> ?_,λr hr=> ?_⟩;have:=(f 0 []).2 e he;omega;simp only[Jq]at hr;obtain⟨i,_,rfl⟩:=hr;refine⟨by have:=(f 1 i).1;simp only;omega,λe he=> ?_⟩;have:=(f 1 i).2 e he;omega
structure HisS (m:List Eg) (F:List Fd) (cart:Str) (b:Tg) (s:List Opn) (R:List Mo×Int) where
 k:Nat
 ah:List Opn
 was:Dc
 acc:List Mo
 hk:k<=s.length
 ha:ah.Sublist (s.take k)
 hw:OkDd was
 hl:acc.length<=k
 h:FO m F cart b ah was (s.drop k) acc=R
open Go.PL Go.PL.Srt
theorem Ziy (m:List Eg) (x0:Opn) (l0:List Opn) (cart:Str) (b:Tg) (hm:OkM m) (hr:RightM m) (hl:(x0::l0).length<=100000) (ho:∀o∈x0::l0,OkOp o) (hU:((x0::l0).map Opn.id).Nodup)
  (hv:(Yf m (x0::l0) cart b).2=0) (hs:(XC (Ze m) b).2=0) (hn:(Yf m [] cart b).2=0):
  Pp 60 [tr (Ze m),Zt (x0::l0),.str cart,tg b] (ZhO (FO m (XC (Ze m) b).1 cart b [] (Yf m [] cart b).1 (srt Yl (x0::l0)) [])):=by
 have hcl:∀l:List Opn,∀p∈l.map opv,p.ids= []:=λl=>Yo YU l
 have hV:=WS m (x0::l0) cart b hm hr ho hU;have hS:=Xy m b hm;have hN:=WS m [] cart b hm hr (λo h=>by cases h) (by simp);have hC:=Zce x0 l0 hl;have hSS:=TI Zkf 48 (x0::l0).length (by omega) (x0::l0) (ZkS hU) rfl _ rfl;have hF:=ZaS hm (a:=b) hs;have hpm:=Yx (lt:=Yl) (x0::l0);have hVa:=λah (h1:∀o∈ah,OkOp o) (h2:(ah.map Opn.id).Nodup)=>WS m ah cart b hm hr h1 h2
 have hPl:=λo (h:OkOp o)=>Zhb m o cart hm h
 have hvo:=λah=>Zb7 (m:=m) (l:=ah) (cart:=cart) (b:=b) hm
 have hsU:((srt Yl (x0::l0)).map Opn.id).Nodup:=(hpm.map Opn.id).nodup_iff.2 hU;have hso:∀o∈srt Yl (x0::l0),OkOp o:=λo h=>ho o (hpm.mem_iff.1 h)
 have hsl:(srt Yl (x0::l0)).length=(x0::l0).length:=hpm.length_eq;have hwd:=hvo [];have e1:((Yf m (x0::l0) cart b).2 !=0)=false:=by simp[hv]
 have e2:((XC (Ze m) b).2 !=0)=false:=by simp[hs]
 have e3:((Yf m [] cart b).2 !=0)=false:=by simp[hn]
 generalize hL:x0::l0=L at *;generalize srt Yl L=s at *;generalize Yf m L cart b=V at *;generalize hW:Yf m [] cart b=W at *;obtain⟨vd,vc⟩:=V;obtain⟨⟨wh,wr⟩,wc⟩:=W;generalize XC (Ze m) b=X at *;obtain⟨F,xc⟩:=X;simp only at hv hs hn e1 e2 e3 hF hwd ⊢;subst hv hs hn;generalize hR:FO m F cart b [] ⟨wh,wr⟩ s []=R;have hlm:s.length<=maxLen:=by rw[Zb];omega
 simp only[Zt,JZ]at hN;refine ZF func60 rfl ntmps60 results60 (Zc9 _) ?_;simp only[go_sem,tr,Zt,tg];refine vc7 hV ?_;simp only[go_sem,Zap,doc,e1];refine vc5 hS ?_;simp only[go_sem,YF,Zs,e2];refine vc7 hN ?_;simp only[go_sem,Zap,doc,e3];refine Dm 54 hC (hcl _) (by simp[Jo,Zt]) rfl rfl ?_;simp only[go_sem,K4,id];refine Yy 54 hSS (by simp[Jo,JV]) (hcl _) (hcl _) rfl rfl rfl ?_;simp only[go_sem];have hsm:(s.map opv).length=L.length:=by rw[Je,hsl]
 refine ZeC 57 54 15 48 (s.map opv) (by rw[hsm];rfl) (by rw[hsm];rfl) rfl (hcl _) ?_;refine Yh 16 102 3 130 rfl rfl ?_;refine Yh 17 71 15 48 rfl rfl ?_;refine Zr (ι:=HisS m F cart b s R) 106 (λx=> [(0,tr (Ze m)),(2,.str cart),(7,.ptr 7 0),(12,Zs F),(14,.ptr 14 0),(16,.sl (.row 102) (x.acc.map mo)),(17,.sl (.row 71) (x.ah.map opv)),(57,Zt s),(58,.int .i64 (L.length:Int)),(59,.int .i64 (x.k:Int))]) (λx=> [(7,[.int .i64 b.r,.int .i64 b.n],Hf),(14,[.sl .no (x.was.head.map ent),.sl .no (x.was.rows.map row)],Hf)]) (λx=> [(102,.live x.acc.length 3 130),(71,.live x.ah.length 15 48)]) (λx=>s.length-x.k) ⟨0,[],⟨wh,wr⟩,[],Jg _,by simp,hwd,by simp,by rw[List.drop_zero];exact hR⟩
  ⟨rfl,(Fc10 rfl rfl rfl rfl rfl rfl rfl rfl rfl rfl),Fc2 ⟨rfl,rfl⟩ ⟨rfl,rfl⟩,(Fc2 rfl rfl)⟩ (λx=>⟨Fc10 rfl rfl rfl rfl rfl (by simp[Jo,Zy]) (by simp[Jo,Zy]) rfl rfl rfl,Fc2 rfl rfl⟩) (λx=> ?_)
 clear hV hS hN hC hSS hR hwd hW;obtain⟨k,ah,was,acc,hk,ha,hw,hal,hR⟩:=x;obtain⟨ws,wt⟩:=was;simp only;by_cases h:(k:Int)<(L.length:Int);have hka:k<s.length:=by omega
 have hls:(k:Int)<(s.length:Int):=by omega
 have i1:=Jb k
 have w1:=We hka hlm;have hox:=hso _ (Zh (d:=Jd) hka);have hdr:s.drop k=s.getD k Jd::s.drop (k+1):=by rw[List.drop_eq_getElem_cons hka,getD_lt hka]
 rw[hdr]at hR;have hP:=hPl _ hox;have htk:s.take (k+1)=s.take k++ [s.getD k Jd]:=ZI hka;have hsub:(ah++ [s.getD k Jd]).Sublist (s.take (k+1)):=by rw[htk];exact ha.append (.refl _)
 have hsub0:ah.Sublist (s.take (k+1)):=by rw[htk];exact ha.trans (List.sublist_append_left _ _)
 have hss:=hsub.trans (List.take_sublist _ _);have hVa':=hVa (ah++ [s.getD k Jd]) (λo h=>hso o (hss.mem h)) (KB.sublist (hss.map _) hsU);have hvo':=hvo (ah++ [s.getD k Jd]);have hall:ah.length<=k:=JK ha.length_le (Jv _ _);have hrm:=Ym (show ah.length+1<=1000000 by omega) (show 176<=1000 by omega);have hrm2:=Ym (show acc.length+1<=1000000 by omega) (show 40<=1000 by omega);have hsz:=Yb ah;have hml:(ah.map opv).length=ah.length:=Je _;have hsz2:=ZgH acc;have hml2:(acc.map mo).length=acc.length:=Je _;generalize hx:s.getD k Jd=x at *;have hsx:Sized 15 [opv x]:=Yb [x];have hax:YZ [opv x]:=Xr [x];simp only[opv]at hsx hax;unfold FO at hR;cases hp:Zdo m x cart;rw[hp]at hP;rw[if_pos hp]at hR;simp only[go_sem,Zt,h,hls,ZC hka,hx,opv,i1];refine vc7 hP ?_;simp only[go_sem,w1];exact⟨⟨k+1,ah,⟨ws,wt⟩,acc,by omega,hsub0,hw,by omega,hR⟩,nx9 (by omega),⟨rfl,(Fc10 rfl rfl rfl rfl rfl rfl rfl rfl rfl rfl),Fc2 ⟨rfl,rfl⟩ ⟨rfl,rfl⟩,(Fc2 rfl rfl)⟩⟩;rw[hp]at hP;rw[if_neg (by rw[hp];simp)]at hR;have hD:=Zg5 F ⟨ws,wt⟩ (Yf m (ah++ [x]) cart b).1 (by rw[Zb];have:=hF.n;omega) hF.c hw hvo';simp only[Zt,Jf,JD,JZ,opv]at hVa';generalize Yf m (ah++ [x]) cart b=Y at *;obtain⟨⟨yh,yr⟩,yc⟩:=Y;simp only at hR hD hvo';by_cases hyc:yc=0;subst hyc;rw[if_neg (by simp)]at hR;generalize DG F ⟨ws,wt⟩ ⟨yh,yr⟩=D at *;obtain⟨dl,dc⟩:=D;simp only at hR hD;by_cases hdc:dc=0;subst hdc;rw[if_neg (by simp)]at hR;cases dl with
 |nil=>
  rw[if_pos rfl]at hR;simp only[go_sem,Zt,h,hls,ZC hka,hx,opv,i1];refine vc7 hP ?_;simp only[go_sem,hml,hrm,hsz,hsx,hax];refine vc7 (hVa') ?_;simp only[go_sem,Zap,doc];refine vc2 hD ?_;simp only[go_sem,FK,Zbu,w1];exact⟨⟨k+1,ah++ [x],⟨yh,yr⟩,acc,by omega,hsub,hvo',by omega,hR⟩,nx9 (by omega),⟨rfl,by simp only;rw[Jf];exact(Fc10 rfl rfl rfl rfl rfl rfl rfl rfl rfl rfl),Fc2 ⟨rfl,rfl⟩ ⟨rfl,rfl⟩,by simp only;rw[Ja];exact(Fc2 rfl rfl)⟩⟩
 |cons d0 dl=>
  rw[if_neg (by simp)]at hR;have hsm:Sized 3 [mo ⟨x.id,d0::dl⟩]:=ZgH [⟨x.id,d0::dl⟩];have ham:YZ [mo ⟨x.id,d0::dl⟩]:=ZlL [⟨x.id,d0::dl⟩];have hdl:(0:Int)<((d0::dl).length:Int):=by rw[Ji];omega
  generalize d0::dl=ds at *;simp only[mo]at hsm ham;simp only[go_sem,Zt,h,hls,ZC hka,hx,opv,i1];refine vc7 hP ?_;simp only[go_sem,hml,hrm,hsz,hsx,hax];refine vc7 (hVa') ?_;simp only[go_sem,Zap,doc];refine vc2 hD ?_;simp only[go_sem,FK,Zbu,hdl,hml2,hrm2,hsz2,hsm,ham,w1];exact⟨⟨k+1,ah++ [x],⟨yh,yr⟩,acc++ [⟨x.id,ds⟩],by omega,hsub,hvo',by rw[Ja];simp;omega,hR⟩,nx9 (by omega),⟨rfl,by simp only;rw[Jf,Jf];exact(Fc10 rfl rfl rfl rfl rfl rfl rfl rfl rfl rfl),Fc2 ⟨rfl,rfl⟩ ⟨rfl,rfl⟩,by simp only;rw[Ja,Ja];exact(Fc2 rfl rfl)⟩⟩
 have e5:(dc !=0)=true:=by simpa using hdc
 rw[if_pos hdc]at hR;subst hR;simp only[go_sem,Zt,h,hls,ZC hka,hx,opv,i1];refine vc7 hP ?_;simp only[go_sem,hml,hrm,hsz,hsx,hax];refine vc7 (hVa') ?_;simp only[go_sem,Zap,doc];refine vc2 hD ?_;simp only[go_sem,FK,Zbu,e5,ZhO,mos];have e4:(yc !=0)=true:=by simpa using hyc
 rw[if_pos hyc]at hR;subst hR;simp only[go_sem,Zt,h,hls,ZC hka,hx,opv,i1];refine vc7 hP ?_;simp only[go_sem,hml,hrm,hsz,hsx,hax];refine vc7 (hVa') ?_;simp only[go_sem,Zap,doc,e4,ZhO,mos];obtain rfl:k=s.length:=by omega
 rw[KJ]at hR;unfold FO at hR;subst hR;simp only[go_sem,Zt,h,ZhO,mos]
theorem Ziz (m:List Eg) (x0:Opn) (l0:List Opn) (cart:Str) (b:Tg) (hm:OkM m) (hr:RightM m) (hl:(x0::l0).length<=100000) (ho:∀o∈x0::l0,OkOp o) (hU:((x0::l0).map Opn.id).Nodup):
  Pp 60 [tr (Ze m),Zt (x0::l0),.str cart,tg b] (ZhO (Zmi m (x0::l0) cart b)):=by
 unfold Zmi;by_cases hv:(Yf m (x0::l0) cart b).2=0;rw[if_neg (by simpa using hv)];by_cases hs:(XC (Ze m) b).2=0;rw[if_neg (by simpa using hs)];by_cases hn:(Yf m [] cart b).2=0;rw[if_neg (by simpa using hn)];exact Ziy m x0 l0 cart b hm hr hl ho hU hv hs hn;exfalso;apply hn;unfold Yf at hv ⊢;rw[if_neg (by simp)];split at hv;simp at hv;split at hv;simp at hv;rename_i h2;rw[if_neg h2,if_neg (by simpa using hs)];exfalso;unfold Yf at hv;split at hv;simp at hv;split at hv;simp at hv;exact hs hv;rw[if_pos hv];have hV:=WS m (x0::l0) cart b hm hr ho hU;have e1:((Yf m (x0::l0) cart b).2 !=0)=true:=by simpa using hv
 generalize x0::l0=L at *;generalize Yf m L cart b=V at *;obtain⟨vd,vc⟩:=V;simp only at e1 ⊢;refine ZF func60 rfl ntmps60 results60 (Zc9 _) ?_;simp only[go_sem,tr,Zt,tg];refine vc7 hV ?_;simp only[go_sem,Zap,doc,e1,ZhO,mos]
open Go.PL Go.RowKit
theorem Zhj (c:Cg) (item:Str) (place:Rf):Pp 117 [chg c,.str item,ref place] (.bool (ZdT c item place)):=by
 unfold ZdT;cases k1:(c.item==item);refine Zz func117 rfl ntmps117 results117 ?_;simp only[go_sem,chg,ref,k1];simp;cases k2:(c.kind==2);cases k3:(c.kind==1);refine Zz func117 rfl ntmps117 results117 ?_;simp only[go_sem,chg,ref,k1,k2,k3];simp;refine Zz func117 rfl ntmps117 results117 ?_;simp only[go_sem,chg,ref,k1,k2,k3,Zo];simp;refine Zz func117 rfl ntmps117 results117 ?_;simp only[go_sem,chg,ref,k1,k2]
theorem Zg3 (l:List Mo):Pp 116 [mos l] (.fn 159 [.rptr [mos l]]):=by
 have hd:(PV.fn 159 [.rptr [mos l]]).dids= []:=by simp only[JS,JM,mos,ZfX,Jc]
 refine ZF func116 rfl ntmps116 results116 (hd) ?_;simp only[go_sem,mos]
set_option maxRecDepth 100000 in
theorem ZeE (l:List Mo) (hlen:l.length<=100000):Zix prog 159 [.rptr [mos l]] l.reverse (λc=> [.any,mo c]) 2:=by
 refine⟨⟨_,func159,by decide,rfl⟩,λm S w lb hst hsz hrep=> ?_⟩;obtain⟨v,rfl⟩:∃v,lb= #[v]:=Array.size_eq_one_iff.1 hsz;have h0:=hrep 0 (by simp);have h0:Rep S v (.rptr [mos l]):=h0;obtain⟨b,o,vals,rfl,e2,e3⟩:=(RepS.clean (M:=⟨id,id,id⟩) (q:=λ_=>none) h0).rptr_inv;have e2:=e2 0 (by simp);have e3:Rep S (vals 0) (.sl .no (l.map mo)):=e3 0 (by simp);obtain⟨A,cap,vs,hv,hA,hR⟩:=e3.cells_at (sz:=3) (λi hi=>by
  have hi':i<l.length:=by simpa using hi
  rw[Zju hi'];rfl)
 simp only[Je]at hv hA hR;rw[hv]at e2;refine⟨λk=> #[.int .i64 ((l.length:Int)-1-(k.val:Int)),.agg ⟨(Jy 3).map λj=>vs (l.length-1-k.val) j⟩],λk=>⟨rfl,rfl,λi hi=> ?_⟩,?_⟩;have hk:k.val<l.length:=by simpa using k.isLt
 have hk':l.length-1-k.val<l.length:=by omega
 have hx:l.reverse[k]=l.getD (l.length-1-k.val) Jd:=by rw[getD_lt hk'];simp
 rw[hx];match i,hi with
 |0,_=>exact .any _
 |1,_=>
  show Rep S (.agg ⟨(Jy 3).map λj=>vs (l.length-1-k.val) j⟩) (mo _);have h1:=λj hj=>hR (l.length-1-k.val) j hk' hj
  rw[Zju hk']at h1;refine .agg _ _ (by rfl) λj hj=> ?_
  have h13:j<3:=hj;have e:((Jy 3).map λj=>vs (l.length-1-k.val) j).getD j undef=vs (l.length-1-k.val) j:=by
   rw[getD_lt (by simpa using h13)];simp
  rw[e];exact h1 j h13
 intro lp J Jx W hW hJ hJx hY hJ0;have hstW:StabS S W:=⟨λb o u h=>by
  have h1:=hst.c b o u h;rw[World.cell?_of_block (hW.block _ (Ge h1))];exact h1,λb es h=>by
  have h1:=hst.m b es h;rw[hW.block _ (JO.1 h1).1];exact h1,λb h=>by
  obtain⟨vs1,t1,h1⟩:=hst.y b h;exact⟨vs1,t1,by rw[hW.block _ (JO.1 h1).1];exact h1⟩⟩
 refine callsIn_of_wp func159 rfl trivial ?_ rfl;simp only[ntmps159,KD,Ji,Js,Nat.reduceAdd,Nat.reduceSub,Array.replicate_succ,Array.replicate_zero,List.push_toArray,List.append_toArray,KM,List.cons_append];have hc0:=hstW.c _ _ _ e2;rw[Kj]at hc0 e2;have u0:IntKind.i64.wrap ((l.length:Int)-1)=(l.length:Int)-1:=w64 (by omega)
 gi_wp2
 gi_loopw [3] (λi wr=>∃k:Nat,k<=l.length/\i= .int .i64 ((l.length:Int)-1-k)/\StabS S wr/\J ((Ky l.reverse.length).take k) wr)
  (λi _=>(intOf i+1).toNat)
 case atStart=>exact⟨0,Jg _,by simp,hstW,hJ0⟩
 case round=>
  obtain⟨k,hk,rfl,hstr,hJs⟩:=hrel;have hcx:=hstr.c _ _ _ e2
  by_cases hlt:k<l.length
  ·obtain⟨b',o',rfl,hcl⟩:=hA (by omega);have hk':l.length-1-k<l.length:=by omega
   have hkx:k<l.reverse.length:=by simpa using hlt
   have hkk:((l.length-1-k:Nat):Int)=(l.length:Int)-1-(k:Int):=by omega
   have i0:(l.length:Int)-1-(k:Int)>=0:=by omega
   have hto:((l.length:Int)-1-(k:Int)).toNat=l.length-1-k:=by omega
   have hld:(loadVar 130 ⟨b',o'+(l.length-1-k)*3,none⟩).run prog wr= .ok (.agg ⟨(Jy 3).map λj=>vs (l.length-1-k) j⟩) wr:=
    Zkq underlying130 rfl rfl λj hj=>hstr.c _ _ _ (hcl _ j hk' hj)
   obtain⟨fn,tmps,assign,body,hy,hRR⟩:=hY _ ⟨k,hkx⟩ wr hJs (by simp;omega);obtain⟨val,hval⟩:∃val,val=Value.agg ⟨(Jy 3).map λj=>vs (l.length-1-k) j⟩:=⟨_,rfl⟩;have hy:(Instr.yield lp #[.int .i64 ((l.length:Int)-1-(k:Int)),val]).run prog wr= .ok (.round lp fn tmps assign body) wr:=by rw[hval];exact hy
   rw[<-hval]at hld;clear hval
   gi_wp2_with (first|(refine ZfR rfl hld ?_)|gi_in)
   refine hRR.mono ?_
   rintro e W3 (⟨rfl,hJ3,hk3⟩|⟨rfl,hJx3⟩)
   ·have u2:IntKind.i64.wrap ((l.length:Int)-1-(k:Int)-1)=(l.length:Int)-1-((k+1:Nat):Int):=by rw[w64 (by omega)];omega
    gi_wp2
    go_roundw
    case rel=>exact⟨k+1,by omega,rfl,hk3 hstr,by rw[Sr hkx];exact hJ3⟩
    case measure=>simp[intOf];omega
   ·gi_wp2
    refine bodyPost_ret (results_none rfl _ _ _) rfl ?_;exact⟨⟨_,rfl⟩,.inr ⟨_,by rw[<-Sr hkx];exact List.take_prefix _ _,hJx3⟩⟩
  ·obtain rfl:k=l.length:=by omega
   have i0:¬((l.length:Int)-1-(l.length:Int)>=0):=by omega
   gi_wp2
   go_end0
   have e:(Ky l.reverse.length).take l.length=Ky l.reverse.length:=Jn (by simp);rw[e]at hJs;exact⟨⟨_,rfl⟩,.inl hJs⟩
open Go.PL
def blL:List (Nat×PV):= [(10,.ptr 10 0),(11,.ptr 11 0),(12,.ptr 12 0),(13,.ptr 13 0)]
def blM (item:Str) (place:Rf) (t:Tg):MemT:=⟨[(10,[.str item],Hf),(11,[.int .i64 place.sc,.str place.gr,.str place.nm],Hf),(12,[.int .i64 t.r,.int .i64 t.n],Hf),(13,[.int .i64 0],Hf)],[],[]⟩
theorem ZgY (item:Str) (place:Rf) (t:Tg) (φ:Nat->Nat):WholeT blL (blM item place t) (U2 [10,11,12,13] φ):=
 ⟨⟨(Fc4 rfl rfl rfl rfl),(Fc4 rfl rfl rfl rfl)⟩,fnl,fnl,fnl,(Fc4 rfl rfl rfl rfl),fnl⟩
def ZjN (pre:List Mo):Tg:=(pre.getLast?.elim Jd Mo.id)
def Zll (item:Str) (place:Rf) (x:Mo):Bool:=x.l.any λc=>ZdT c item place
theorem ZhC {l:List Mo} {p:Mo->Bool} {pre:List Mo} {x:Mo} (h:pre++ [x] <+:l) (hn:∀y∈pre,p y=Hf) (hx:p x=Ht):l.find? p=Hs x:=by
 obtain⟨r,rfl⟩:=h;rw[Jw,List.find?_append,J9.2 (λy hy=>by rw[hn y hy];simp)];simp[hx]
theorem F6 (m:List Eg) (L:List Opn) (cart:Str) (b:Tg) (item:Str) (place:Rf) (vd:Dc) (fe:En) (H:List Mo)
  (hV:Pp 23 [tr (Ze m),Zt L,.str cart,tg b] (Zap (vd,0)))
  (hFi:Pp 115 [doc vd,.str item,ref place] (Zlk (fe,0)))
  (hH:Pp 60 [tr (Ze m),Zt L,.str cart,tg b] (ZhO (H,0)))
  (hl:H.length<=100000) (hx:∀x∈H,x.l.length<=1000000):
  Pp 61 [tr (Ze m),Zt L,.str cart,tg b,.str item,ref place] (tgc ((H.reverse.find? (Zll item place)).elim Jd Mo.id,0)):=by
 have hbw:=Zg3 H;have hT:=λc=>Zhj c item place
 refine Pure.range (A:=Mo) 6 (Q1:=λs=>s.eval (.tmp 59)= .fn 159 [.rptr [mos H]]/\HasT 77 blL (blM item place Jd) [] s) (pin:= [10,11,12,13]) (mt:=λ_=>blM item place Jd) (mx:=λpre=>blM item place (ZjN pre)) (Y:=λpre=>∀y∈pre,Zll item place y=Hf) (X:=λpre=>∃pre' x,pre=pre'++ [x]/\(∀y∈pre',Zll item place y=Hf)/\Zll item place x=Ht)
  func61 (by decide) rfl ntmps61 results61 (by simp) (Zm1 _) ?_ rfl (λs hs=>⟨hs.1,hs.2,λi hi=> ?_⟩) (by simp[Jo,JV,mos]) (ZeE H hl) ?_ ?_ ?_ (λy hy=>by cases hy) (λ_ φ=>ZgY _ _ _ φ) (λ_ φ=>ZgY _ _ _ φ) ?_ ?_ ?_
 refine WI ?_;simp only[go_sem,tr,Zt,tg,ref];refine WI ?_;simp only[go_sem,tr,Zt,tg,ref];refine vc7 hV ?_;simp only[go_sem,Zap,doc];refine WI ?_;simp only[go_sem];refine WI ?_;simp only[go_sem];refine vc1 hFi ?_;simp only[go_sem,Zlk,ent];refine WI ?_;simp only[go_sem,tr,Zt,tg];refine vc7 hH ?_;simp only[go_sem,ZhO,mos];refine WI ?_;simp only[go_sem];refine ZmY (ZN _ _ _ (show @vC _ ⟨_⟩ ⟨_⟩ _ from ?_));simp only[go_sem];refine vc9 hbw ?_;simp only[go_sem,mos];exact⟨rfl,⟨⟨rfl,(Fc4 rfl rfl rfl rfl),Fc4 ⟨rfl,rfl⟩ ⟨rfl,rfl⟩ ⟨rfl,rfl⟩ ⟨rfl,rfl⟩,fnl⟩,fnl,fnl,fnl,fnl,fnl,fnl⟩⟩;have h:=λx hx=>(hs.2.b.h x hx).1
 simp only[JU,J2,or_false]at hi;rcases hi with rfl|rfl|rfl|rfl;rw[h (10,[.str item],Hf) (by simp[blM])];simp;rw[h (11,[.int .i64 place.sc,.str place.gr,.str place.nm],Hf) (by simp[blM])];simp;rw[h (12,[.int .i64 (Jd:Tg).r,.int .i64 (Jd:Tg).n],Hf) (by simp[blM])];simp;rw[h (13,[.int .i64 0],Hf) (by simp[blM])];simp;intro x hxx p hp;rcases JU.1 hp with rfl|hp;rfl;rw[Jj.1 hp];exact List.eq_nil_iff_forall_not_mem.2 λi hi=>by have:=Vu _ hi;rw[ZjT]at this;cases this
 intro t ht;have:t=60\/t=61:=by simpa using ht
 rcases this with rfl|rfl<;>decide
 intro x hxx r hr;simp only[blL,JU,J2,or_false]at hxx;rcases hxx with rfl|rfl|rfl|rfl;exact⟨10,by simp,by simpa[Jo]using hr⟩;exact⟨11,by simp,by simpa[Jo]using hr⟩;exact⟨12,by simp,by simpa[Jo]using hr⟩;exact⟨13,by simp,by simpa[Jo]using hr⟩;intro l φ pre x hxc hpl hY;have hfx:=hx x (KI.1 hxc);have hlm:x.l.length<=maxLen:=by rw[Zb];omega
 refine Dx ?_;change @vR l 0 prog ⟨_⟩ ⟨_⟩ (((mkT 77 blL (blM item place Jd) (U2 [10,11,12,13] φ)).put (Hs 60) .any).put (Hs 61) (mo x));simp only[go_sem,blL,blM,mo];refine Dx ?_;simp only[go_sem,blL,blM,mo,Zbu];refine Zrl (ι:= { k:Nat // k<=x.l.length/\ ∀j,j<k->ZdT (x.l.getD j Jd) item place=Hf }) (λy=> [(10,.ptr 10 0),(11,.ptr 11 0),(12,.ptr 12 0),(13,.ptr 13 0),(20,.ptr 20 0),(63,.sl .no (x.l.map chg)),(64,.int .i64 (x.l.length:Int)),(65,.int .i64 (y.1:Int))]) (λy=>⟨[(20,[.int .i64 x.id.r,.int .i64 x.id.n,.sl .no (x.l.map chg)],Hf),(10,[.str item],Hf),(11,[.int .i64 place.sc,.str place.gr,.str place.nm],Hf),(12,[.int .i64 0,.int .i64 0],Hf),(13,[.int .i64 0],Hf)],[],[]⟩) (U2 [10,11,12,13] φ) (λy=>x.l.length-y.1) ⟨0,Jg _,λj hj=>absurd hj (JF j)⟩
  ⟨⟨rfl,(Fc8 rfl rfl rfl rfl rfl rfl rfl rfl),Fc5 ⟨rfl,rfl⟩ ⟨rfl,rfl⟩ ⟨rfl,rfl⟩ ⟨rfl,rfl⟩ ⟨rfl,rfl⟩,fnl⟩,fnl,fnl,fnl,fnl,(Fc4 rfl rfl rfl rfl),fnl⟩ (λy=>⟨⟨(Fc8 rfl rfl rfl rfl rfl rfl rfl rfl),(Fc5 rfl rfl rfl rfl rfl)⟩,fnl,fnl,fnl,(Fc4 rfl rfl rfl rfl),fnl⟩) (λy=> ?_)
 obtain⟨k,hk,hno⟩:=y;simp only;by_cases h:(k:Int)<(x.l.length:Int);have hka:k<x.l.length:=by omega
 have i1:=Jb k
 have w1:=We hka hlm;have hTc:=hT (x.l.getD k Jd);cases ht:ZdT (x.l.getD k Jd) item place;rw[ht]at hTc;simp only[go_sem,blL,blM,h,Zf8 hka,i1,chg];refine vc8 hTc ?_;simp only[go_sem,w1];refine⟨⟨k+1,by omega,λj hj=> ?_⟩,nx9 (by omega),⟨⟨rfl,(Fc8 rfl rfl rfl rfl rfl rfl rfl rfl),Fc5 ⟨rfl,rfl⟩ ⟨rfl,rfl⟩ ⟨rfl,rfl⟩ ⟨rfl,rfl⟩ ⟨rfl,rfl⟩,fnl⟩,fnl,fnl,fnl,fnl,(Fc4 rfl rfl rfl rfl),fnl⟩⟩;rcases JT j k with hlt|hge;exact hno j hlt;obtain rfl:j=k:=by omega
 exact ht;rw[ht]at hTc;have hit:Zll item place x=true:=List.any_eq_true.2 ⟨_,Zc (d:=Jd) hka,ht⟩;have hlt:ZjN (pre++ [x])=x.id:=by simp[ZjN]
 simp only[go_sem,blL,blM,h,Zf8 hka,i1,chg];refine vc8 hTc ?_;simp only[go_sem];refine⟨⟨pre,x,rfl,hY,hit⟩,⟨⟨rfl,fnl,?_,fnl⟩,fnl,fnl,fnl,fnl,(Fc4 rfl rfl rfl rfl),fnl⟩⟩;rw[hlt];exact Fc4 ⟨rfl,rfl⟩ ⟨rfl,rfl⟩ ⟨rfl,rfl⟩ ⟨rfl,rfl⟩;have hmiss:Zll item place x=false:=by
  unfold Zll;rw[KC];intro c hc;obtain⟨j,hj,rfl⟩:=JC hc;have:=hno j (by omega);rw[getD_lt hj]at this;rw[this];simp
 simp only[go_sem,blL,blM,h];refine⟨λy hy=> ?_,⟨⟨rfl,fnl,Fc4 ⟨rfl,rfl⟩ ⟨rfl,rfl⟩ ⟨rfl,rfl⟩ ⟨rfl,rfl⟩,fnl⟩,fnl,fnl,fnl,fnl,(Fc4 rfl rfl rfl rfl),fnl⟩⟩;rcases Jp.1 hy with hy|hy;exact hY y hy;rw[Jj.1 hy];exact hmiss;intro hY φ;have hf:H.reverse.find? (Zll item place)=none:=J9.2 λy hy=>by rw[hY y hy];simp
 rw[hf];refine Znj ?_;simp only[go_sem,blL,blM,tgc,tg];rfl;intro pre hp hX φ;obtain⟨pre',x,rfl,h1,h2⟩:=hX;rw[ZhC hp h1 h2];have hlt:ZjN (pre'++ [x])=x.id:=by simp[ZjN]
 show FB _ _ _ _ _;rw[hlt];simp only[go_sem,blL,blM,tgc,tg];rfl
open Go.PL Go.PL.Srt
def Zjz (m:List Eg) (F:List Fd) (cart:Str) (b:Tg):List Opn->Dc->List Opn->List Mo->List Mo×Int
 |_,_,[],acc=>(acc,0)
 |ah,was,o::s,acc=>
  if Zdo m o cart=Hf then Zjz m F cart b ah was s acc
  else if(Yf m (ah++ [o]) cart b).2≠0 then([],(Yf m (ah++ [o]) cart b).2)
  else if(ZeL F was (Yf m (ah++ [o]) cart b).1).2≠0 then([],(ZeL F was (Yf m (ah++ [o]) cart b).1).2)
  else Zjz m F cart b (ah++ [o]) (Yf m (ah++ [o]) cart b).1 s (if(ZeL F was (Yf m (ah++ [o]) cart b).1).1= []then acc else acc++ [⟨o.id,(ZeL F was (Yf m (ah++ [o]) cart b).1).1⟩])
theorem ZjA {m:List Eg} (hm:OkM m) {F:List Fd} {cart:Str} {b:Tg}:∀(s ah:List Opn) (was:Dc) (acc:List Mo),OkDd was->FO m F cart b ah was s acc=Zjz m F cart b ah was s acc
 | [],ah,was,acc,h=>rfl
 |o::s,ah,was,acc,h=>by
  have hv:=Zb7 (m:=m) (l:=ah++ [o]) (cart:=cart) (b:=b) hm;have hd:DG F was (Yf m (ah++ [o]) cart b).1=ZeL F was (Yf m (ah++ [o]) cart b).1:=Zl1 (by have:=h.r;have:=hv.r;omega);unfold FO Zjz;rw[hd,ZjA hm s ah was acc h,ZjA hm s (ah++ [o]) (Yf m (ah++ [o]) cart b).1 _ hv]
def awP:Opn:=⟨⟨1,2⟩,Jd,2,[97],3,[112,101,97,114],⟨1,[],[113,116,121]⟩,3,Hf,[],[]⟩
def FJ:Dc:=⟨[⟨⟨0,[],[99,111,117,112,111,110]⟩,0,[[]]⟩],[⟨[112,101,97,114],[⟨⟨1,[],[110,111,116,101]⟩,0,[[]]⟩,⟨⟨1,[],[113,116,121]⟩,3,[]⟩,⟨⟨1,[],[115,105,122,101]⟩,0,[[109,101,100,105,117,109]]⟩,⟨⟨1,[],[116,97,103,115]⟩,0,[]⟩]⟩]⟩
def awC:Cg:=⟨2,[112,101,97,114],Jd,Jd,[⟨⟨1,[],[110,111,116,101]⟩,0,[[]]⟩,⟨⟨1,[],[113,116,121]⟩,0,[]⟩,⟨⟨1,[],[115,105,122,101]⟩,0,[[109,101,100,105,117,109]]⟩,⟨⟨1,[],[116,97,103,115]⟩,0,[]⟩]⟩
def awO38:Cg:=⟨1,[112,101,97,114],⟨⟨1,[],[113,116,121]⟩,0,[]⟩,⟨⟨1,[],[113,116,121]⟩,3,[]⟩,[]⟩
def awH:List Mo:= [⟨⟨1,1⟩,[awC]⟩,⟨⟨1,2⟩,[awO38]⟩]
theorem awV:Yf [] [awP,svA] [97] Jd=(FJ,0):=by decide+kernel
theorem ZuR:Zma FJ [112,101,97,114] ⟨1,[],[113,116,121]⟩=(⟨⟨1,[],[113,116,121]⟩,3,[]⟩,0):=by decide+kernel
theorem ZuS:Zma FJ [112,101,97,114] ⟨1,[],[110,111,116,101]⟩=(⟨⟨1,[],[110,111,116,101]⟩,0,[[]]⟩,0):=by decide+kernel
theorem ZuT:Zjz [] (XC (Ze []) Jd).1 [97] Jd [] (Yf [] [] [97] Jd).1 (srt Yl [awP,svA]) []=(awH,0):=by decide+kernel
theorem ZuU:Zmi [] [awP,svA] [97] Jd=(awH,0):=by
 unfold Zmi;rw[if_neg (by rw[awV];simp),if_neg (by decide+kernel),if_neg (by decide+kernel),ZjA T1 _ _ _ _ (Zb7 T1),ZuT]
theorem ZtO:∀o∈ [awP,svA],OkOp o:=by
 intro o ho;simp only[JU,J2,or_false]at ho;rcases ho with rfl|rfl<;>exact⟨by decide⟩
theorem ZfV:Zli FJ/\ZpO FJ:=by
 refine⟨⟨by rw[Zb];decide,by rw[Zb];decide,?_,?_⟩,?_,?_⟩<;>simp[FJ,Zb]
theorem ZuP:(awH.reverse.find? (Zll [112,101,97,114] ⟨1,[],[113,116,121]⟩)).elim Jd Mo.id=⟨1,2⟩:=by decide+kernel
theorem ZuQ:(awH.reverse.find? (Zll [112,101,97,114] ⟨1,[],[110,111,116,101]⟩)).elim Jd Mo.id=⟨1,1⟩:=by decide+kernel
theorem Zj3 (c:Cg):(chg c).nomap=true:=by simp only[chg,KF,Ku,Tw,WM _ Zj4,Jz]
theorem Zmx (x:Mo):(mo x).nomap=true:=by simp only[mo,KF,Ku,WM _ Zj3,Jz]
theorem ZhP (x:List Mo×Int):(ZhO x).nomap=true:=by simp only[ZhO,mos,KF,Ku,WM _ Zmx,Jz]
theorem Zdh (x:Tg×Int):(tgc x).nomap=true:=by simp only[tgc,tg,KF,Ku,Jz]
theorem UJ:Pp 19 [] (.bool Ht):=by
 have hV:=WS [] [awP,svA] [97] Jd T1 Fl ZtO (by decide);have hF1:=Zcg FJ [112,101,97,114] ⟨1,[],[113,116,121]⟩ ZfV.1 ZfV.2;have hF2:=Zcg FJ [112,101,97,114] ⟨1,[],[110,111,116,101]⟩ ZfV.1 ZfV.2;have hH:=Ziz [] awP [svA] [97] Jd T1 Fl (by simp) ZtO (by decide);rw[awV]at hV;rw[ZuR]at hF1;rw[ZuS]at hF2;rw[ZuU]at hH;have hx:∀x∈awH,x.l.length<=1000000:=by
  intro x hx;simp only[awH,JU,J2,or_false]at hx;rcases hx with rfl|rfl<;>simp
 have hB1:=F6 [] [awP,svA] [97] Jd _ _ FJ _ awH hV hF1 hH (by simp[awH]) hx;have hB2:=F6 [] [awP,svA] [97] Jd _ _ FJ _ awH hV hF2 hH (by simp[awH]) hx;rw[ZuP]at hB1;rw[ZuQ]at hB2;have hn1:=ZhP (awH,0);have hn2:=Zdh (⟨1,2⟩,0);have hn3:=Zdh (⟨1,1⟩,0);have hm1:awH.map mo= [mo ⟨⟨1,1⟩,[awC]⟩,mo ⟨⟨1,2⟩,[awO38]⟩]:=rfl;have hk1:awC.kind=2:=rfl;have hk2:awO38.kind=1:=rfl;generalize awC=C at *;generalize awO38=O at *;refine PL.Pure.of_vs func19 (by decide) rfl ntmps19 results19 (by simp) rfl ?_;simp only[go_sem];refine ZgQ Zny ?_ ?_ (λb hb=> ?_);simp only[go_sem];simp only[go_sem];simp only[go_sem];refine Dl hH hn1 ?_ ?_ ?_;simp only[go_sem];simp only[go_sem,mc];rfl;simp only[go_sem,ZhO,mos,hm1];refine Dl hB1 hn2 ?_ ?_ ?_;simp only[go_sem];simp only[go_sem,mc];rfl;simp only[go_sem,tgc,tg];refine Dl hB2 hn3 ?_ ?_ ?_;simp only[go_sem];simp only[go_sem,mc];rfl;simp only[go_sem,tgc,tg,mo,chg,hk1,hk2];exact⟨_,rfl,rfl⟩
open Go.PL
theorem Zft {v:List Int} {l:List Opn} {i n:Nat} (hi:i<6) (hn:n<(v.getD i 0).toNat) (h:(⟨(i:Int)+1,(n:Int)+1⟩:Tg)∉l.map Opn.id):FW v l=false:=by
 rw[JL];intro ht;simp only[FW,Ju,JR,decide_eq_true_eq]at ht;exact h (ht i hi n hn)
theorem Zia {v:List Int} {l:List Opn} (h:∀i,i<6-> ∀n,n<(v.getD i 0).toNat->(⟨(i:Int)+1,(n:Int)+1⟩:Tg)∈l.map Opn.id):FW v l=true:=by
 simp only[FW,Ju,JR,decide_eq_true_eq];exact h
end Go.Proofs.YtepchngegclagaaGreat
namespace Go.PL
section
variable {n d b:Nat} {L:List (Nat×PV)} {cs:List PV} {c:MapC} {s:St}
theorem TY (h0:s.n=n) (hL:∀x∈L,s.fr x.1=x.2) (hb:s.m.h d=Hs cs) (hz:s.m.z d=Hf) (ho:s.m.o b=Hs c):HasX n L [(d,cs,Hf)] [] [(b,c)] [] [] [] [] [] s:=
 ⟨⟨h0,hL,by simp[hb,hz],by simp⟩,by simp[ho],by simp,by simp,by simp,by simp,by simp⟩
theorem FF (hL:∀x∈L,x.2.ids.all (Zy [(d,cs,Hf)] [])=Ht) (hc:(JV cs).all (Zy [(d,cs,Hf)] [])=Ht):WholeX L [(d,cs,Hf)] [] [] [] [] []:=
 ⟨⟨hL,by simpa using hc⟩,by simp,by simp,by simp,by simp,by simp⟩
theorem Zga (h0:s.n=n) (hL:∀x∈L,s.fr x.1=x.2) (ho:s.m.o b=Hs c):HasX n L [] [] [(b,c)] [] [] [] [] [] s:=
 ⟨⟨h0,hL,by simp,by simp⟩,by simp[ho],by simp,by simp,by simp,by simp,by simp⟩
theorem ZgW (hL:∀x∈L,x.2.ids.all (Zy [] [])=Ht):WholeX L [] [] [] [] [] []:=
 ⟨⟨hL,by simp⟩,by simp,by simp,by simp,by simp,by simp⟩
end
end Go.PL
namespace Go.Proofs.YtepchngegclagaaGreat
open Go.PL
structure ClS (v:List Int) (A:List Opn) where
 k:Nat
 ks:List Tg
 hk:k<=A.length
 h:∀t,t∈ks↔t∈(A.take k).map Opn.id
 hd:∀j,j<k-> ∀t∈(A.getD j Jd).drops,VG v t=Ht
theorem Zjk {v:List Int} {l:List Opn} (h:∀j,j<(atM v l).length-> ∀t∈((atM v l).getD j Jd).drops,VG v t=Ht):So v l=true:=by
 simp only[So,Ju];intro o ho t ht;obtain⟨j,hj,rfl⟩:=JC ho;have:=h j hj;rw[getD_lt hj]at this;exact this t ht
theorem Zhy {v:List Int} {l:List Opn} {j i:Nat} (hj:j<(atM v l).length) (hi:i<((atM v l).getD j Jd).drops.length) (h:VG v (((atM v l).getD j Jd).drops.getD i Jd)=Hf):So v l=false:=by
 rw[JL];intro ht;simp only[So,Ju]at ht;have:=ht _ (Zc (d:=Jd) hj) _ (Zc (d:=Jd) hi);rw[h]at this;cases this
theorem Zeb (l:List Opn) (v:List Int) (hl:l.length<=100000) (hv:v.length=6) (ho:∀o∈l,OkOp o):Pp 26 [Zt l,UG v] (.bool (WX v l)):=by
 have hR:=Zet v hv;cases hr:TN v;rw[hr]at hR;have hc:WX v l=false:=by simp[WX,hr]
 refine Zz func26 rfl ntmps26 results26 ?_;simp only[go_sem,Zt,UG,hv,ZY hv];refine vc9 hR ?_;simp only[go_sem,hc];rw[hr]at hR;have hT:=Zaj l v hl hv;have hAl:=ZiR v l;have hdn:∀ {j i:Nat},j<(atM v l).length->i<((atM v l).getD j Jd).drops.length->VG v (((atM v l).getD j Jd).drops.getD i Jd)=Hf->So v l=false:=λh1 h2 h3=>Zhy h1 h2 h3
 have hdo:=Zjk (v:=v) (l:=l);have hoA:∀o∈atM v l,OkOp o:=λo h=>ho o ((Zey v l).mem h)
 have hcl:WX v l=(So v l&&FW v (atM v l)):=by simp[WX,hr]
 generalize atM v l=A at *;refine Zz func26 rfl ntmps26 results26 ?_;simp only[go_sem,Zt,UG,hv,ZY hv];refine vc9 hR ?_;simp only[go_sem];intro b;simp only[go_sem,Zt,UG,hv,ZY hv];refine vc9 hT ?_;simp only[go_sem,Zt];refine YO (ι:=ClS v A) 66 (λx=> [(3,.ptr 3 0),(5,.mref b),(21,Zt A),(22,.int .i64 (A.length:Int)),(23,.int .i64 (x.k:Int))]) (λ_=> [(3,v.map (.int .i64),Hf)]) (λ_=> []) (λx=> [(b,tgm x.ks)]) (λ_=> []) (λ_=> []) (λ_=> []) [] [] [] (λx=>A.length-x.k) ⟨0,[],Jg _,λt=>by simp,λj hj=>absurd hj (JF j)⟩
  (TY rfl (Fc5 rfl rfl rfl rfl rfl) rfl rfl (by simp[upd,Hp.setq,St.with,tgm])) (λx=>FF (Fc5 rfl rfl rfl rfl rfl) (by rw[XW];rfl)) (λx=> ?_)
 obtain⟨k,ks,hk,hks,hd⟩:=x;simp only;by_cases h:(k:Int)<(A.length:Int);have hka:k<A.length:=by omega
 have i0:=Jb k
 have w1:=wk9 (k:=k) (by omega)
 have hdl:=(hoA _ (Zh (d:=Jd) hka)).d;generalize hx:A.getD k Jd=x at *;cases hf:ks.findIdx? (λy=>decide (x.id=y))with
 |none=>
  simp only[go_sem,Zt,h,ZC hka,hx,opv,i0,tgm,tg,X9,hf,tgs];refine YO (ι:= { j:Nat // j<=x.drops.length/\ ∀i,i<j->VG v (x.drops.getD i Jd)=Ht }) 66 (λy=> [(3,.ptr 3 0),(5,.mref b),(21,Zt A),(22,.int .i64 (A.length:Int)),(23,.int .i64 (k:Int)),(32,tgs x.drops),(33,.int .i64 (x.drops.length:Int)),(34,.int .i64 (y.1:Int))]) (λ_=> [(3,v.map (.int .i64),Hf)]) (λ_=> []) (λ_=> [(b,tgm (ks++ [x.id]))]) (λ_=> []) (λ_=> []) (λ_=> []) [] [] [] (λy=>x.drops.length-y.1) ⟨0,Jg _,λi hi=>absurd hi (JF i)⟩
   (TY rfl (Fc8 rfl rfl rfl rfl rfl rfl rfl rfl) rfl rfl (by simp[upd,Hp.setq,St.with,mkStX,Ya,tgm,tg])) (λy=>FF (Fc8 rfl rfl rfl rfl rfl rfl rfl rfl) (by rw[XW];rfl)) (λy=> ?_)
  obtain⟨j,hj,hJ⟩:=y;simp only
  by_cases h2:(j:Int)<(x.drops.length:Int)
  ·have hja:j<x.drops.length:=by omega
   have j1:=Jb j
   have w2:=wk9 (k:=j) (by omega)
   have hH:=UI v hv (x.drops.getD j Jd);have hno:=hdn hka (i:=j);rw[hx]at hno;generalize htt:x.drops.getD j Jd=t at *;cases hb:VG v t
   ·rw[hb]at hH;have hc:WX v l=false:=by simp[WX,hno hja hb]
    simp only[go_sem,tgs,h2,ZE hja,htt,tg,j1,hv,ZY hv];refine vc9 hH ?_;simp only[go_sem,hc]
   ·rw[hb]at hH;simp only[go_sem,tgs,h2,ZE hja,htt,tg,j1,hv,ZY hv];refine vc9 hH ?_;simp only[go_sem,w2];refine⟨⟨j+1,by omega,λi hi=> ?_⟩,nx9 (by omega),TY rfl (Fc8 rfl rfl rfl rfl rfl rfl rfl rfl) rfl rfl (by simp[upd,Hp.setq,St.with,mkStX,Ya,tgm])⟩;rcases JT i j with hlt|hge
    ·exact hJ i hlt
    ·obtain rfl:i=j:=by omega
     rw[htt];exact hb
  ·obtain rfl:j=x.drops.length:=by omega
   simp only[go_sem,h2,w1];refine⟨⟨k+1,ks++ [x.id],by omega,λt=> ?_,λi hi t ht=> ?_⟩,nx9 (by omega),TY rfl (Fc5 rfl rfl rfl rfl rfl) rfl rfl (by simp[upd,Hp.setq,St.with,mkStX,Ya,tgm])⟩
   ·rw[ZI (d:=Jd) hka,hx,Jf,Jp,Jp,<-hks t];simp
   ·rcases JT i k with hlt|hge
    ·exact hd i hlt t ht
    ·obtain rfl:i=k:=by omega
     rw[hx]at ht;obtain⟨q,hq,rfl⟩:=JC ht;rw[<-getD_lt (d:=Jd) hq];exact hJ q hq
 |some i=>
  have hin:x.id∈ks:=JP.1 λhn=>by rw[Tr.2 hn]at hf;cases hf
  simp only[go_sem,Zt,h,ZC hka,hx,opv,i0,tgm,tg,X9,hf,tgs];refine YO (ι:= { j:Nat // j<=x.drops.length/\ ∀i,i<j->VG v (x.drops.getD i Jd)=Ht }) 66 (λy=> [(3,.ptr 3 0),(5,.mref b),(21,Zt A),(22,.int .i64 (A.length:Int)),(23,.int .i64 (k:Int)),(32,tgs x.drops),(33,.int .i64 (x.drops.length:Int)),(34,.int .i64 (y.1:Int))]) (λ_=> [(3,v.map (.int .i64),Hf)]) (λ_=> []) (λ_=> [(b,tgm (ks))]) (λ_=> []) (λ_=> []) (λ_=> []) [] [] [] (λy=>x.drops.length-y.1) ⟨0,Jg _,λi hi=>absurd hi (JF i)⟩
   (TY rfl (Fc8 rfl rfl rfl rfl rfl rfl rfl rfl) rfl rfl (by simp[upd,Hp.setq,St.with,mkStX,Ya,tgm,Za4])) (λy=>FF (Fc8 rfl rfl rfl rfl rfl rfl rfl rfl) (by rw[XW];rfl)) (λy=> ?_)
  obtain⟨j,hj,hJ⟩:=y;simp only
  by_cases h2:(j:Int)<(x.drops.length:Int)
  ·have hja:j<x.drops.length:=by omega
   have j1:=Jb j
   have w2:=wk9 (k:=j) (by omega)
   have hH:=UI v hv (x.drops.getD j Jd);have hno:=hdn hka (i:=j);rw[hx]at hno;generalize htt:x.drops.getD j Jd=t at *;cases hb:VG v t
   ·rw[hb]at hH;have hc:WX v l=false:=by simp[WX,hno hja hb]
    simp only[go_sem,tgs,h2,ZE hja,htt,tg,j1,hv,ZY hv];refine vc9 hH ?_;simp only[go_sem,hc]
   ·rw[hb]at hH;simp only[go_sem,tgs,h2,ZE hja,htt,tg,j1,hv,ZY hv];refine vc9 hH ?_;simp only[go_sem,w2];refine⟨⟨j+1,by omega,λi hi=> ?_⟩,nx9 (by omega),TY rfl (Fc8 rfl rfl rfl rfl rfl rfl rfl rfl) rfl rfl (by simp[upd,Hp.setq,St.with,mkStX,Ya,tgm])⟩;rcases JT i j with hlt|hge
    ·exact hJ i hlt
    ·obtain rfl:i=j:=by omega
     rw[htt];exact hb
  ·obtain rfl:j=x.drops.length:=by omega
   simp only[go_sem,h2,w1];refine⟨⟨k+1,ks,by omega,λt=> ?_,λi hi t ht=> ?_⟩,nx9 (by omega),TY rfl (Fc5 rfl rfl rfl rfl rfl) rfl rfl (by simp[upd,Hp.setq,St.with,mkStX,Ya,tgm])⟩
   ·rw[ZI (d:=Jd) hka,hx,Jf,Jp,<-hks t];simp only[JD,JZ,Jj];constructor
    ·exact .inl
    ·rintro (e|e)
     ·exact e
     ·rw[e];exact hin
   ·rcases JT i k with hlt|hge
    ·exact hd i hlt t ht
    ·obtain rfl:i=k:=by omega
     rw[hx]at ht;obtain⟨q,hq,rfl⟩:=JC ht;rw[<-getD_lt (d:=Jd) hq];exact hJ q hq
 obtain rfl:k=A.length:=by omega
 rw[JA]at hks;have hdt:So v l=true:=hdo λj hj t ht=>hd j hj t ht
 rw[hdt,JH]at hcl;rw[hcl];simp only[go_sem,h,UG,hv,ZY hv];refine YO (ι:= { k:Nat // k<=6/\ ∀i,i<k-> ∀n,n<(v.getD i 0).toNat->(⟨(i:Int)+1,(n:Int)+1⟩:Tg)∈A.map Opn.id }) 66 (λx=> [(5,.mref b),(44,UG v),(45,.int .i64 (x.1:Int))]) (λ_=> []) (λ_=> []) (λ_=> [(b,tgm ks)]) (λ_=> []) (λ_=> []) (λ_=> []) [] [] [] (λx=>6-x.1) ⟨0,by omega,λi hi=>absurd hi (JF i)⟩
  (Zga rfl (Fc3 rfl rfl rfl) (by simp[upd,Hp.setq,St.with,mkStX,Ya,tgm])) (λx=>ZgW (Fc3 rfl (by simp[UG,Jo,XW]) rfl)) (λx=> ?_)
 obtain⟨k,hk,hT⟩:=x;simp only;by_cases h:(k:Int)<6;have hk6:k<v.length:=by omega
 have hra:=Zko hr hk6;have k0:=Jb k
 have k6:(k:Int)<((6:Nat):Int):=by omega
 have k5:k<6:=by omega
 have k55:k<=5:=by omega
 have w1:IntKind.i64.wrap ((k:Int)+1)=(k:Int)+1:=w64 (by omega);have w1':(k:Int)+1=((k+1:Nat):Int):=rfl;simp only[go_sem,h,UG,k0,k6,k5,k55,hv,Sv hk6];refine YO (ι:= { j:Nat // j<=(v.getD k 0).toNat/\ ∀n,n<j->(⟨(k:Int)+1,(n:Int)+1⟩:Tg)∈A.map Opn.id }) 66 (λy=> [(5,.mref b),(10,.int .i64 (k:Int)),(11,.int .i64 (v.getD k 0)),(12,.int .i64 ((y.1+1:Nat):Int)),(44,UG v),(45,.int .i64 (k:Int))]) (λ_=> []) (λ_=> []) (λ_=> [(b,tgm ks)]) (λ_=> []) (λ_=> []) (λ_=> []) [] [] [] (λy=>(v.getD k 0).toNat-y.1) ⟨0,by omega,λi hi=>absurd hi (JF i)⟩
  (Zga rfl (Fc6 rfl rfl rfl rfl rfl rfl) (by simp[upd,Hp.setq,St.with,mkStX,Ya,tgm])) (λy=>ZgW (Fc6 rfl rfl rfl rfl (by simp[UG,Jo,XW]) rfl)) (λy=> ?_)
 obtain⟨j,hj,hJ⟩:=y;simp only;by_cases h2:((j+1:Nat):Int)<=v.getD k 0;have w2:IntKind.i64.wrap (((j+1:Nat):Int)+1)=((j+1+1:Nat):Int):=by rw[w64 (by omega)];rfl
 have hfp:=X9 ⟨(k:Int)+1,((j+1:Nat):Int)⟩ ks;simp only at hfp;cases hf:ks.findIdx? (λy=>decide ((⟨(k:Int)+1,((j+1:Nat):Int)⟩:Tg)=y))with
 |none=>
  have hc:FW v A=false:=Zft (i:=k) (n:=j) (by omega) (by omega) λhm=>Tr.1 hf ((hks _).2 hm)
  simp only[go_sem,h2,w1,tgm,tg,hfp,hf,hc]
 |some i=>
  have hin:(⟨(k:Int)+1,(j:Int)+1⟩:Tg)∈ks:=JP.1 λhn=>by rw[show(λy=>decide ((⟨(k:Int)+1,((j+1:Nat):Int)⟩:Tg)=y))=(λy=>decide ((⟨(k:Int)+1,(j:Int)+1⟩:Tg)=y))from rfl,Tr.2 hn]at hf;cases hf
  have hik:i<ks.length:=(JG.1 hf).1;have hgd:(ks.map λ_=>KW []).getD i .any= .agg []:=by rw[getD_lt (by simpa using hik)];simp
  simp only[go_sem,h2,w1,tgm,tg,hfp,hf,w2,hgd];refine⟨⟨j+1,by omega,λn hn=> ?_⟩,by show(v.getD k 0).toNat-(j+1)<(v.getD k 0).toNat-j;omega,Zga rfl (Fc6 rfl rfl rfl rfl rfl rfl) (by simp[upd,Hp.setq,St.with,mkStX,Ya,tgm])⟩;rcases JT n j with hlt|hge
  ·exact hJ n hlt
  ·obtain rfl:n=j:=by omega
   exact(hks _).1 hin
 simp only[go_sem,h2,w1];refine⟨⟨k+1,by omega,λi hi n hn=> ?_⟩,by show 6-(k+1)<6-k;omega,Zga rfl (Fc3 rfl rfl rfl) (by simp[upd,Hp.setq,St.with,mkStX,Ya,tgm])⟩;rcases JT i k with hlt|hge;exact hT i hlt n hn;obtain rfl:i=k:=by omega
 exact hJ n (by omega);have hc:FW v A=true:=Zia λi hi n hn=>hT i (by omega) n hn
 simp only[go_sem,h,hc]
open Go.PL
open Go.ChangeShapes Go.WideShapes Go.ChangeAt Go.RowKit
theorem Zp6:Zca prog 46=false:=by kernel_rfl
theorem Zqd {cs:List PV} (h:PT prog 46 cs):∃l:List Tg,cs= [.sl .no (l.map tg)]/\l.length<=maxLen:=by
 obtain⟨l,rfl,h1,h2⟩:=h.slice_inv Zp6 underlying46;obtain⟨xs,rfl,_⟩:=Tl (enc:=tg) (Q:=λ_=>True) (λp hp=>by
  obtain⟨s,rfl⟩:=pa_tag (h2 p hp);exact⟨s,rfl,trivial⟩)
 exact⟨xs,rfl,by simpa using h1⟩
theorem Zsq {p:PV} (h:PA prog 48 p):∃o:Opn,p=opv o/\o.drops.length<=maxLen:=by
 obtain⟨cs,rfl,h1⟩:=PA.agg Zoz h;have h1:PTs prog [25,25,2,9,3,9,27,2,4,9,46] cs:=h1.struct_inv underlying48;obtain⟨a1,b1,rfl,h2,h3⟩:=h1.cons_inv;obtain⟨a2,b2,rfl,h4,h5⟩:=h3.cons_inv;obtain⟨a3,b3,rfl,h6,h7⟩:=h5.cons_inv;obtain⟨a4,b4,rfl,h8,h9⟩:=h7.cons_inv;obtain⟨a5,b5,rfl,h10,h11⟩:=h9.cons_inv;obtain⟨a6,b6,rfl,h12,h13⟩:=h11.cons_inv;obtain⟨a7,b7,rfl,h14,h15⟩:=h13.cons_inv;obtain⟨a8,b8,rfl,h16,h17⟩:=h15.cons_inv;obtain⟨a9,b9,rfl,h18,h19⟩:=h17.cons_inv;obtain⟨aa,ba,rfl,h20,h21⟩:=h19.cons_inv;obtain⟨ab,bb,rfl,h22,h23⟩:=h21.cons_inv;obtain⟨x1,rfl⟩:=Zdq h2;obtain⟨x2,rfl⟩:=Zdq h4;obtain⟨x3,rfl,_⟩:=h6.int_inv underlying2;obtain⟨x4,rfl,_⟩:=h8.string_inv underlying9;obtain⟨x5,rfl,_⟩:=h10.int_inv underlying3;obtain⟨x6,rfl,_⟩:=h12.string_inv underlying9;obtain⟨x7,rfl⟩:=Zkh h14;obtain⟨x8,rfl,_⟩:=h16.int_inv underlying2;obtain⟨x9,rfl⟩:=h18.bool_inv underlying4;obtain⟨xa,rfl,_⟩:=h20.string_inv underlying9;obtain⟨xb,rfl,kb⟩:=Zqd h22;rw[h23.nil_inv];exact⟨⟨x1,x2,x3,x4,x5,x6,x7,x8,x9,xa,xb⟩,rfl,kb⟩
open Go.PL
open Go.ChangeShapes Go.WideShapes Go.ChangeAt Go.RowKit
theorem Zp4:Zca prog 23=false:=by kernel_rfl
theorem pa_ops {p:PV} (h:PA prog 23 p):∃l:List Opn,p=Zt l/\l.length<=maxLen:=by
 obtain⟨l,rfl,h1,h2⟩:=h.slice Zp4 underlying23;obtain⟨xs,rfl,h3⟩:=Tl (enc:=opv) (Q:=λ_=>True) (λp hp=>by
  obtain⟨s,rfl,_⟩:=Zsq (h2 p hp);exact⟨s,rfl,trivial⟩)
 exact⟨xs,rfl,by simpa using h1⟩
theorem lenLn {x:Ln} (h:LenLn' x):LenLn x:=⟨h.c,h.f,h.b⟩
end Go.Proofs.YtepchngegclagaaGreat
