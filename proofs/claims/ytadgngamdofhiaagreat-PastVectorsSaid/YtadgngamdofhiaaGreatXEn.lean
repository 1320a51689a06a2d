/- Lemmas of the proof. -/
import Derived.Test.YtadgngamdofhiaaGreatPlH
import Derived.Test.YtadgngamdofhiaaGreatXAa
import Derived.Test.YtadgngamdofhiaaGreatXAe
import Derived.Test.YtadgngamdofhiaaGreatXAi
import Derived.Test.YtadgngamdofhiaaGreatXAz
import Derived.Test.YtadgngamdofhiaaGreatXBc
import Derived.Test.YtadgngamdofhiaaGreatXBd
import Derived.Test.YtadgngamdofhiaaGreatXBs
import Derived.Test.YtadgngamdofhiaaGreatXCc
import Derived.Test.YtadgngamdofhiaaGreatXCe
import Derived.Test.YtadgngamdofhiaaGreatXDa
import Derived.Test.YtadgngamdofhiaaGreatXDu
import Derived.Test.YtadgngamdofhiaaGreatXEh
import Derived.Test.YtadgngamdofhiaaGreatXEl
set_option maxHeartbeats 64000000
set_option maxRecDepth 20000
set_option linter.unusedVariables false
set_option linter.unusedSimpArgs false
open Inhabited renaming default→Jd
open Go.Proofs.Tryz
open Go Go.PL
open Bool renaming false_and→Jj,and_eq_true→Jm,eq_iff_iff→Jp
open Gh renaming weak→Jz
open Has renaming weak→Jv
open Int renaming natCast_nonneg→Ja,le_refl→Ju
open List renaming map_append→Jb,take_of_length_le→Je,append_nil→Jf,length_append→Jg,mem_filter→Jh,length_filter_le→Ji,length_take_le→Jk,any_eq_true→Jl,length_take→Jn,take_length→Jo,length_map→Jq,Nodup→Jy
open Nat renaming zero_le→Jc,le_trans→Jt
open PV renaming sl→Jr,ids→Jw
open Refs renaming mkSt→Js
namespace Go.Proofs.YtadgngamdofhiaaGreat
open Go.PL
theorem Fz (m:List Eg) (o:Opn) (b:Tg) (hm:OkM m):Pp 137 [egs m,opv o,tg b] (.int .i64 (Xm m o b)):=by
 have hR:=DG o;have hSa:=WZ m o.sch hm;have hSb:=WZ m b hm;cases h1:X9 o;rw[h1]at hR;have ht:Xm m o b=5:=by simp[ Xm,h1]
 rw[ht];refine ZH func137 rfl ntmps137 results137 ?_;simp only[go_sem,egs,tg,opv];refine vc6 hR ?_;simp only[go_sem];rw[h1]at hR;by_cases h2:upC m o.sch=0;have okA:=DR hm h2;have hF:=Zgo (Ys (Zd m) o.sch).1 o okA;have v2:(Ys (Zd m) o.sch).2=0:=h2;by_cases h3:upC m b=0;have v3:(Ys (Zd m) b).2=0:=h3;cases h4:Tz (Ys (Zd m) o.sch).1 o;rw[h4]at hF;have ht:Xm m o b=16:=by simp[ Xm,h1,h2,h3,h4]
 rw[ht];clear ht h4 h2 h3 okA;generalize Ys (Zd m) o.sch=ya at *;obtain⟨A,ca⟩:=ya;generalize Ys (Zd m) b=yb at *;obtain⟨B,cb⟩:=yb;simp only at v2 v3 hF;subst v2 v3;refine ZH func137 rfl ntmps137 results137 ?_;simp only[go_sem,egs,tg,opv];refine vc6 hR ?_;simp only[go_sem];refine vc3 hSa ?_;simp only[go_sem,ZM,Zi];refine vc3 hSb ?_;simp only[go_sem,ZM,Zi];refine vc6 hF ?_;simp only[go_sem];rw[h4]at hF;have ht:Xm m o b=0:=by simp[Xm,h1,h2,h3,h4]
 rw[ht];clear ht h4 h2 h3 okA;generalize Ys (Zd m) o.sch=ya at *;obtain⟨A,ca⟩:=ya;generalize Ys (Zd m) b=yb at *;obtain⟨B,cb⟩:=yb;simp only at v2 v3 hF;subst v2 v3;refine ZH func137 rfl ntmps137 results137 ?_;simp only[go_sem,egs,tg,opv];refine vc6 hR ?_;simp only[go_sem];refine vc3 hSa ?_;simp only[go_sem,ZM,Zi];refine vc3 hSb ?_;simp only[go_sem,ZM,Zi];refine vc6 hF ?_;simp only[go_sem];have v3:((Ys (Zd m) b).2 !=0)=true:=by have h':(Ys (Zd m) b).2≠0:=h3;simpa using h'
 have ht:Xm m o b=(Ys (Zd m) b).2:=by
  have e:upC m b=(Ys (Zd m) b).2:=rfl;rw[<-e];simp[Xm,h1,h2,h3]
 rw[ht];clear ht h2 h3 okA;generalize Ys (Zd m) o.sch=ya at *;obtain⟨A,ca⟩:=ya;generalize Ys (Zd m) b=yb at *;obtain⟨B,cb⟩:=yb;simp only at v2 v3 hF;subst v2;refine ZH func137 rfl ntmps137 results137 ?_;simp only[go_sem,egs,tg,opv];refine vc6 hR ?_;simp only[go_sem];refine vc3 hSa ?_;simp only[go_sem,ZM,Zi];refine vc3 hSb ?_;simp only[go_sem,ZM,Zi,v3];have v2:((Ys (Zd m) o.sch).2 !=0)=true:=by have h':(Ys (Zd m) o.sch).2≠0:=h2;simpa using h'
 have ht:Xm m o b=(Ys (Zd m) o.sch).2:=by
  have e:upC m o.sch=(Ys (Zd m) o.sch).2:=rfl;rw[<-e];simp[Xm,h1,h2]
 rw[ht];clear ht h2;generalize Ys (Zd m) o.sch=ya at *;obtain⟨A,ca⟩:=ya;simp only at v2;refine ZH func137 rfl ntmps137 results137 ?_;simp only[go_sem,egs,tg,opv];refine vc6 hR ?_;simp only[go_sem];refine vc3 hSa ?_;simp only[go_sem,ZM,Zi,v2]
theorem Zjh (m:List Eg) (o:Opn) (b:Tg) (hm:OkM m) (hr:RightM m):Pp 96 [egs m,opv o,tg b] (TN (toT m o b)):=by
 have hK:=Fz m o b hm;have hA:=Zji m o o.sch b hm hr;unfold toT;by_cases hc:Xm m o b=0;rw[hc]at hK;rw[hc,if_neg (λh=>h rfl)];generalize ZnE m o.sch b o=y at *;obtain⟨q,ok⟩:=y;refine ZA func96 rfl ntmps96 results96 (WT _) ?_;simp only[go_sem,egs,tg,opv];refine vc6 hK ?_;simp only[go_sem];refine vc6 hA ?_;simp only[go_sem,opb,opv,TN];rw[if_pos hc];have hc':(Xm m o b !=0)=true:=by simpa using hc
 refine ZA func96 rfl ntmps96 results96 (WT _) ?_;simp only[go_sem,egs,tg,opv];refine vc6 hK ?_;simp only[go_sem,hc',TN,Zv];try rfl
theorem Zby (m:List Eg) (o:Opn) (hm:OkM m):Pp 94 [egs m,opv o] (.bool (Vi m o)):=by
 have hK:=Fz m o Jd hm;have e:(Xm m o Jd==0)=Vi m o:=by
  rw[Jp,beq_iff_eq];exact Zjz
 refine ZH func94 rfl ntmps94 results94 ?_;simp only[go_sem,egs,opv];refine Yh hK ?_ ?_ ?_;iterate 2 simp only[go_sem,egs,opv,Sq]
 simp only[go_sem,e]
open Go.PL Go.PL.Srt
theorem Zgp (a b:Opn):Pp 83 [opv a,opv b] (.bool (Z4 a b)):=by
 have hT:=FE a.id b.id;unfold Z4;by_cases h:a.time=b.time;have e1:¬a.time<b.time:=by omega
 have e2:(a.time==b.time)=true:=by simpa using h
 rw[if_pos h];refine ZH func83 rfl ntmps83 results83 ?_;simp only[go_sem,opv,e1,e2];refine vc3 hT ?_;simp only[go_sem];have e2:(a.time==b.time)=false:=by simpa using h
 rw[if_neg h];by_cases e1:a.time<b.time;refine ZH func83 rfl ntmps83 results83 ?_;simp only[go_sem,opv,e1,e2];refine ZH func83 rfl ntmps83 results83 ?_;simp only[go_sem,opv,e1,e2]
theorem ZqS {l:List Tg} {t:Tg}:0<=idx (λx=>decide (x=t)) l↔t∈l:=by
 unfold idx;cases h:l.findIdx? λx=>decide (x=t)with
 |none=>
  rw[List.findIdx?_eq_none_iff]at h;refine⟨λhh=>absurd hh (by decide),λhm=> ?_⟩;simpa using h t hm
 |some i=>
  obtain⟨h1,h2,_⟩:=List.findIdx?_eq_some_iff_getElem.1 h;refine⟨λ_=> ?_,λ_=>Ja i⟩;have:l[i]=t:=by simpa using h2
  rw[<-this];exact List.getElem_mem h1
def drO (m:List Eg) (o:Opn) (t:Tg):Bool:=decide (t∈o.drops)&&Vi m o
theorem Zlw (m:List Eg) (l:List Opn) (t:Tg):WD (Va m l) t=l.any λo=>drO m o t:=by
 rw[Jp];simp only[WD,Va,Jl,Jh,drO,Jm,decide_eq_true_eq];exact⟨λ⟨o,⟨h1,h2⟩,h3⟩=>⟨o,h1,h3,h2⟩,λ⟨o,h1,h3,h2⟩=>⟨o,⟨h1,h2⟩,h3⟩⟩
theorem ZcO (m:List Eg) (l:List Opn) (t:Tg) (hm:OkM m) (hl:l.length<=100000) (ho:∀o∈l,OkOp o):Pp 95 [egs m,Zq l,tg t] (.bool (WD (Va m l) t)):=by
 have hlm:l.length<=maxLen:=by rw[Zb];omega
 rw[Zlw];refine ZH func95 rfl ntmps95 results95 ?_;simp only[go_sem,egs,Zq,tg];refine Zt (ι:= { x:Nat // x<=(l).length/\(∀j,j<x->drO m (l.getD j Jd) t=false) }) 30 (λx=> [(0,egs m),(1,Zq l),(5,.ptr 5 0),(7,.int .i64 (x.1:Int))]) (λx=> [(5,[.int .i64 t.r,.int .i64 t.n],false)]) (λx=> []) (λx=>(l).length-x.1) ⟨0,Jc _,λj hj=>absurd hj (Nat.not_lt_zero j)⟩ ⟨rfl,(Fc4 rfl rfl rfl rfl),(fcs ⟨rfl,rfl⟩ fnl),fnl⟩ (λx=>⟨(Fc4 rfl rfl rfl rfl),(fcs rfl fnl)⟩) (λx=> ?_);obtain⟨k,hk,hI⟩:=x;simp only at hk hI ⊢;by_cases h:(k:Int)<(l.length:Int)
 (have hka:k<(l).length:=by omega);(have w1:=Xb hka (hlm));(have i1:=Ja k)
 have hR:=Zby m (l.getD k Jd) hm;have hH:=Zbw (l.getD k Jd).drops t (by have:=(ho _ (Zs (d:=Jd) hka)).d;rw[Zb];omega);have hmem:=ZqS (l:=(l.getD k Jd).drops) (t:=t);have hdr:drO m (l.getD k Jd) t=(decide (t∈(l.getD k Jd).drops)&&Vi m (l.getD k Jd)):=rfl;have hat:drO m (l.getD k Jd) t=true->(l.any λo=>drO m o t)=true:=λhh=>Jl.2 ⟨_,Ze hka,hh⟩
 generalize hx:l.getD k Jd=x at *;generalize idx (λy=>decide (y=t)) x.drops=q at *;by_cases hq:0<=q;rw[decide_eq_true (hmem.1 hq),Bool.true_and]at hdr;cases hrd:Vi m x
 ·rw[hrd]at hR hdr;simp only[go_sem,egs,Zq,h];refine vDq ?_;simp only[go_sem,Zq,h,Zl hka,hx,opv,i1];refine vc3 hH ?_;simp only[go_sem,hq,Zq,h,Zl hka,hx,opv,i1];refine vc6 hR ?_;simp only[go_sem,w1];exact⟨⟨k+1,by(try simp only);omega,Zm hI (by rw[hx];exact hdr)⟩,by show(l).length-(k+1)<(l).length-k;omega,⟨rfl,(Fc4 rfl rfl rfl rfl),(fcs ⟨rfl,rfl⟩ fnl),fnl⟩⟩
 rw[hrd]at hR hdr;have hz:=hat hdr;simp only[go_sem,egs,Zq,h];refine vDq ?_;simp only[go_sem,Zq,h,Zl hka,hx,opv,i1];refine vc3 hH ?_;simp only[go_sem,hq,Zq,h,Zl hka,hx,opv,i1];refine vc6 hR ?_;simp only[go_sem,hz]
 ·rw[decide_eq_false λhh=>hq (hmem.2 hh),Jj]at hdr;simp only[go_sem,egs,Zq,h];refine vDq ?_;simp only[go_sem,Zq,h,Zl hka,hx,opv,i1];refine vc3 hH ?_;simp only[go_sem,hq,w1];exact⟨⟨k+1,by(try simp only);omega,Zm hI (by rw[hx];exact hdr)⟩,by show(l).length-(k+1)<(l).length-k;omega,⟨rfl,(Fc4 rfl rfl rfl rfl),(fcs ⟨rfl,rfl⟩ fnl),fnl⟩⟩
 have hz:(l.any λo=>drO m o t)=false:=by
  rw[List.any_eq_false];intro o ho';obtain⟨j,hj,rfl⟩:=List.getElem_of_mem ho';have:=hI j (by omega);rw[getD_lt hj]at this;rw[this];simp
 simp only[go_sem,Zq,h,hz]
theorem Zgv (m:List Eg) (l:List Opn) (b:Tg) (hm:OkM m) (hr:RightM m) (hl:l.length<=100000):Pp 47 [egs m,Zq l,tg b] (Zq (YW m l b)):=by
 have hlm:l.length<=maxLen:=by rw[Zb];omega
 refine ZA func47 rfl ntmps47 results47 (VQ _) ?_;simp only[go_sem,egs,Zq,tg];refine ZL 7 12 38 0 15 62 [] rfl rfl rfl ?_;refine Zt (ι:= { x:Nat // x<=(l).length }) 40 (λx=> [(0,egs m),(1,Zq l),(5,.ptr 5 0),(7,.sl (.row 38) ((YW m (l.take x.1) b).map opv)),(8,.int .i64 (x.1:Int))]) (λx=> [(5,[.int .i64 b.r,.int .i64 b.n],false)]) (λx=> [(38,.live ((YW m (l.take x.1) b).length) (15) (62))]) (λx=>(l).length-x.1) ⟨0,Jc _⟩ ⟨rfl,(Fc5 rfl rfl rfl rfl rfl),(fcs ⟨rfl,rfl⟩ fnl),(fcs rfl fnl)⟩ (λx=>⟨(Fc5 rfl rfl rfl (by simp[Jw,ZG]) rfl),(fcs rfl fnl)⟩) (λx=> ?_);obtain⟨k,hk⟩:=x;simp only at hk ⊢;by_cases h:(k:Int)<(l.length:Int)
 (have hka:k<(l).length:=by omega);(have w1:=Xb hka (hlm));(have i1:=Ja k)
 have hT:=Zjh m (l.getD k Jd) b hm hr;have hsn:=Zct m b hka;have hsl:=UE m (l.take k) b;have htl:(l.take k).length<=k:=Jk _ _;have hrm:=Yb (show(YW m (l.take k) b).length+1<=1000000 by omega) (show 176<=1000 by omega);have hml:((YW m (l.take k) b).map opv).length=(YW m (l.take k) b).length:=Jq _;have hsz:=Yx (YW m (l.take k) b);generalize toT m (l.getD k Jd) b=y at *;obtain⟨yo,yk,yc⟩:=y;have hsx:Sized 15 [opv yo]:=Yx [yo];have hax:Xw [opv yo]:=Wi [yo];generalize hx:l.getD k Jd=x at *;simp only at hsn;simp only[opv]at hsx hax;cases k0:(yc==0);rw[k0,Jj,if_neg (by simp),Jf]at hsn;simp only[go_sem,egs,Zq,h];refine vDq ?_;simp only[go_sem,Zq,h,Zl hka,hx,opv,i1];refine vc6 hT ?_;simp only[go_sem,TN,opv,k0,w1];exact⟨⟨k+1,by omega⟩,nx9 (by omega),⟨rfl,by simp only;rw[hsn];exact(Fc5 rfl rfl rfl rfl rfl),fcs ⟨rfl,rfl⟩ fnl,by simp only;rw[hsn];exact fcs rfl fnl⟩⟩;cases k1:yk;rw[k1,Bool.and_false,if_neg (by simp),Jf]at hsn;simp only[go_sem,egs,Zq,h];refine vDq ?_;simp only[go_sem,Zq,h,Zl hka,hx,opv,i1];refine vc6 hT ?_;simp only[go_sem,TN,opv,k0,k1,w1];exact⟨⟨k+1,by omega⟩,nx9 (by omega),⟨rfl,by simp only;rw[hsn];exact(Fc5 rfl rfl rfl rfl rfl),fcs ⟨rfl,rfl⟩ fnl,by simp only;rw[hsn];exact fcs rfl fnl⟩⟩;rw[k0,k1,Bool.and_self,if_pos rfl]at hsn;simp only[go_sem,egs,Zq,h];refine vDq ?_;simp only[go_sem,Zq,h,Zl hka,hx,opv,i1];refine vc6 hT ?_;simp only[go_sem,TN,opv,k0,k1,w1,hml,hsz,hrm,hsx,hax];exact⟨⟨k+1,by omega⟩,nx9 (by omega),⟨rfl,by simp only;rw[hsn,Jb];exact(Fc5 rfl rfl rfl rfl rfl),fcs ⟨rfl,rfl⟩ fnl,by simp only;rw[hsn,Jg];exact fcs rfl fnl⟩⟩;have htk:l.take k=l:=Je (by omega);simp only[go_sem,Zq,h,htk]
end Go.Proofs.YtadgngamdofhiaaGreat
namespace Go.PL
open Srt
section
variable {s:St}
theorem Gh.plainB {b j d:Nat} {es cs:List PV} (hb:s.m.h b=some cs) (hz:s.m.z b=false) (hj:j<cs.length) (hjd:cs.getD j .any= .sl (.row d) es):
  Gh s (s.with { s.m with h:=upd s.m.h b (some (cs.set j (.sl .no es))) }):=λB S M a w hs=>by
 have hB:=hs.blk b cs hb;rw[hz]at hB;obtain⟨_,_,_,h6⟩:=hB;refine⟨S,M,hs.tellBlk hb hz List.length_set (λk v hk hr=> ?_) (λc hc i hi=> ?_),Ext.refl _ _ _⟩;by_cases ek:j=k;subst ek;rw[ZlL hj];rw[hjd]at hr;exact .clean hr.sl_inv;rw[TA ek];exact hr;rcases List.mem_or_eq_of_mem_set hc with hc|rfl;exact h6 c hc i hi;simp[Jw]at hi
end
end Go.PL
namespace Go.Proofs.YtadgngamdofhiaaGreat
open Go.PL Go.PL.Srt
theorem Zgj (m:List Eg) (l:List Opn) (hm:OkM m) (hl:l.length<=100000) (ho:∀o∈l,OkOp o) (hU:(l.map Opn.id).Nodup):Pp 46 [egs m,Zq l] (Zq (Wp m l)):=by
 have hL:=λa b=>Zgp a b
 rw[<-Zoc];refine ZA func46 rfl ntmps46 results46 (VQ _) ?_;simp only[go_sem,egs,Zq];refine Znu (ι:= { k:Nat // k<=l.length }) 69 (λx=> [(0,egs m),(1,Zq l),(5,Zq (ZhS m l x.1)),(6,.int .i64 (x.1:Int))]) (λx=> []) (λx=> []) (λx=>l.length-x.1) ⟨0,Jc _⟩
  ⟨rfl,Fc4 (.same rfl) (.same rfl) (.row 9 []) (.same rfl),fnl,fnl⟩ (λx=>⟨(Fc4 rfl rfl rfl rfl),fnl⟩) (λx=> ?_)
 obtain⟨k,hk⟩:=x;simp only;have hlen:=Zod m l k;by_cases hlt:(k:Int)<(l.length:Int);have hka:k<l.length:=by omega
 have i0:=Ja k
 have w1:=wk9 (k:=k) (by omega)
 have hs:=ZkY m hU hka;have hgd:=Zl hka;have hR:=Zby m (l.getD k Jd) hm;have hD:=ZcO m l (l.getD k Jd).id hm hl ho;have hab:Zsx m l (l.getD k Jd)=(Vi m (l.getD k Jd)&& !WD (Va m l) (l.getD k Jd).id):=rfl;generalize ZhS m l k=out at *;generalize hs2:ZhS m l (k+1)=out2 at *;generalize he:l.getD k Jd=e at *;generalize WD (Va m l) e.id=dr at *;cases hr:Vi m e;rw[hr]at hR hab;rw[hab,Jj,if_neg (by simp)]at hs;simp only[go_sem,egs,Zq,hlt,hgd,i0,opv];refine vc6 hR ?_;simp only[go_sem,w1];refine⟨⟨k+1,by omega⟩,nx9 (by omega),?_⟩;simp only[hs2,hs];exact⟨rfl,Fc4 (.same rfl) (.same rfl) (.same rfl) (.same rfl),fnl,fnl⟩;rw[hr]at hR hab;cases hdr:dr;rw[hdr]at hD hab;rw[hab,if_pos (by rfl)]at hs;have hpl:=ZmA out e;have hX:out2.map opv=(out.take (V8 out e)).map opv++ [opv e]++(out.drop (V8 out e)).map opv:=by
  rw[hs];simp only[Jb,List.map_cons,List.map_nil]
 have hpI:((V8 out e:Nat):Int)<=(out.length:Int):=by omega
 have hlp:(out.take (V8 out e)).length=V8 out e:=by rw[Jn];omega
 have hld:(out.drop (V8 out e)).length=out.length-V8 out e:=by rw[List.length_drop]
 have hrm1:=Yb (show V8 out e<=1000000 by omega) (show 176<=1000 by omega);have hrm2:=Yb (show V8 out e+1<=1000000 by omega) (show 176<=1000 by omega);have hrm3:=Yb (show V8 out e+1+(out.length-V8 out e)<=1000000 by omega) (show 176<=1000 by omega);have hs1:∀(a:List Opn),Sized 15 (a.map opv++ [opv e]):=λa=>by have:=Yx (a++ [e]);rwa[Jb]at this
 simp only[go_sem,egs,Zq,hlt,hgd,i0,opv];refine vc6 hR ?_;simp only[go_sem,hgd,i0,hlt,opv];refine vc7 hD ?_;simp only[go_sem];refine Zt (ι:= { j:Nat // j<=V8 out e }) 69 (λx=> [(0,egs m),(1,Zq l),(5,Zq out),(6,.int .i64 (k:Int)),(7,.int .i64 (x.1:Int))]) (λx=> []) (λx=> []) (λx=>V8 out e-x.1) ⟨0,Jc _⟩ ⟨rfl,(Fc5 rfl rfl rfl rfl rfl),fnl,fnl⟩ (λx=>⟨(Fc5 rfl rfl rfl rfl rfl),fnl⟩) (λx=> ?_);obtain⟨j,hj⟩:=x;simp only;by_cases hjl:(j:Int)<(out.length:Int);have hja:j<out.length:=by omega
 have j0:=Ja j
 have hgj:=Zl hja;by_cases hjp:j<V8 out e;have ht:=Zhj out e j hjp;have w2:=wk9 (k:=j) (by omega)
 simp only[go_sem,Zq,hjl];refine vDq ?_;simp only[go_sem,Zq,hjl,hgd,hgj,opv,i0,j0,hlt];refine vc6 (hL e (out.getD j Jd)) ?_;simp only[go_sem,ht,w2];exact⟨⟨j+1,by omega⟩,by show V8 out e-(j+1)<V8 out e-j;omega,⟨rfl,(Fc5 rfl rfl rfl rfl rfl),fnl,fnl⟩⟩;obtain rfl:j=V8 out e:=by omega
 have ht:=Zav out e hja;simp only[go_sem,Zq,hjl];refine vDq ?_;simp only[go_sem,Zq,hjl,hgd,hgj,opv,i0,j0,hlt];refine vc6 (hL e (out.getD (V8 out e) Jd)) ?_;simp only[go_sem,ht,hgd,i0,j0,hpI,hlt,ZeE,ZeC,Yx,hs1,Wi,hrm1,hrm2,hrm3,hlp,hld,Jg,w1,opv];refine⟨Ju _,hs1 _,⟨k+1,by omega⟩,nx9 (by omega),?_⟩;simp only[hs2,Zq,hX];exact⟨rfl,Fc4 (.same rfl) (.same rfl) (.row 67 _) (.same rfl),fnl,fnl⟩;obtain rfl:j=V8 out e:=by omega
 have j0:(0:Int)<=((V8 out e:Nat):Int):=by omega
 simp only[go_sem,Zq,hjl];refine vDq ?_;simp only[go_sem,Zq,hjl,hgd,i0,j0,hpI,hlt,ZeE,ZeC,Yx,hs1,Wi,hrm1,hrm2,hrm3,hlp,hld,Jg,w1,opv];refine⟨Ju _,hs1 _,⟨k+1,by omega⟩,nx9 (by omega),?_⟩;simp only[hs2,Zq,hX];exact⟨rfl,Fc4 (.same rfl) (.same rfl) (.row 67 _) (.same rfl),fnl,fnl⟩;rw[hdr]at hD hab;rw[hab,if_neg (by simp)]at hs;simp only[go_sem,egs,Zq,hlt,hgd,i0,opv];refine vc6 hR ?_;simp only[go_sem,hgd,i0,hlt,opv];refine vc7 hD ?_;simp only[go_sem,w1];refine⟨⟨k+1,by omega⟩,nx9 (by omega),?_⟩;simp only[hs2,hs];exact⟨rfl,Fc4 (.same rfl) (.same rfl) (.same rfl) (.same rfl),fnl,fnl⟩;obtain rfl:k=l.length:=by omega
 simp only[go_sem,Zq,hlt]
open Go.PL Go.PL.Srt
def tsL (S:List Opn) (c it:Str) (k:Nat):List (Nat×PV):= [(1,Zq S),(2,.str c),(3,.str it),(4,.ptr 4 0),(8,.ptr 8 0),(9,.ptr 9 0),(10,.int .i64 (k:Int))]
def tsH (f:Fd) (W:List Str):List (Nat×List PV×Bool):= [(4,[.int .i64 f.at'.sc,.str f.at'.gr,.str f.at'.nm,.int .i64 f.kind,.str f.df,.sl .no (f.cases'.map .str),.int .i64 f.worth],false),(8,[.int .i64 0,.str [],.str [],.int .i64 0,.sl .nil []],false),(9,[.int .i64 f.at'.sc,.str f.at'.gr,.str f.at'.nm,.int .i64 0,.sl .no ((Zl2 W f.df).map .str)],false)]
theorem ZhB (S:List Opn) (c it:Str) (k:Nat) (f:Fd) (W:List Str):Fa (tsL S c it k) (tsH f W) []:=⟨(Fc7 rfl rfl rfl rfl rfl rfl rfl),(Fc3 rfl rfl rfl)⟩
theorem DE (f:Fd) (S:List Opn) (c it:Str) (hl:S.length<=1000) (hf:f.kind=2\/f.kind=3):Pp 97 [fld f,Zq S,.str c,.str it] (ent ⟨f.at',0,Zl2 (Z5 (S.filter (Ve c it f.at'))) f.df⟩):=by
 have hV:=ZcU f;have hlm:S.length<=maxLen:=by rw[Zb];omega
 have hva:YK f=⟨f.at',0,[f.df]⟩:=by unfold YK;rw[if_neg (by omega)]
 rw[hva]at hV;have ef1:(f.kind==1)=false:=by rcases hf with h|h<;>rw[h]<;>rfl
 have ef23:((f.kind==2)=true/\(f.kind==3)=false)\/((f.kind==2)=false/\(f.kind==3)=true):=by rcases hf with h|h<;>simp[h]
 have ef4:(f.kind==4)=false:=by rcases hf with h|h<;>rw[h]<;>rfl
 refine ZA func97 rfl ntmps97 results97 (Xe _) ?_;simp only[go_sem,fld,Zq];refine vc2 hV ?_;simp only[go_sem,ent];refine Zud (ι:= { k:Nat // k<=S.length }) (λx=>mkSt 96 (tsL S c it x.1) (tsH f (Z5 ((S.take x.1).filter (Ve c it f.at')))) []) (λx=>S.length-x.1) ⟨0,Jc _⟩
  (Jz (Jv ⟨rfl,(Fc7 rfl rfl rfl rfl rfl rfl rfl),Fc3 ⟨rfl,rfl⟩ ⟨rfl,rfl⟩ ⟨rfl,rfl⟩,fnl⟩) (Js (ZhB _ _ _ _ _ _))) (λx=> ?_)
 obtain⟨k,hk⟩:=x;simp only;by_cases h:(k:Int)<(S.length:Int);have hka:k<S.length:=by omega
 have i1:=Ja k
 have w1:=Xb hka hlm;have hsn:=Zdv (Ve c it f.at') hka;have hts:=ZcC ((S.take k).filter (Ve c it f.at')) (S.getD k Jd);have hr0:=Yb (show 1<=1000000 by omega) (show 16<=1000 by omega);have hgo:∀(s':St) (j:Nat),j=k+1->j<=S.length->Gh s' (mkSt 96 (tsL S c it j) (tsH f (Z5 ((S.take j).filter (Ve c it f.at')))) [])-> ∃j: { k:Nat // k<=S.length },S.length-j.1<S.length-k/\Gh s' (mkSt 96 (tsL S c it j.1) (tsH f (Z5 ((S.take j.1).filter (Ve c it f.at')))) []):=λs' j hj hj2 hg=>⟨⟨j,hj2⟩,by show S.length-j<S.length-k;omega,hg⟩
 generalize hx:S.getD k Jd=x at *;by_cases ho:Ve c it f.at' x=true/\(x.kind==4&&x.has)=true
 ·obtain⟨ho,ho2⟩:=ho;rw[ho,if_pos rfl]at hsn;rw[<-hsn,ho2,if_pos rfl]at hts;have hW2:Zl2 (Z5 ((S.take (k+1)).filter (Ve c it f.at'))) f.df= [x.text]:=by rw[hts,ZjU]
  simp only[Ve,Jm,decide_eq_true_eq]at ho ho2;obtain⟨k1,k2,k3⟩:=ho;obtain⟨q1,q2⟩:=ho2;rcases ef23 with ⟨ef2,ef3⟩|⟨ef2,ef3⟩
  all_goals
   simp only[go_sem,tsL,tsH,Zq,h,Zl hka,hx,opv,i1,k1,k2,Zr,k3,ef1,ef2,ef3,ef4,q1,q2,w1,hr0];refine hgo _ (k+1) rfl (by omega) ((Gh.plainB (b:=9) (j:=4) (d:=93) (es:= [.str x.text]) rfl rfl (by show 4<5;omega) rfl).trans (Jz (Jv ?_) (Js (ZhB _ _ _ _ _ _))));unfold tsH;rw[hW2];exact⟨rfl,(Fc7 rfl rfl rfl rfl rfl rfl rfl),Fc3 ⟨rfl,rfl⟩ ⟨rfl,rfl⟩ ⟨rfl,rfl⟩,fnl⟩
 have hts':Z5 ((S.take (k+1)).filter (Ve c it f.at'))=Z5 ((S.take k).filter (Ve c it f.at')):=by
  by_cases ho1:Ve c it f.at' x=true;rw[ho1,if_pos rfl]at hsn;rw[<-hsn,if_neg (λh2=>ho ⟨ho1,h2⟩),Jf]at hts;exact hts;rw[if_neg ho1,Jf]at hsn;rw[hsn]
 have key:∀b1 b2 b3 b4 b5,(x.cart==c)=b1->(x.item==it)=b2->decide (x.at'=f.at')=b3->(x.kind==4)=b4->x.has=b5-> ¬((b1&&(b2&&b3))=true/\(b4&&b5)=true):=λb1 b2 b3 b4 b5 h1 h2 h3 h4 h5=>by
  subst h1 h2 h3 h4 h5;exact ho
 have hstay:=λs' (hs':Has 96 (tsL S c it (k+1)) (tsH f (Z5 ((S.take k).filter (Ve c it f.at')))) [] s')=>hgo s' (k+1) rfl (by omega) (Jz (Jv (by rw[hts'];exact hs')) (Js (ZhB _ _ _ _ _ _)))
 clear hgo hts hsn hts';generalize Z5 ((S.take k).filter (Ve c it f.at'))=W at *;cases k1:(x.cart==c);simp only[go_sem,tsL,tsH,Zq,h,Zl hka,hx,opv,i1,k1,w1];exact hstay _ ⟨rfl,(Fc7 rfl rfl rfl rfl rfl rfl rfl),Fc3 ⟨rfl,rfl⟩ ⟨rfl,rfl⟩ ⟨rfl,rfl⟩,fnl⟩;cases k2:(x.item==it);simp only[go_sem,tsL,tsH,Zq,h,Zl hka,hx,opv,i1,k1,k2,w1];exact hstay _ ⟨rfl,(Fc7 rfl rfl rfl rfl rfl rfl rfl),Fc3 ⟨rfl,rfl⟩ ⟨rfl,rfl⟩ ⟨rfl,rfl⟩,fnl⟩;by_cases k3:x.at'=f.at';cases q1:(x.kind==4)
 ·rcases ef23 with ⟨ef2,ef3⟩|⟨ef2,ef3⟩
  all_goals
   simp only[go_sem,tsL,tsH,Zq,h,Zl hka,hx,opv,i1,k1,k2,Zr,k3,ef1,ef2,ef3,ef4,q1,w1];exact hstay _ ⟨rfl,(Fc7 rfl rfl rfl rfl rfl rfl rfl),Fc3 ⟨rfl,rfl⟩ ⟨rfl,rfl⟩ ⟨rfl,rfl⟩,fnl⟩
 cases q2:x.has
 ·rcases ef23 with ⟨ef2,ef3⟩|⟨ef2,ef3⟩
  all_goals
   simp only[go_sem,tsL,tsH,Zq,h,Zl hka,hx,opv,i1,k1,k2,Zr,k3,ef1,ef2,ef3,ef4,q1,q2,w1];exact hstay _ ⟨rfl,(Fc7 rfl rfl rfl rfl rfl rfl rfl),Fc3 ⟨rfl,rfl⟩ ⟨rfl,rfl⟩ ⟨rfl,rfl⟩,fnl⟩
 exact absurd ⟨rfl,rfl⟩ (key true true true true true k1 k2 (by simpa using k3) q1 q2);simp only[go_sem,tsL,tsH,Zq,h,Zl hka,hx,opv,i1,k1,k2,Zr,k3,w1];exact hstay _ ⟨rfl,(Fc7 rfl rfl rfl rfl rfl rfl rfl),Fc3 ⟨rfl,rfl⟩ ⟨rfl,rfl⟩ ⟨rfl,rfl⟩,fnl⟩;have htk:S.take k=S:=Je (by omega);rw[htk];simp only[go_sem,tsL,tsH,Zq,h,ent]
theorem ZcP (f:Fd) (S:List Opn) (c it:Str) (hl:S.length<=1000) (hk:f.kind=1\/f.kind=2\/f.kind=3\/f.kind=4) (hSm:f.kind=1->Sm (S.filter (Ve c it f.at'))):Pp 97 [fld f,Zq S,.str c,.str it] (ent (ZdU f (S.filter (Ve c it f.at')))):=by
 have hTl:(S.filter (Ve c it f.at')).length<=1000:=Jt (Ji _ _) hl;rcases hk with k1|k2|k3|k4;have hE:=Zeb f S c it hl k1 (hSm k1);unfold ZdU;rw[if_pos k1,Zru (hSm k1) hTl,show(YK f).l= []by simp[YK,k1]];exact hE;have hE:=DE f S c it hl (.inl k2);unfold ZdU;rw[if_neg (by omega),if_neg (by omega),show(YK f).l= [f.df]by simp[YK,k2]];exact hE;have hE:=DE f S c it hl (.inr k3);unfold ZdU;rw[if_neg (by omega),if_neg (by omega),show(YK f).l= [f.df]by simp[YK,k3]];exact hE;have hE:=Zea f S c it hl k4;unfold ZdU;rw[if_neg (by omega),if_pos k4];exact hE
theorem FB (F:List Fd) (S:List Opn) (c it:Str) (E:Fd->En) (hF:F.length<=100000) (hE:∀f∈F,Pp 97 [fld f,Zq S,.str c,.str it] (ent (E f))):Pp 48 [Zi F,Zq S,.str c,.str it] (YG (F.map E)):=by
 have hm:F.length<=maxLen:=by rw[Zb];omega
 refine ZA func48 rfl ntmps48 results48 (Tt _) ?_;simp only[go_sem,Zi,Zq];refine ZL 9 11 28 0 5 65 [] rfl rfl rfl ?_;refine Zt (ι:= { x:Nat // x<=(F).length }) 30 (λx=> [(0,Zi F),(1,Zq S),(2,.str c),(3,.str it),(9,.sl (.row 28) (((F.take x.1).map E).map ent)),(10,.int .i64 (x.1:Int))]) (λx=> []) (λx=> [(28,.live ((F.take x.1).length) (5) (65))]) (λx=>(F).length-x.1) ⟨0,Jc _⟩ ⟨rfl,(Fc6 rfl rfl rfl rfl rfl rfl),fnl,(fcs rfl fnl)⟩ (λx=>⟨(Fc6 rfl rfl rfl rfl (by simp[Jw,ZG]) rfl),fnl⟩) (λx=> ?_);obtain⟨k,hk⟩:=x;simp only at hk ⊢;by_cases h:(k:Int)<(F.length:Int)
 (have hka:k<(F).length:=by omega);(have w1:=Xb hka (hm));(have i1:=Ja k)
 have hV:=hE (F.getD k Jd) (Zs (d:=Jd) hka);have hml:(((F.take k).map E).map ent).length=(F.take k).length:=by simp
 have hkl:(F.take k).length<=k:=Jk _ _;have hrm:=Yb (show(F.take k).length+1<=1000000 by omega) (show 72<=1000 by omega);have htl:(F.take (k+1)).length=(F.take k).length+1:=by simp;omega
 have hsz:Sized 5 (((F.take k).map E).map ent):=TO _;have hsn:(F.take (k+1)).map E=(F.take k).map E++ [E (F.getD k Jd)]:=by rw[ZW (d:=Jd) hka,Jb];rfl
 generalize hx:F.getD k Jd=x at *;generalize hv:E x=v at *;simp only[go_sem,Zi,Zq,h,Zx hka,hx,fld,i1];refine vc7 hV ?_;simp only[go_sem,ent,TO,Zke,Zju,hml,hrm,w1];exact⟨⟨k+1,by omega⟩,nx9 (by omega),⟨rfl,by simp only;rw[hsn,Jb];exact(Fc6 rfl rfl rfl rfl rfl rfl),fnl,by simp only;rw[htl];exact fcs rfl fnl⟩⟩;have htk:F.take k=F:=Je (by omega);simp only[go_sem,Zi,h,htk,YG]
open Go.PL Go.PL.Srt
theorem Zei (m:List Eg) (l:List Opn) (cart:Str) (b:Tg) (hm:OkM m) (hr:RightM m) (hl:l.length<=400) (ho:∀o∈l,OkOp o) (hU:(l.map Opn.id).Nodup) (hn:Ym cart=true) (hc:(Ys (Zd m) b).2=0):
  Pp 17 [egs m,Zq l,.str cart,tg b] (D0 (⟨Ux (Ys (Zd m) b).1 (YW m (YI (Wp m l) cart) b) 0 [],(XO (Wp m l) cart).map λi=>⟨i,Ux (Ys (Zd m) b).1 (YW m (YI (Wp m l) cart) b) 1 i⟩⟩,0)):=by
 have hN:=Xo cart;rw[hn]at hN;have hS:=WZ m b hm;have hA:=Zgj m l hm (by omega) ho hU;have hll:=Sd m l;have hrd:∀o∈Wp m l,Vi m o=true:=λo h=>Zl5 h
 have hT:=Zgv m (Wp m l) b hm hr (by omega);have hsl:=UE m (Wp m l) b;have hI:=ZcS (Wp m l) cart (by omega);rw[ZlW]at hI;have hil:=Zae (Wp m l) cart;have hrl:=ZfF hr (show upC m b=0 from hc);have hF:=(DR hm (a:=b) hc).n;have hSm:∀o∈YW m (YI (Wp m l) cart) b,FitW (Ys (Zd m) b).1 o:=by
  have e2:YW m (YI (Wp m l) cart) b=(YI (Wp m l) cart).filterMap (ZnV m b):=GK (show upC m b=0 from hc) (λo h=>hrd o (Jh.1 h).1);rw[e2];exact Zps hm hr hc λo h=>hrd o (Jh.1 h).1
 have hot:=λit r=>Zmy (show upC m b=0 from hc) cart it r hrd
 have hE:∀sc it,Pp 48 [Zi (Z8 (Ys (Zd m) b).1 sc),Zq (YW m (Wp m l) b),.str cart,.str it] (YG (Ux (Ys (Zd m) b).1 (YW m (YI (Wp m l) cart) b) sc it)):=λsc it=>by
  unfold Ux;refine FB _ _ cart it _ (Jt (Ji _ _) (by omega)) λf hf=> ?_
  have hfm:=(Zo7 hf).1;have:=ZcP f (YW m (Wp m l) b) cart it (by omega) (ZaG ((Ya.1 hrl).2.2 f hfm)) (λk1=>by rw[hot];exact ZpG hrl hSm hfm k1);rwa[hot]at this
 have hsc:∀sc,Pp 49 [Zi (Ys (Zd m) b).1,.int .i64 sc] (Zi (Z8 (Ys (Zd m) b).1 sc)):=λsc=>Zgt _ sc (by omega)
 have c1:¬(400:Int)<(l.length:Int):=by omega
 have c2:((Ys (Zd m) b).2 !=0)=false:=by simp[hc]
 clear hrl hSm hot hrd;generalize hrws:(XO (Wp m l) cart).map (λi=>(⟨i,Ux (Ys (Zd m) b).1 (YW m (YI (Wp m l) cart) b) 1 i⟩:Rw))=rws;have hrl:rws.length=(XO (Wp m l) cart).length:=by rw[<-hrws,Jq]
 have hrd:∀k,k<rws.length->rws.getD k Jd=⟨(XO (Wp m l) cart).getD k [],Ux (Ys (Zd m) b).1 (YW m (YI (Wp m l) cart) b) 1 ((XO (Wp m l) cart).getD k [])⟩:=λk hk=>by
  rw[getD_lt hk,getD_lt (show k<(XO (Wp m l) cart).length by omega)];subst hrws;rw[List.getElem_map]
 clear hrws;generalize XO (Wp m l) cart=its at *;generalize Wp m l=A at *;generalize YW m (YI A cart) b=T at *;generalize YW m A b=seen at *;generalize Ys (Zd m) b=X at *;obtain⟨F,xc⟩:=X;simp only at hc hF hsc hE hrd c2 ⊢;subst hc;generalize hhd:Ux F T 0 []=hd at *;have hE0:=hE 0 [];rw[hhd]at hE0;refine ZA func17 rfl ntmps17 results17 (Wk _) ?_;simp only[go_sem,egs,Zq,tg,c1];refine vc1 hN ?_;simp only[go_sem];refine vc3 hS ?_;simp only[go_sem,ZM,Zi,c2];refine vc7 hA ?_;simp only[go_sem,Zq];refine vc7 hT ?_;simp only[go_sem,Zq];refine vc2 (hsc 0) ?_;simp only[go_sem,Zi];refine vc7 hE0 ?_;simp only[go_sem,YG];refine vc7 hI ?_;simp only[go_sem,Yq];refine Zt (ι:= { k:Nat // k<=rws.length }) 77 (λx=> [(2,.str cart),(8,.ptr 8 0),(10,Zi F),(13,Zq seen),(14,.ptr 14 0),(15,Yq its),(16,.int .i64 (x.1:Int))]) (λx=> [(8,[.sl .nil [],.sl .nil []],false),(14,[.sl .no (hd.map ent),ZkE 74 rws x.1],false)]) (λx=>ZkF 74 x.1) (λx=>rws.length-x.1) ⟨0,Jc _⟩
  ⟨rfl,(Fc7 rfl rfl rfl rfl rfl rfl rfl),Fc2 ⟨rfl,rfl⟩ ⟨rfl,rfl⟩,fnl⟩ (λx=> ?_) (λx=> ?_)
 obtain⟨k,hk⟩:=x;cases k with
 |zero=>exact⟨(Fc7 rfl rfl rfl rfl rfl rfl rfl),Fc2 rfl rfl⟩
 |succ k=>exact⟨(Fc7 rfl rfl rfl rfl rfl rfl rfl),Fc2 rfl (by simp[ZkE,ZkF,Jw,PV.idsL,ZG])⟩
 obtain⟨k,hk⟩:=x;simp only;by_cases h:(k:Int)<(its.length:Int);have hka:k<rws.length:=by omega
 have hki:k<its.length:=by omega
 have w1:=wk9 (k:=k) (by omega)
 have i1:=Ja k
 have hO:=hE 1 (its.getD k []);have hrk:=hrd k hka;have hsn:(rws.take (k+1)).map row=(rws.take k).map row++ [row (rws.getD k Jd)]:=by rw[ZW (d:=Jd) hka,Jb];rfl
 rw[hrk]at hsn;have hsz:=Wx (rws.take k);have hr0:=Yb (show 1<=1000000 by omega) (show 40<=1000 by omega);have hln:((rws.take k).map row).length=k:=by simp;omega
 generalize Ux F T 1 (its.getD k [])=es at *;cases k with
 |zero=>
  have h':(0:Int)<(its.length:Int):=by simpa using h
  have g0:=ZV hki;simp only[go_sem,ZkE,ZkF,Yq,h',g0,i1,hki];refine vDq ?_;simp only[go_sem,Yq,h',g0,i1,hki];refine vc2 (hsc 1) ?_;simp only[go_sem,Yq,h',g0,i1,hki];refine vc7 hO ?_;have w0:IntKind.i64.wrap 1=1:=w64 (by omega);simp only[go_sem,YG,w1,w0];refine⟨hr0,⟨⟨0+1,by omega⟩,nx9 (by omega),⟨rfl,(Fc7 rfl rfl rfl rfl rfl rfl rfl),Fc2 ⟨rfl,rfl⟩ ⟨?_,rfl⟩,fcs rfl fnl⟩⟩⟩;show some [Jr .no _,Jr (.row 74) _]=some [Jr .no _,Jr (.row 74) _];rw[hsn];rfl
 |succ k=>
  have hl3:(rws.take (k+1)).length=k+1:=by rw[Jn];omega
  have hr:=Yb (show k+1+1<=1000000 by omega) (show 40<=1000 by omega);simp only[go_sem,ZkE,ZkF,Yq,h,ZV hki,i1];refine vDq ?_;simp only[go_sem,Yq,h,ZV hki,i1];refine vc2 (hsc 1) ?_;simp only[go_sem,Yq,h,ZV hki,i1];refine vc7 hO ?_;simp only[go_sem,YG,w1];refine⟨⟨hl3.symm,Wx _,by rw[hl3];exact hr⟩,⟨⟨k+1+1,by omega⟩,by show rws.length-(k+1+1)<rws.length-(k+1);omega,⟨rfl,(Fc7 rfl rfl rfl rfl rfl rfl rfl),Fc2 ⟨rfl,rfl⟩ ⟨?_,rfl⟩,fcs ?_ fnl⟩⟩⟩
  ·show some [Jr .no _,Jr (.row 74) _]=some [Jr .no _,Jr (.row 74) _];rw[hsn];rfl
  ·show some _=some _;rw[hl3]
 obtain rfl:k=rws.length:=by omega
 cases rws with
 |nil=>
  have h':¬(0:Int)<(its.length:Int):=h;simp only[go_sem,ZkE,ZkF,Yq,h'];rfl
 |cons r rs=>
  have ht:(r::rs).take (rs.length+1)=r::rs:=Jo (l:=r::rs);have h':¬((rs.length+1:Nat):Int)<(its.length:Int):=h;simp only[go_sem,ZkE,ZkF,Yq,h',ht];try rw[Jo]
  try rfl
theorem Zej (m:List Eg) (l:List Opn) (cart:Str) (b:Tg) (hm:OkM m) (hr:RightM m) (ho:∀o∈l,OkOp o) (hU:(l.map Opn.id).Nodup) (hl:l.length<=maxLen):
  Pp 17 [egs m,Zq l,.str cart,tg b] (D0 (YA m l cart b)):=by
 unfold YA;by_cases h1:400<(l.length:Int);rw[if_pos h1];refine ZA func17 rfl ntmps17 results17 (Wk _) ?_;simp only[go_sem,egs,Zq,tg,h1];simp only[D0,T6];rw[if_neg h1];have hN:=Xo cart;cases h2:Ym cart;rw[h2]at hN;rw[if_pos rfl];refine ZA func17 rfl ntmps17 results17 (Wk _) ?_;simp only[go_sem,egs,Zq,tg,h1];refine vc1 hN ?_;simp only[go_sem];simp only[D0,T6];rw[if_neg (by simp)];by_cases h3:(Ys (Zd m) b).2=0;rw[if_neg (by simpa using h3),ZjR];exact Zei m l cart b hm hr (by omega) ho hU h2 h3;rw[if_pos h3];rw[h2]at hN;have hS:=WZ m b hm;have e3:((Ys (Zd m) b).2 !=0)=true:=by simpa using h3
 generalize Ys (Zd m) b=X at *;obtain⟨F,xc⟩:=X;simp only at h3 e3 ⊢;refine ZA func17 rfl ntmps17 results17 (Wk _) ?_;simp only[go_sem,egs,Zq,tg,h1];refine vc1 hN ?_;simp only[go_sem];refine vc3 hS ?_;simp only[go_sem,ZM,Zi,e3];simp only[D0,T6]
open Go.PL Go.PL.Srt
theorem Zi5 (m:List Eg) (l:List Opn) (v:List Int) (cart:Str) (b:Tg) (hm:OkM m) (hr:RightM m) (hl:l.length<=100000) (hv:v.length=6) (ho:∀o∈l,OkOp o) (hU:(l.map Opn.id).Nodup):
  Pp 16 [tr (Zd m),Zq l,VB v,.str cart,tg b] (D0 (YA m (atM v l) cart b)):=by
 have hT:=ZbB l v hl hv;have hV:=Um m (atM v l) cart b hm hr (λo h=>ho o ((G9 v l).mem h)) (Jy.sublist ((G9 v l).map _) hU);generalize YA m (atM v l) cart b=Y at *;generalize atM v l=A at *;obtain⟨⟨hd,rws⟩,c⟩:=Y;refine ZA func16 rfl ntmps16 results16 (Wk _) ?_;simp only[go_sem,tr,Zq,VB,tg,hv,ZP hv];refine Zf1 [(7,10),(9,10)] (by kernel_rfl) (by kernel_rfl) (by exact rfl) ?_;simp only[go_sem,hv,ZP hv];refine vc9 hT ?_;simp only[go_sem,Zq];refine vc7 hV ?_;simp only[go_sem,D0,doc]
theorem PastVectors_pure (l:List Eg) (ops:List Opn) (v:List Int) (cart:Str) (b:Tg) (hl:l.length<=maxLen) (hx:∀e∈l,LenLn e.ln) (hol:ops.length<=maxLen) (hv:v.length=6):Pp 4 [egs l,Zq ops,VB v,.str cart,tg b] (.bool true):=by
 have hH:=Zec l 50 hl hx;have hJ:=Za5 ops 30 hol;have hA:=Zgl ops hol;cases hh:Zaa l 50;rw[hh]at hH;cases hj:UY ops 30;rw[hj]at hJ;cases ha:apartB ops;rw[ha]at hA;refine ZH func4 rfl ntmps4 results4 ?_;simp only[go_sem,egs,Zq,VB,tg,hv,ZP hv];refine vc1 V1 ?_;simp only[go_sem];refine vc3 hH ?_;simp only[go_sem];refine vc7 hJ ?_;simp only[go_sem];refine vc7 hA ?_;simp only[go_sem];rw[ha]at hA;have hU:(ops.map Opn.id).Nodup:=of_decide_eq_true ha;obtain⟨o1,o2⟩:=okL hh;obtain⟨p1,p2⟩:=Zvh (most:=30) hj;have hG:=Zi2 l (by omega) o2;have hm:OkM (VL l):=Zhe _ SR o2;have hr:RightM (VL l):=Zco _ ZaH;generalize VL l=m at *;have hs:=G9 v ops;have hsl:=hs.length_le;have hso:∀o∈atM v ops,OkOp o:=λo h=>p2 o (hs.mem h)
 have hsU:((atM v ops).map Opn.id).Nodup:=Jy.sublist (hs.map _) hU;have hsm:(atM v ops).length<=maxLen:=by rw[Zb];omega
 have hR1:=Zi9 ops v (by omega) hv;have hV:=Zi5 m ops v cart b hm hr (by omega) hv p2 hU;have hW:=Zej m (atM v ops) cart b hm hr hso hsU hsm;have hP:=Zgi ops v (by omega) hv p2;have hC:=Zgc ops v (by omega) hv p2;have hD:=Zd9 ops v (by omega) hv p2;rw[Zlm v ops hv]at hC;have hSO:=ZcT (atM v ops) (atM v ops) hsm hsm hso hso;rw[decide_eq_true rfl]at hSO;have hfi:ZnP (YA m (atM v ops) cart b).1:=Znz hm;have hS:=Zgs _ _ hfi hfi;rw[decide_eq_true rfl]at hS;generalize YA m (atM v ops) cart b=Y at *;generalize Vf v ops=cl at *;have hcl:(cl==cl)=true:=by simp
 generalize atM v ops=A at *;obtain⟨⟨hd,rws⟩,c⟩:=Y;have hcc:(c==c)=true:=by simp
 refine ZH func4 rfl ntmps4 results4 ?_;simp only[go_sem,egs,Zq,VB,tg,hv,ZP hv];refine vc1 V1 ?_;simp only[go_sem];refine vc3 hH ?_;simp only[go_sem];refine vc7 hJ ?_;simp only[go_sem];refine vc7 hA ?_;simp only[go_sem];refine vc3 hG ?_;simp only[go_sem,grv,hv,ZP hv];refine vc9 hR1 ?_;simp only[go_sem,Zq,hv,ZP hv];refine vc9 hV ?_;simp only[go_sem,D0,doc];refine vc7 hW ?_;simp only[go_sem,D0,doc];refine vDq ?_;simp only[go_sem,hv,ZP hv];refine vc9 hP ?_;simp only[go_sem,Zq];refine vc7 hSO ?_;simp only[go_sem,hv,ZP hv];refine vc9 hC ?_;simp only[go_sem,hv,ZP hv];refine vc9 hD ?_;simp only[go_sem,hcl,hcc];refine vc1 hS ?_;simp only[go_sem];rw[hj]at hJ;refine ZH func4 rfl ntmps4 results4 ?_;simp only[go_sem,egs,Zq,VB,tg,hv,ZP hv];refine vc1 V1 ?_;simp only[go_sem];refine vc3 hH ?_;simp only[go_sem];refine vc7 hJ ?_;simp only[go_sem];rw[hh]at hH;refine ZH func4 rfl ntmps4 results4 ?_;simp only[go_sem,egs,Zq,VB,tg,hv,ZP hv];refine vc1 V1 ?_;simp only[go_sem];refine vc3 hH ?_;simp only[go_sem]
end Go.Proofs.YtadgngamdofhiaaGreat
