/- Lemmas of the proof. -/
import Derived.Test.YtadgngamdofhiaaGreatPlH
import Derived.Test.YtadgngamdofhiaaGreatXAa
import Derived.Test.YtadgngamdofhiaaGreatXAo
import Derived.Test.YtadgngamdofhiaaGreatXBc
import Derived.Test.YtadgngamdofhiaaGreatXBr
import Derived.Test.YtadgngamdofhiaaGreatXEa
open Inhabited renaming default→Jd
open Go.Proofs.Tryz
open Go Go.PL
open Bool renaming true_eq_false→Ja
open Decidable renaming byContradiction→Jq
open Int renaming natCast_nonneg→Jb,mul_le_mul_of_nonneg_right→Jc
open List renaming map_append→Ji,pairwise_iff_getElem→Jj,drop_length→Jk,take_append_drop→Jl,append_nil→Jo,mem_append→Jp
open Nat renaming zero_le→Je
open Option renaming isSome_some→Jf,isSome_none→Jg,getD_some→Jh,getD_none→Jn
open PV renaming sl→Jm,int→Jr,ids→Js
namespace Go.Proofs.YtadgngamdofhiaaGreat
set_option maxHeartbeats 64000000
set_option maxRecDepth 20000
set_option linter.unusedVariables false
set_option linter.unusedSimpArgs false
open Go.PL
structure WyS (m:List Eg) (id0:Tg) where
 k:Nat
 id:Tg
 way:List Eg
 hk:k<=m.length+1
 hl:way.length=k
 h:Zo4 m (m.length+1-k) id way=ZeT m id0
def ZoO (x:Option (List Eg)):PV:= .tup [egs (x.getD []),.bool x.isSome]
theorem ZoP (x:Option (List Eg)):(ZoO x).dids= []:=by simp only[ZoO,PV.dids,PV.didsL,Zd2,Jo]
theorem Ze9 (m:List Eg) (id:Tg) (hm:OkM m):Pp 126 [egs m,tg id] (ZoO (ZeT m id)):=by
 have hn:=hm.n;refine Zx func126 rfl ntmps126 results126 (ZoP _) ?_;simp only[go_sem,egs,tg];refine ZgL (ι:=WyS m id) 37 (λx=> [(0,egs m),(3,.ptr 3 0),(6,egs x.way),(7,.int .i64 (x.k:Int))]) (λx=> [(3,[.int .i64 x.id.r,.int .i64 x.id.n],false)]) (λx=> []) (λx=>m.length+1-x.k) ⟨0,id,[],Je _,rfl,rfl⟩
  ⟨rfl,Fc4 (.same rfl) (.same rfl) (.row 9 []) (.same rfl),fcs ⟨rfl,rfl⟩ fnl,fnl⟩ (λx=>⟨Fc4 rfl rfl rfl rfl,(fcs rfl fnl)⟩) (λx=> ?_)
 obtain⟨k,id',way,hk,hl,h⟩:=x;simp only;by_cases hlt:(k:Int)<=(m.length:Int);have hk2:m.length+1-k=(m.length-k)+1:=by omega
 rw[hk2,Zo4]at h;by_cases hd:id'=Jd;have hb:decide (id'=Jd)=true:=by simpa using hd
 rw[if_pos hd]at h;simp only[go_sem,egs,hlt,tgd,hb];simp only[go_sem,<-h,ZoO,egs,Jh,Jf];have hb:decide (id'=Jd)=false:=by simpa using hd
 rw[if_neg hd]at h;have hA:=GB m id' (by rw[Zb];omega);rcases GY (m:=m) (id:=id')with ⟨h1,h2⟩|⟨i,hi,h1,h2⟩;rw[h1]at hA;rw[h2]at h;simp only[go_sem,egs,hlt,tgd,hb];refine vc3 hA ?_;simp only[go_sem,<-h,ZoO,egs,Jn,Jg];rw[h1]at hA;rw[h2]at h;simp only at h;have n1:¬(i:Int)<0:=by omega
 have i0:=Jb i
 have i1:(i:Int)<(m.length:Int):=by omega
 have w1:=wk9 (k:=k) (by omega)
 have hrm:=Ya (show 1+way.length<=1000000 by omega) (show 264<=1000 by omega);have hsz:Sized 20 (way.map eg):=ZeB way;have hat:=ZiJ way;have hs1:Sized 20 [eg (m.getD i Jd)]:=ZeB [m.getD i Jd];simp only[go_sem,egs,hlt,tgd,hb];refine vc3 hA ?_;simp only[go_sem,n1,i0,i1,XW hi,eg,w1,hat,hrm,hsz];exact⟨⟨k+1,(m.getD i Jd).par,m.getD i Jd::way,by omega,by simp[hl],by rw[show m.length+1-(k+1)=m.length-k by omega];exact h⟩,by show m.length+1-(k+1)<m.length+1-k;omega,
  ⟨rfl,Fc4 (.same rfl) (.same rfl) (.row 31 _) (.same rfl),fcs ⟨rfl,rfl⟩ fnl,fnl⟩⟩
 have hk2:m.length+1-k=0:=by omega
 rw[hk2,Zo4]at h;simp only[go_sem,egs,hlt,<-h,ZoO,Jn,Jg]
def stc (x:Int×List Fd):PV:= .tup [.int .i64 x.1,Zh x.2]
theorem Do (x:Int×List Fd):(stc x).dids= []:=by simp only[stc,PV.dids,PV.didsL,Vp,Jo]
theorem Zhc (m:List Eg) (id:Tg) (hm:OkM m):Pp 82 [egs m,tg id] (stc (ZbM m id)):=by
 have hn:=hm.n;have hA:=GB m id (by rw[Zb];omega);have hW:=Ze9 m id hm;unfold ZbM;by_cases h0:id≠Jd/\XC m id=none;rw[if_pos h0];have hb:decide (id=Jd)=false:=by simpa using h0.1
 rcases GY (m:=m) (id:=id)with ⟨h1,h2⟩|⟨i,hi,h1,h2⟩;rw[h1]at hA;refine Zx func82 rfl ntmps82 results82 (Do _) ?_;simp only[go_sem,egs,tg,tgd,hb];refine vc3 hA ?_;simp only[go_sem,stc,Zh];rw[h2]at h0;cases h0.2;rw[if_neg h0];have pre:(decide (id=Jd)=true)\/(decide (id=Jd)=false/\ ∃i:Nat,idx (λx=>decide (x.id=id)) m=(i:Int)):=by
  by_cases hd:id=Jd;exact .inl (by simpa using hd);right;refine⟨by simpa using hd,?_⟩;rcases GY (m:=m) (id:=id)with ⟨_,h2⟩|⟨i,hi,h1,h2⟩;exact absurd ⟨hd,h2⟩ h0;exact⟨i,h1⟩
 cases hw:ZeT m id with
 |none=>
  rw[hw]at hW;rcases pre with hb|⟨hb,i,h1⟩;refine Zx func82 rfl ntmps82 results82 (Do _) ?_;simp only[go_sem,egs,tg,tgd,hb];refine vc3 hW ?_;simp only[go_sem,ZoO,Jg,stc,Zh];rw[h1]at hA;have n1:¬(i:Int)<0:=by omega
  refine Zx func82 rfl ntmps82 results82 (Do _) ?_;simp only[go_sem,egs,tg,tgd,hb];refine vc3 hA ?_;simp only[go_sem,n1];refine vc3 hW ?_;simp only[go_sem,ZoO,Jg,stc,Zh]
 |some w=>
  rw[hw]at hW;have hway:=XU.1 hw;have hwl:w.length<=maxLen:=by have:=hway.len;rw[Zb];omega
  simp only;generalize hF:Xr w Tx=F;rcases pre with hb|⟨hb,i,h1⟩;refine Zx func82 rfl ntmps82 results82 (Do _) ?_;simp only[go_sem,egs,tg,tgd,hb];refine vc3 hW ?_;simp only[go_sem,ZoO,Jf,Jh];refine vc1 Zfa ?_;simp only[go_sem,Zh];refine Zs (ι:= { x:Nat×(List Fd) // x.1<=(w).length/\(OkFs x.2/\Xr (w.drop x.1) x.2=F) }) 50 (λx=> [(6,egs w),(8,Zh x.1.2),(9,.int .i64 (x.1.1:Int))]) (λx=> []) (λx=> []) (λx=>(w).length-x.1.1) ⟨(0,Tx),Je _,⟨Zgb,hF⟩⟩ ⟨rfl,(Fc3 rfl rfl rfl),fnl,fnl⟩ (λx=>⟨(Fc3 rfl rfl rfl),fnl⟩) (λx=> ?_);obtain⟨⟨k,fs⟩,hk,hI⟩:=x;simp only at hk hI ⊢;obtain⟨okf,hI⟩:=hI;by_cases h:(k:Int)<(w.length:Int)
  (have hka:k<(w).length:=by omega);(have w1:=Xi hka (hwl));(have i1:=Jb k)
  have hA:=Zaw fs (w.getD k Jd).ln okf (hm.l _ (hway.mem _ (Ze hka)));rw[Xa hka (d:=Jd),ZcX]at hI;by_cases hz:(ZR fs (w.getD k Jd).ln).2=0
  ·rw[if_pos hz]at hI;simp only[go_sem,egs,h,XW hka,eg,i1];refine vc3 hA ?_;simp only[go_sem,ZP,hz,w1];exact⟨⟨(k+1,(ZR fs (w.getD k Jd).ln).1),by(try simp only);omega,⟨ZhW okf (hm.l _ (hway.mem _ (Ze hka))),hI⟩⟩,by show(w).length-(k+1)<(w).length-k;omega,⟨rfl,(Fc3 rfl rfl rfl),fnl,fnl⟩⟩
  rw[if_neg hz]at hI;have hz':((ZR fs (w.getD k Jd).ln).2 !=0)=true:=by simpa using hz
  simp only[go_sem,egs,h,XW hka,eg,i1];refine vc3 hA ?_;simp only[go_sem,ZP,hz',<-hI,stc,Zh];obtain rfl:k=w.length:=by omega
  rw[Jk]at hI;have hI':F=some fs:=hI.symm;subst hI';simp only[go_sem,egs,h,stc,Zh];rw[h1]at hA;have n1:¬(i:Int)<0:=by omega
  refine Zx func82 rfl ntmps82 results82 (Do _) ?_;simp only[go_sem,egs,tg,tgd,hb];refine vc3 hA ?_;simp only[go_sem,n1];refine vc3 hW ?_;simp only[go_sem,ZoO,Jf,Jh];refine vc1 Zfa ?_;simp only[go_sem,Zh];refine Zs (ι:= { x:Nat×(List Fd) // x.1<=(w).length/\(OkFs x.2/\Xr (w.drop x.1) x.2=F) }) 50 (λx=> [(6,egs w),(8,Zh x.1.2),(9,.int .i64 (x.1.1:Int))]) (λx=> []) (λx=> []) (λx=>(w).length-x.1.1) ⟨(0,Tx),Je _,⟨Zgb,hF⟩⟩ ⟨rfl,(Fc3 rfl rfl rfl),fnl,fnl⟩ (λx=>⟨(Fc3 rfl rfl rfl),fnl⟩) (λx=> ?_);obtain⟨⟨k,fs⟩,hk,hI⟩:=x;simp only at hk hI ⊢;obtain⟨okf,hI⟩:=hI;by_cases h:(k:Int)<(w.length:Int)
  (have hka:k<(w).length:=by omega);(have w1:=Xi hka (hwl));(have i1:=Jb k)
  have hA:=Zaw fs (w.getD k Jd).ln okf (hm.l _ (hway.mem _ (Ze hka)));rw[Xa hka (d:=Jd),ZcX]at hI;by_cases hz:(ZR fs (w.getD k Jd).ln).2=0
  ·rw[if_pos hz]at hI;simp only[go_sem,egs,h,XW hka,eg,i1];refine vc3 hA ?_;simp only[go_sem,ZP,hz,w1];exact⟨⟨(k+1,(ZR fs (w.getD k Jd).ln).1),by(try simp only);omega,⟨ZhW okf (hm.l _ (hway.mem _ (Ze hka))),hI⟩⟩,by show(w).length-(k+1)<(w).length-k;omega,⟨rfl,(Fc3 rfl rfl rfl),fnl,fnl⟩⟩
  rw[if_neg hz]at hI;have hz':((ZR fs (w.getD k Jd).ln).2 !=0)=true:=by simpa using hz
  simp only[go_sem,egs,h,XW hka,eg,i1];refine vc3 hA ?_;simp only[go_sem,ZP,hz',<-hI,stc,Zh];obtain rfl:k=w.length:=by omega
  rw[Jk]at hI;have hI':F=some fs:=hI.symm;subst hI';simp only[go_sem,egs,h,stc,Zh]
theorem Wn (m:List Eg) (id:Tg) (hm:OkM m):Pp 35 [egs m,tg id] (ZP (Ye (Zd m) id)):=by
 have hS:=Zhc m id hm;rw[ZnY];generalize ZbM m id=y at *;obtain⟨c,l⟩:=y;simp only;by_cases h3:c=3;subst h3;refine Zx func35 rfl ntmps35 results35 (ZN _) ?_;simp only[go_sem,egs,tg];refine vc3 hS ?_;simp only[go_sem,stc,Zh,ZP,if_true];have e3:(c==3)=false:=by simpa using h3
 by_cases h2:c=2;subst h2;refine Zx func35 rfl ntmps35 results35 (ZN _) ?_;simp only[go_sem,egs,tg];refine vc3 hS ?_;simp only[go_sem,stc,Zh,ZP,not_true_eq_false,if_false];have e2:(c !=2)=true:=by simpa using h2
 refine Zx func35 rfl ntmps35 results35 (ZN _) ?_;simp only[go_sem,egs,tg];refine vc3 hS ?_;simp only[go_sem,stc,Zh,ZP,e3,e2,h3,h2,if_true,if_false]
theorem ZqO {w:List Eg} {s:Nat} (h:s<w.length):(w.drop (w.length-(s+1))).reverse.map (·.id)=(w.drop (w.length-s)).reverse.map (·.id)++ [(w.getD (w.length-1-s) Jd).id]:=by
 have e:w.length-(s+1)=w.length-1-s:=by omega
 rw[e,List.drop_eq_getElem_cons (by omega),List.reverse_cons,Ji,show w.length-1-s+1=w.length-s by omega];rw[getD_lt (by omega)];rfl
theorem F5 (m:List Eg) (id:Tg) (hm:OkM m):Pp 243 [egs m,tg id] (Zdx (upM m id)):=by
 have hS:=Wn m id hm;unfold upM;by_cases hc:upC m id=0;obtain⟨hw,_,_⟩:=YT hc;simp only[hc,ne_eq,not_true_eq_false,if_false];have hc':(Ye (Zd m) id).2=0:=hc;have hW:=Ze9 m id hm;rw[XU.2 hw]at hW;generalize WX m id=w at *;have hwl:w.length<=40:=by have:=hw.len;have:=hm.n;omega
 have w0:IntKind.i64.wrap ((w.length:Int)-1)=(w.length:Int)-1:=w64 (by omega);refine Zx func243 rfl ntmps243 results243 (Dq _) ?_;simp only[go_sem,egs,tg];refine vc3 hS ?_;simp only[go_sem,ZP,hc'];refine vc3 hW ?_;simp only[go_sem,ZoO,Jf,Jh,egs,w0];refine ZL 10 27 42 0 2 25 [] rfl rfl rfl ?_;refine Zs (ι:= { s:Nat // s<=w.length }) 47 (λx=> [(8,egs w),(10,.sl (.row 42) (((w.drop (w.length-x.1)).reverse.map (·.id)).map tg)),(11,.int .i64 ((w.length:Int)-1-(x.1:Int)))]) (λx=> []) (λx=> [(42,.live x.1 2 25)]) (λx=>w.length-x.1) ⟨0,Je _⟩
  ⟨rfl,Fc3 rfl (by show Jm _ _=Jm _ _;simp) (by show Jr _ _=Jr _ _;simp),fnl,fcs rfl fnl⟩ (λx=>⟨Fc3 rfl (by simp[Js,ZX]) rfl,fnl⟩) (λx=> ?_)
 obtain⟨s,hs⟩:=x;simp only;have hlen:((w.drop (w.length-s)).reverse.map (·.id)).length=s:=by simp;omega
 have hrm:=Ya (show s+1<=1000000 by omega) (show 16<=1000 by omega);by_cases h:s<w.length;have hge:(0:Int)<=(w.length:Int)-1-(s:Int):=by omega
 have hlt:(w.length:Int)-1-(s:Int)<(w.length:Int):=by omega
 have hto:((w.length:Int)-1-(s:Int)).toNat=w.length-1-s:=by omega
 have hki:w.length-1-s<w.length:=by omega
 have w1:IntKind.i64.wrap ((w.length:Int)-1-(s:Int)-1)=(w.length:Int)-1-((s+1:Nat):Int):=by rw[w64 (by omega)];omega
 have e0:(w.length:Int)-1-(s:Int)=((w.length-1-s:Nat):Int):=by omega
 have hst:=ZqO h;rw[e0]at hge hlt w1 ⊢;simp only[go_sem,egs,hge,hlt,XW hki,eg,hlen,hrm,SQ,w1];refine⟨⟨s+1,by omega⟩,nx9 (by omega),⟨rfl,fcs rfl (fcs ?_ (fcs rfl fnl)),fnl,fcs rfl fnl⟩⟩;show Jm (.row 42) _=Jm (.row 42) _;rw[hst];simp[tg];obtain rfl:s=w.length:=by omega
 have hge:¬(0:Int)<=(w.length:Int)-1-(w.length:Int):=by omega
 have e:(w.drop (w.length-w.length)).reverse.map (·.id)++ [Jd]=upL w:=by simp[upL]
 simp only[go_sem,hge,SQ,hlen,hrm,Zdx,tgs,<-e,Ji,SS];have hc':((Ye (Zd m) id).2 !=0)=true:=by have h:(Ye (Zd m) id).2≠0:=hc;simpa using h
 simp only[ne_eq,hc,not_false_eq_true,if_true];refine Zx func243 rfl ntmps243 results243 (Dq _) ?_;simp only[go_sem,egs,tg];refine vc3 hS ?_;simp only[go_sem,ZP,hc',Zdx,tgs,upC]
open Go.PL
theorem Zxg (p:List Eg) {k:Nat} (hk:k<p.length):(upL p).getD k Jd=(p.getD (p.length-1-k) Jd).id:=by
 have h:=ZbR p (p.length-1-k) (by omega);rwa[show p.length-(p.length-1-k)-1=k by omega]at h
theorem Zu4 {m:List Eg} (ha:Apart m) {a b:Tg} {p q:List Eg} (hp:Way m a p) (hq:Way m b q) {k:Nat} (hk:k<p.length-lcp p q):(upL p).getD k Jd∉upL q:=by
 have ht:p.length-1-k<p.length:=by omega
 have hin:p.getD (p.length-1-k) Jd∈p.drop (lcp p q):=by
  rw[getD_lt ht,List.mem_drop_iff_getElem];exact⟨p.length-1-k-lcp p q,by omega,by congr 1;omega⟩
 have hpm:=hp.mem _ (Ze (d:=Jd) ht);rw[Zxg p (by omega)];intro hm;unfold upL at hm;rcases Jp.1 hm with hm|hm;obtain⟨e2,he2,hid⟩:=List.mem_map.1 hm;have he2:e2∈q:=List.mem_reverse.1 he2;rw[<-Jl (lcp p q) q]at he2;rcases Jp.1 he2 with h2|h2;rw[<-Zej]at h2;have e:e2=p.getD (p.length-1-k) Jd:=ha.inj (hp.mem _ (List.mem_of_mem_take h2)) hpm hid;have hn:=hp.nodup;rw[<-Jl (lcp p q) p]at hn;exact(List.nodup_append.1 hn).2.2 _ h2 _ hin e;exact Zig ha hp hq hin h2 hid.symm;exact ha.n _ hpm (by simpa using hm)
theorem Zni (p q:List Eg):(upL q).getD (q.length-lcp p q) Jd=TL p q:=by
 have:=ZjA q p;rw[Zeh q p]at this;rw[this,Znh]
theorem Zsy (p q:List Eg):TL p q∈upL q:=by
 rw[<-Zni];exact Ze (by rw[Wl];omega)
theorem ZrR {l:List Tg} (hn:l.Nodup) {k:Nat} (hk:k<l.length):Zq9 l (l.getD k Jd)=(k:Int):=by
 unfold Zq9 idx;have h:l.findIdx? (λx=>decide (x=l.getD k Jd))=some k:=by
  rw[List.findIdx?_eq_some_iff_getElem];refine⟨hk,by rw[getD_lt hk];simp,λj hj=> ?_⟩;rw[getD_lt hk];have:=Jj.1 hn j k (by omega) hk hj;simpa using this
 rw[h]
theorem ZpU {m:List Eg} (ha:Apart m) {b:Tg} {p q:List Eg} (hq:Way m b q):Zq9 (upL q) (TL p q)=((q.length-lcp p q:Nat):Int):=by
 have h:=ZrR (ZgG ha hq.mem hq.nodup) (k:=q.length-lcp p q) (by rw[Wl];omega);rwa[Zni]at h
theorem Zj6 (m:List Eg) (a b:Tg) (hm:OkM m):Pp 242 [egs m,tg a,tg b] (tgc (Zr3 m a b)):=by
 have hA:=F5 m a hm;have hB:=F5 m b hm;unfold Zr3 Wx;unfold upM at hA hB;by_cases ca:upC m a=0;rw[if_neg (λh=>h ca)]at hA;by_cases cb:upC m b=0;rw[if_neg (λh=>h cb)]at hB;simp only[ca,cb,ne_eq,not_true_eq_false,if_false];obtain⟨wa,_,_⟩:=YT ca;obtain⟨wb,_,_⟩:=YT cb;have hpl:(WX m a).length<=40:=by have:=wa.len;have:=hm.n;omega
 have hql:(WX m b).length<=40:=by have:=wb.len;have:=hm.n;omega
 generalize WX m a=p at *;generalize WX m b=q at *;have lc:=Zc8 p q;refine Zx func242 rfl ntmps242 results242 (WS _) ?_;simp only[go_sem,egs,tg];refine vc3 hA ?_;simp only[go_sem,Zdx];refine vc3 hB ?_;simp only[go_sem,Zdx];refine Zs (ι:= { k:Nat // k<=p.length-lcp p q }) 51 (λx=> [(6,.ptr 6 0),(8,tgs (upL p)),(10,tgs (upL q)),(12,.int .i64 (x.1:Int))]) (λx=> [(6,[.int .i64 0,.int .i64 0],false)]) (λx=> []) (λx=>p.length-x.1) ⟨0,Je _⟩
  ⟨rfl,(Fc4 rfl rfl rfl rfl),fcs ⟨rfl,rfl⟩ fnl,fnl⟩ (λx=>⟨Fc4 rfl rfl rfl rfl,(fcs rfl fnl)⟩) (λx=> ?_)
 obtain⟨k,hk⟩:=x;simp only;have hkl:k<(upL p).length:=by rw[Wl];omega
 have h1:(k:Int)<((upL p).length:Int):=by omega
 have h0:=Jb k
 have hI:=ZaA (upL q) ((upL p).getD k Jd) (by rw[Wl,Zb];omega);by_cases he:k=p.length-lcp p q;have hv:(upL p).getD k Jd=TL p q:=by rw[he];exact ZjA p q
 rw[hv]at hI;have h2:=ZpT (Zsy p q);simp only[go_sem,tgs,h1,h0,Z7 hkl,hv,tg];refine vc3 hI ?_;simp only[go_sem,h2,h0,h1,Z7 hkl,hv,tg,tgs,tgc];have hnot:=Zu4 hm.a wa wb (k:=k) (by omega);rw[ZrS hnot]at hI;have w1:=wk9 (k:=k) (by omega)
 simp only[go_sem,tgs,h1,h0,Z7 hkl,tg];refine vc3 hI ?_;simp only[go_sem,w1];exact⟨⟨k+1,by omega⟩,nx9 (by omega),⟨rfl,(Fc4 rfl rfl rfl rfl),fcs ⟨rfl,rfl⟩ fnl,fnl⟩⟩;rw[if_pos cb]at hB;have cb':(upC m b !=0)=true:=by simpa using cb
 simp only[ca,cb,ne_eq,not_true_eq_false,not_false_eq_true,if_true,if_false];refine Zx func242 rfl ntmps242 results242 (WS _) ?_;simp only[go_sem,egs,tg];refine vc3 hA ?_;simp only[go_sem,Zdx];refine vc3 hB ?_;simp only[go_sem,Zdx,cb',tgc,SS];rw[if_pos ca]at hA;have ca':(upC m a !=0)=true:=by simpa using ca
 simp only[ca,ne_eq,not_false_eq_true,if_true];refine Zx func242 rfl ntmps242 results242 (WS _) ?_;simp only[go_sem,egs,tg];refine vc3 hA ?_;simp only[go_sem,Zdx,ca',tgc,SS]
theorem ZqN (p:List Eg) (c:Nat) (hc:c<=p.length):((upL p).take (p.length-c)).map upg=(p.drop c).reverse.map λe=>upg e.id:=by
 rw[ZjD p c hc,List.map_map];rfl
theorem Zj8 (m:List Eg) (a b:Tg) (hm:OkM m):Pp 226 [egs m,tg a,tg b] (FV (Zet m a b)):=by
 have hA:=F5 m a hm;have hB:=F5 m b hm;have hM:=Zj6 m a b hm;unfold Zet;unfold Zr3 at hM;by_cases hc:Wx m a b=0;obtain⟨ca,cb⟩:=Vd.1 hc;unfold upM at hA hB;rw[if_neg (λh=>h ca)]at hA;rw[if_neg (λh=>h cb)]at hB;rw[if_neg (λh=>h hc)]at hM;simp only[hc,ne_eq,not_true_eq_false,if_false];obtain⟨wa,_,_⟩:=YT ca;obtain⟨wb,_,_⟩:=YT cb;have hpl:(WX m a).length<=40:=by have:=wa.len;have:=hm.n;omega
 have hql:(WX m b).length<=40:=by have:=wb.len;have:=hm.n;omega
 generalize WX m a=p at *;generalize WX m b=q at *;have lc:=Zc8 p q;have hI:=ZaA (upL q) (TL p q) (by rw[Wl,Zb];omega);rw[ZpU hm.a wb]at hI;have hnd:=ZgG hm.a wa.mem wa.nodup;have w0:IntKind.i64.wrap (((q.length-lcp p q:Nat):Int)-1)=((q.length-lcp p q:Nat):Int)-1:=w64 (by omega);refine Zx func226 rfl ntmps226 results226 (SF _) ?_;simp only[go_sem,egs,tg];refine vc3 hM ?_;simp only[go_sem,tgc,tg];refine vc3 hA ?_;simp only[go_sem,Zdx];refine vc3 hB ?_;simp only[go_sem,Zdx];refine ZL 14 39 55 0 3 257 [] rfl rfl rfl ?_;refine Zs (ι:= { k:Nat // k<=p.length-lcp p q }) 73 (λx=> [(8,.ptr 8 0),(10,tgs (upL p)),(12,tgs (upL q)),(14,.sl (.row 55) ((((upL p).take x.1).map upg).map lg)),(15,.int .i64 (x.1:Int))]) (λx=> [(8,[.int .i64 (TL p q).r,.int .i64 (TL p q).n],false)]) (λx=> [(55,.live x.1 3 257)]) (λx=>p.length-x.1) ⟨0,Je _⟩
  ⟨rfl,(Fc5 rfl rfl rfl rfl rfl),fcs ⟨rfl,rfl⟩ fnl,(fcs rfl fnl)⟩ (λx=>⟨Fc5 rfl rfl rfl (by simp[Js,ZX]) rfl,(fcs rfl fnl)⟩) (λx=> ?_)
 obtain⟨k,hk⟩:=x;simp only;have hkl:k<(upL p).length:=by rw[Wl];omega
 have h1:(k:Int)<((upL p).length:Int):=by omega
 have h0:=Jb k
 have hlen:(((upL p).take k).map upg).length=k:=by simp;omega
 by_cases he:k=p.length-lcp p q;have hv:(upL p).getD k Jd=TL p q:=by rw[he];exact ZjA p q
 have dd:decide (TL p q=TL p q)=true:=by simp
 simp only[go_sem,tgs];refine vDq ?_;simp only[go_sem,h1,h0,Z7 hkl,hv,tg,Z4,dd];refine vc3 hI ?_;simp only[go_sem,w0];refine ZL 14 55 71 k 3 257 ((((upL p).take k).map upg).map lg) rfl rfl rfl ?_;refine Zs (ι:= { s:Nat // s<=q.length-lcp p q }) 73 (λx=> [(12,tgs (upL q)),(14,.sl (.row 71) ((((upL p).take k).map upg++((q.drop (lcp p q)).take x.1).map dn).map lg)),(16,.int .i64 (((q.length-lcp p q:Nat):Int)-1-(x.1:Int)))]) (λx=> []) (λx=> [(71,.live (k+x.1) 3 257)]) (λx=>q.length-lcp p q-x.1) ⟨0,Je _⟩
  ⟨rfl,Fc3 rfl (by show Jm _ _=Jm _ _;simp) (by show Jr _ _=Jr _ _;simp),fnl,(fcs rfl fnl)⟩ (λx=>⟨Fc3 rfl (by simp[Js,ZX]) rfl,fnl⟩) (λx=> ?_)
 obtain⟨s,hs⟩:=x;simp only;by_cases h:s<q.length-lcp p q;have e0:((q.length-lcp p q:Nat):Int)-1-(s:Int)=((q.length-(lcp p q+s)-1:Nat):Int):=by omega
 have g0:(0:Int)<=((q.length-(lcp p q+s)-1:Nat):Int):=by omega
 have k1:q.length-(lcp p q+s)-1<(upL q).length:=by rw[Wl];omega
 have g1:((q.length-(lcp p q+s)-1:Nat):Int)<((upL q).length:Int):=by omega
 have v1:=ZbR q (lcp p q+s) (by omega);have hlen2:(((upL p).take k).map upg++((q.drop (lcp p q)).take s).map dn).length=k+s:=by simp;omega
 have hrm:=Ya (show k+s+1<=1000000 by omega) (show 24<=1000 by omega);have hnx:=SW (q:=q) (c:=lcp p q) (s:=s) (by omega);have w1:IntKind.i64.wrap (((q.length-(lcp p q+s)-1:Nat):Int)-1)=((q.length-lcp p q:Nat):Int)-1-((s+1:Nat):Int):=by rw[w64 (by omega)];omega
 rw[e0];simp only[go_sem,tgs,g0,g1,Z7 k1,v1,tg,hlen2,hrm,Zag,w1];refine⟨⟨s+1,by omega⟩,by show q.length-lcp p q-(s+1)<q.length-lcp p q-s;omega,⟨rfl,fcs rfl (fcs ?_ (fcs rfl fnl)),fnl,fcs ?_ fnl⟩⟩;show Jm (.row 71) _=Jm (.row 71) _;rw[hnx];simp[lg,dn];rfl;obtain rfl:s=q.length-lcp p q:=by omega
 have g0:¬(0:Int)<=((q.length-lcp p q:Nat):Int)-1-((q.length-lcp p q:Nat):Int):=by omega
 have htk:(q.drop (lcp p q)).take (q.length-lcp p q)=q.drop (lcp p q):=List.take_of_length_le (by simp);have hup:=ZqN p (lcp p q) lc.1;rw[<-he]at hup;simp only[go_sem,g0,htk,hup,FV,lgs,FU];have hne:¬(upL p).getD k Jd=TL p q:=by
  intro e;have hv:(upL p).getD (p.length-lcp p q) Jd=TL p q:=ZjA p q;have hlt:k<p.length-lcp p q:=by omega
  have hl2:p.length-lcp p q<(upL p).length:=by rw[Wl];omega
  have:=Jj.1 hnd k (p.length-lcp p q) hkl hl2 hlt;rw[<-getD_lt (d:=Jd) hkl,<-getD_lt (d:=Jd) hl2,e,hv]at this;exact this rfl
 have dd:decide ((upL p).getD k Jd=TL p q)=false:=by simpa using hne
 have hrm:=Ya (show k+1<=1000000 by omega) (show 24<=1000 by omega);have w1:=wk9 (k:=k) (by omega)
 simp only[go_sem,tgs];refine vDq ?_;simp only[go_sem,h1,h0,Z7 hkl,tg,Z4,dd,hlen,hrm,Zag,w1];refine⟨⟨k+1,by omega⟩,nx9 (by omega),⟨rfl,fcs rfl (fcs rfl (fcs rfl (fcs ?_ (fcs rfl fnl)))),fcs ⟨rfl,rfl⟩ fnl,fcs rfl fnl⟩⟩;show Jm (.row 55) _=Jm (.row 55) _;rw[U6 hkl,Ji,Ji];rfl;have hc':(Wx m a b !=0)=true:=by simpa using hc
 rw[if_pos hc]at hM;simp only[ne_eq,hc,not_false_eq_true,if_true];refine Zx func226 rfl ntmps226 results226 (SF _) ?_;simp only[go_sem,egs,tg];refine vc3 hM ?_;simp only[go_sem,tgc,tg,hc',FV,lgs]
open Go.PL
theorem ZlZ (m:List Eg) (a b:Tg) (hm:OkM m) (hr:RightM m):Pp 185 [egs m,tg a,tg b] (Zi9 (FM m a b)):=by
 have hP:=Zj8 m a b hm;have hll:=Zek m a b hm;unfold FM;unfold Zet at hP hll;by_cases hc:Wx m a b=0;have hin:=Znf hc hm.a;simp only[hc,ne_eq,not_true_eq_false,if_false]at hP hll ⊢;generalize FU (WX m a) (WX m b)=legs at *;have hlm:legs.length<=maxLen:=by rw[Zb];omega
 refine Zx func185 rfl ntmps185 results185 (G4 _) ?_;simp only[go_sem,egs,tg];refine vc3 hP ?_;simp only[go_sem,FV,lgs];refine ZL 10 24 43 0 16 76 [] rfl rfl rfl ?_;refine Zs (ι:= { x:Nat // x<=(legs).length }) 45 (λx=> [(0,egs m),(8,lgs legs),(10,.sl (.row 43) ((U0 m (legs.take x.1)).map lns)),(11,.int .i64 (x.1:Int))]) (λx=> []) (λx=> [(43,.live (x.1) (16) (76))]) (λx=>(legs).length-x.1) ⟨0,Je _⟩ ⟨rfl,(Fc4 rfl rfl rfl rfl),fnl,(fcs rfl fnl)⟩ (λx=>⟨(Fc4 rfl rfl (by simp[Js,ZX]) rfl),fnl⟩) (λx=> ?_);obtain⟨k,hk⟩:=x;simp only at hk ⊢;by_cases h:(k:Int)<(legs.length:Int)
 ·(have hka:k<(legs).length:=by omega);(have w1:=Xi hka (hlm));(have i1:=Jb k)
  obtain⟨e,he,hfe,_⟩:=hin _ (Ze (d:=Jd) hka);have hL:=Zj5 m (legs.getD k Jd) hm hr;have hts:legs.take (k+1)=legs.take k++ [legs.getD k Jd]:=U6 hka;have hkl:(U0 m (legs.take k)).length=k:=by simp[U0];omega
  have hrm:=Ya (show k+1<=1000000 by omega) (show 232<=1000 by omega);simp only[go_sem,h,lgs,ZmS hka,lg,i1];refine vc3 hL ?_;simp only[go_sem,lnc,lns,Zjs,hkl,hrm,w1];exact⟨⟨k+1,by(try simp only);omega⟩,by show(legs).length-(k+1)<(legs).length-k;omega,⟨rfl,(Fc4 rfl rfl (by(show Jm _ _=Jm _ _;simp[hts,U0,lns])) rfl),fnl,(fcs rfl fnl)⟩⟩
 obtain rfl:k=legs.length:=by omega
 have htk:legs.take legs.length=legs:=List.take_length;simp only[go_sem,h,lgs,htk,Zi9,G5];have hc':(Wx m a b !=0)=true:=by simpa using hc
 simp only[ne_eq,hc,not_false_eq_true,if_true]at hP ⊢;refine Zx func185 rfl ntmps185 results185 (G4 _) ?_;simp only[go_sem,egs,tg];refine vc3 hP ?_;simp only[go_sem,FV,lgs,hc',Zi9,G5]
open Go.PL
theorem Zp0 {d f:Int} (h1:2<=f) (h2:f<=1000) (hd:YN d=true):IntKind.i64.wrap (d*f)=d*f/\(YN (d*f)=true->UZ 0 d f=(d*f,0))/\(YN (d*f)=false->(UZ 0 d f).2≠0):=by
 obtain⟨d1,d2⟩:=Ys.1 hd;have b1:d*f<=4503599627370496*f:=Jc d2 (by omega);have b2:(-4503599627370496)*f<=d*f:=Jc d1 (by omega);have hw:IntKind.i64.wrap (d*f)=d*f:=TD (by omega);have hw2:IntKind.i64.wrap (0+IntKind.i64.wrap (f*d))=d*f:=by rw[Int.mul_comm f d,hw,Int.zero_add,hw]
 obtain⟨m1,m2,m3,m4⟩:=Gm (w:=f) (by omega);refine⟨hw,λhf=> ?_,λhf=> ?_⟩;obtain⟨p1,p2⟩:=Ys.1 hf;unfold UZ;rw[if_neg (λh=>h ⟨h1,h2⟩),hw2,if_neg,if_pos hf];rintro (h|h);have:d*f<=(-(Xd f+1))*f:=Jc (by omega) (by omega);rw[Int.neg_mul]at this;omega;have:(Xd f+1)*f<=d*f:=Jc (by omega) (by omega);omega;unfold UZ;rw[if_neg (λh=>h ⟨h1,h2⟩),hw2];split;simp;rw[if_neg (by rw[hf];simp)];simp
theorem ZnV {x:Ln} (h:ZI x=true) (hk:x.kind=6\/x.kind=9):2<=x.fac/\x.fac<=1000:=by
 have h23:¬(x.kind=2\/x.kind=3):=by omega
 have h8:¬x.kind=8:=by omega
 unfold ZI at h;rw[if_neg h23,if_neg h8,if_pos hk]at h;simp only[Bool.and_eq_true,decide_eq_true_eq]at h;omega
theorem Zj7 (x:Ln) (o:Opn) (hx:OkLn x):Pp 228 [lns x,opv o] (opb (XS x o)):=by
 have hR:=Un x hx;unfold XS;cases hlr:ZI x
 ·rw[hlr]at hR;refine Zx func228 rfl ntmps228 results228 (Zo _) ?_;simp only[go_sem,lns,opv];refine vc3 hR ?_;simp only[go_sem,if_true,opb,Zz];try rfl
 have hk:=(Yi hlr).1;have hfac:=ZnV hlr;rw[hlr]at hR;simp only[Ja,if_false];by_cases hp:o.kind≠3/\o.kind≠4;rw[if_pos hp];have e1:(o.kind !=3)=true:=by simpa using hp.1
 have e2:(o.kind !=4)=true:=by simpa using hp.2
 refine Zx func228 rfl ntmps228 results228 (Zo _) ?_;simp only[go_sem,lns,opv];refine vc3 hR ?_;simp only[go_sem,e1,e2,opb,opv];rw[if_neg hp];have hG:=Zcv x;have hC:=Zay x;have hI:=ZjZ (Zt x) o.at' (by have:=Zba x;rw[Zb];omega);have pl:(o.kind !=3)=false/\(o.kind !=4)=true/\o.kind=3\/(o.kind !=3)=true/\(o.kind !=4)=false/\o.kind=4:=by
  by_cases k3:o.kind=3;left;simp[k3];right;have k4:o.kind=4:=Jq λh=>hp ⟨k3,h⟩
  simp[k4]
 by_cases hi:Yf (Zt x) o.at'<0
 ·rw[if_pos hi];rcases pl with ⟨e1,e2,_⟩|⟨e1,e2,_⟩
  all_goals
   refine Zx func228 rfl ntmps228 results228 (Zo _) ?_;simp only[go_sem,lns,opv];refine vc3 hR ?_;simp only[go_sem,e1,e2,lns];refine vc3 hG ?_;simp only[go_sem,refs,ref];refine vc3 hI ?_;simp only[go_sem,hi,opb,opv]
 rw[if_neg hi];have hV:=DF x.fo o.text (by have:=hx.f;rw[Zb];omega);obtain⟨kind,at',nm,ot,fac,fd,fo,ba⟩:=x;simp only at hk hV hfac;rcases hk with rfl|rfl|rfl|rfl|rfl|rfl|rfl|rfl|rfl|rfl
 ·skip
  have hne:(Zc ⟨1,at',nm,ot,fac,fd,fo,ba⟩).length≠0:=by unfold Zc;simp
  have hc0:0<(Zc ⟨1,at',nm,ot,fac,fd,fo,ba⟩).length:=by omega
  have hc1:(0:Int)<((Zc ⟨1,at',nm,ot,fac,fd,fo,ba⟩).length:Int):=by omega
  have hc2:(((Zc ⟨1,at',nm,ot,fac,fd,fo,ba⟩).map ref).getD 0 .any)=ref ((Zc ⟨1,at',nm,ot,fac,fd,fo,ba⟩).getD 0 Jd):=Ym hc0;have hb:Zj ⟨1,at',nm,ot,fac,fd,fo,ba⟩ o=(o,true):=by simp[Zj]
  rw[hb];simp only[Ja,if_false];generalize Zc ⟨1,at',nm,ot,fac,fd,fo,ba⟩=comes at *;rcases pl with ⟨e1,e2,_⟩|⟨e1,e2,_⟩
  all_goals
   refine Zx func228 rfl ntmps228 results228 (Zo _) ?_;simp only[go_sem,lns,opv];refine vc3 hR ?_;simp only[go_sem,e1,e2,lns];refine vc3 hG ?_;simp only[go_sem,refs,ref];refine vc3 hI ?_;simp only[go_sem,hi,lns];refine vc3 hC ?_;simp only[go_sem,refs,hc1,hc2,ref,opb,opv,Zv]
 exfalso;have:Zt ⟨2,at',nm,ot,fac,fd,fo,ba⟩= []:=by simp[Zt]
 rw[this]at hi;exact hi (by show(-1:Int)<0;omega)
 ·have hb:Zj ⟨3,at',nm,ot,fac,fd,fo,ba⟩ o=(o,false):=by simp[Zj]
  rw[hb];simp only[if_true];rcases pl with ⟨e1,e2,_⟩|⟨e1,e2,_⟩
  all_goals
   refine Zx func228 rfl ntmps228 results228 (Zo _) ?_;simp only[go_sem,lns,opv];refine vc3 hR ?_;simp only[go_sem,e1,e2,lns];refine vc3 hG ?_;simp only[go_sem,refs,ref];refine vc3 hI ?_;simp only[go_sem,hi,lns,opb,Zz];try rfl
 ·skip
  have hne:(Zc ⟨4,at',nm,ot,fac,fd,fo,ba⟩).length≠0:=by unfold Zc;simp
  have hc0:0<(Zc ⟨4,at',nm,ot,fac,fd,fo,ba⟩).length:=by omega
  have hc1:(0:Int)<((Zc ⟨4,at',nm,ot,fac,fd,fo,ba⟩).length:Int):=by omega
  have hc2:(((Zc ⟨4,at',nm,ot,fac,fd,fo,ba⟩).map ref).getD 0 .any)=ref ((Zc ⟨4,at',nm,ot,fac,fd,fo,ba⟩).getD 0 Jd):=Ym hc0;have hb:Zj ⟨4,at',nm,ot,fac,fd,fo,ba⟩ o=(o,true):=by simp[Zj]
  rw[hb];simp only[Ja,if_false];generalize Zc ⟨4,at',nm,ot,fac,fd,fo,ba⟩=comes at *;rcases pl with ⟨e1,e2,_⟩|⟨e1,e2,_⟩
  all_goals
   refine Zx func228 rfl ntmps228 results228 (Zo _) ?_;simp only[go_sem,lns,opv];refine vc3 hR ?_;simp only[go_sem,e1,e2,lns];refine vc3 hG ?_;simp only[go_sem,refs,ref];refine vc3 hI ?_;simp only[go_sem,hi,lns];refine vc3 hC ?_;simp only[go_sem,refs,hc1,hc2,ref,opb,opv,Zv]
 ·skip
  have hne:(Zc ⟨5,at',nm,ot,fac,fd,fo,ba⟩).length≠0:=by unfold Zc;simp
  have hc0:0<(Zc ⟨5,at',nm,ot,fac,fd,fo,ba⟩).length:=by omega
  have hc1:(0:Int)<((Zc ⟨5,at',nm,ot,fac,fd,fo,ba⟩).length:Int):=by omega
  have hc2:(((Zc ⟨5,at',nm,ot,fac,fd,fo,ba⟩).map ref).getD 0 .any)=ref ((Zc ⟨5,at',nm,ot,fac,fd,fo,ba⟩).getD 0 Jd):=Ym hc0;have hb:Zj ⟨5,at',nm,ot,fac,fd,fo,ba⟩ o=(o,true):=by simp[Zj]
  rw[hb];simp only[Ja,if_false];generalize Zc ⟨5,at',nm,ot,fac,fd,fo,ba⟩=comes at *;rcases pl with ⟨e1,e2,_⟩|⟨e1,e2,_⟩
  all_goals
   refine Zx func228 rfl ntmps228 results228 (Zo _) ?_;simp only[go_sem,lns,opv];refine vc3 hR ?_;simp only[go_sem,e1,e2,lns];refine vc3 hG ?_;simp only[go_sem,refs,ref];refine vc3 hI ?_;simp only[go_sem,hi,lns];refine vc3 hC ?_;simp only[go_sem,refs,hc1,hc2,ref,opb,opv,Zv]
 skip
 have hne:(Zc ⟨6,at',nm,ot,fac,fd,fo,ba⟩).length≠0:=by unfold Zc;simp
 have hc0:0<(Zc ⟨6,at',nm,ot,fac,fd,fo,ba⟩).length:=by omega
 have hc1:(0:Int)<((Zc ⟨6,at',nm,ot,fac,fd,fo,ba⟩).length:Int):=by omega
 have hc2:(((Zc ⟨6,at',nm,ot,fac,fd,fo,ba⟩).map ref).getD 0 .any)=ref ((Zc ⟨6,at',nm,ot,fac,fd,fo,ba⟩).getD 0 Jd):=Ym hc0;have hb:Zj ⟨6,at',nm,ot,fac,fd,fo,ba⟩ o=(o,decide (o.kind=3)):=by simp[Zj]
 rw[hb];have hg:Zt ⟨6,at',nm,ot,fac,fd,fo,ba⟩= [at']:=by simp[Zt]
 have hi1:(Yf (Zt ⟨6,at',nm,ot,fac,fd,fo,ba⟩) o.at'==1)=false:=by
  rcases Sd (Zt ⟨6,at',nm,ot,fac,fd,fo,ba⟩) o.at' with h|⟨g,hg1,hg2⟩;omega;rw[hg]at hg1;simp at hg1;rw[hg2,hg1];rfl
 generalize Zt ⟨6,at',nm,ot,fac,fd,fo,ba⟩=goes at *;generalize Zc ⟨6,at',nm,ot,fac,fd,fo,ba⟩=comes at *;rcases pl with ⟨e1,e2,k3⟩|⟨e1,e2,k4⟩;rw[decide_eq_true k3];simp only[Ja,if_false];refine Zx func228 rfl ntmps228 results228 (Zo _) ?_;simp only[go_sem,lns,opv];refine vc3 hR ?_;simp only[go_sem,e1,e2,lns];refine vc3 hG ?_;simp only[go_sem,refs,ref];refine vc3 hI ?_;simp only[go_sem,hi,lns];refine vc3 hC ?_;simp only[go_sem,refs,hc1,hc2,ref,hi1,e1,opb,opv,Zv]
 ·rw[decide_eq_false (by omega)];simp only[if_true];refine Zx func228 rfl ntmps228 results228 (Zo _) ?_;simp only[go_sem,lns,opv];refine vc3 hR ?_;simp only[go_sem,e1,e2,lns];refine vc3 hG ?_;simp only[go_sem,refs,ref];refine vc3 hI ?_;simp only[go_sem,hi,lns];refine vc3 hC ?_;simp only[go_sem,refs,hc1,hc2,ref,hi1,e1,opb,Zz];try rfl
 skip
 have hne:(Zc ⟨7,at',nm,ot,fac,fd,fo,ba⟩).length≠0:=by unfold Zc;simp
 have hc0:0<(Zc ⟨7,at',nm,ot,fac,fd,fo,ba⟩).length:=by omega
 have hc1:(0:Int)<((Zc ⟨7,at',nm,ot,fac,fd,fo,ba⟩).length:Int):=by omega
 have hc2:(((Zc ⟨7,at',nm,ot,fac,fd,fo,ba⟩).map ref).getD 0 .any)=ref ((Zc ⟨7,at',nm,ot,fac,fd,fo,ba⟩).getD 0 Jd):=Ym hc0;have hb:Zj ⟨7,at',nm,ot,fac,fd,fo,ba⟩ o=(o,decide (o.kind=4)):=by simp[Zj]
 rw[hb];generalize Zc ⟨7,at',nm,ot,fac,fd,fo,ba⟩=comes at *;rcases pl with ⟨e1,e2,k3⟩|⟨e1,e2,k4⟩
 ·rw[decide_eq_false (by omega)];simp only[if_true];refine Zx func228 rfl ntmps228 results228 (Zo _) ?_;simp only[go_sem,lns,opv];refine vc3 hR ?_;simp only[go_sem,e1,e2,lns];refine vc3 hG ?_;simp only[go_sem,refs,ref];refine vc3 hI ?_;simp only[go_sem,hi,lns];refine vc3 hC ?_;simp only[go_sem,refs,hc1,hc2,ref,e2,opb,Zz];try rfl
 rw[decide_eq_true k4];simp only[Ja,if_false];refine Zx func228 rfl ntmps228 results228 (Zo _) ?_;simp only[go_sem,lns,opv];refine vc3 hR ?_;simp only[go_sem,e1,e2,lns];refine vc3 hG ?_;simp only[go_sem,refs,ref];refine vc3 hI ?_;simp only[go_sem,hi,lns];refine vc3 hC ?_;simp only[go_sem,refs,hc1,hc2,ref,e2,opb,opv,Zv]
 skip
 have hne:(Zc ⟨8,at',nm,ot,fac,fd,fo,ba⟩).length≠0:=by unfold Zc;simp
 have hc0:0<(Zc ⟨8,at',nm,ot,fac,fd,fo,ba⟩).length:=by omega
 have hc1:(0:Int)<((Zc ⟨8,at',nm,ot,fac,fd,fo,ba⟩).length:Int):=by omega
 have hc2:(((Zc ⟨8,at',nm,ot,fac,fd,fo,ba⟩).map ref).getD 0 .any)=ref ((Zc ⟨8,at',nm,ot,fac,fd,fo,ba⟩).getD 0 Jd):=Ym hc0;have hb:Zj ⟨8,at',nm,ot,fac,fd,fo,ba⟩ o=(YU o (Vz o fo).1,(Vz o fo).2):=by simp[Zj]
 rw[hb];generalize Zc ⟨8,at',nm,ot,fac,fd,fo,ba⟩=comes at *;rcases pl with ⟨e1,e2,k3⟩|⟨e1,e2,k4⟩
 ·have hcv:Vz o fo=([],false):=by unfold Vz;rw[if_pos (by omega)]
  rw[hcv];simp only[if_true];refine Zx func228 rfl ntmps228 results228 (Zo _) ?_;simp only[go_sem,lns,opv];refine vc3 hR ?_;simp only[go_sem,e1,e2,lns];refine vc3 hG ?_;simp only[go_sem,refs,ref];refine vc3 hI ?_;simp only[go_sem,hi,lns];refine vc3 hC ?_;simp only[go_sem,refs,hc1,hc2,ref,e2,opb,Zz];try rfl
 obtain⟨id,sch,time,cart,okind,item,oat,delta,has,text,drops⟩:=o;simp only at k4;subst k4;simp only at *;cases has;have hcv:Vz ⟨id,sch,time,cart,4,item,oat,delta,false,text,drops⟩ fo=(text,true):=by simp[Vz]
 rw[hcv];simp only[Ja,if_false];refine Zx func228 rfl ntmps228 results228 (Zo _) ?_;simp only[go_sem,lns,opv];refine vc3 hR ?_;simp only[go_sem,e1,e2,lns];refine vc3 hG ?_;simp only[go_sem,refs,ref];refine vc3 hI ?_;simp only[go_sem,hi,lns];refine vc3 hC ?_;simp only[go_sem,refs,hc1,hc2,ref,e2,opb,opv,Zv,YU];have hcv:Vz ⟨id,sch,time,cart,4,item,oat,delta,true,text,drops⟩ fo=Xj fo text:=by simp[Vz]
 rw[hcv];clear hcv;generalize Xj fo text=y at *;obtain⟨s,b⟩:=y;cases b
 ·simp only[if_true];refine Zx func228 rfl ntmps228 results228 (Zo _) ?_;simp only[go_sem,lns,opv];refine vc3 hR ?_;simp only[go_sem,e1,e2,lns];refine vc3 hG ?_;simp only[go_sem,refs,ref];refine vc3 hI ?_;simp only[go_sem,hi,lns];refine vc3 hC ?_;simp only[go_sem,refs,hc1,hc2,ref,e2,prs];refine vc3 hV ?_;simp only[go_sem,Zb0,opb,Zz];try rfl
 simp only[Ja,if_false];refine Zx func228 rfl ntmps228 results228 (Zo _) ?_;simp only[go_sem,lns,opv];refine vc3 hR ?_;simp only[go_sem,e1,e2,lns];refine vc3 hG ?_;simp only[go_sem,refs,ref];refine vc3 hI ?_;simp only[go_sem,hi,lns];refine vc3 hC ?_;simp only[go_sem,refs,hc1,hc2,ref,e2,prs];refine vc3 hV ?_;simp only[go_sem,Zb0,opb,opv,Zv,YU]
 skip
 have hne:(Zc ⟨9,at',nm,ot,fac,fd,fo,ba⟩).length≠0:=by unfold Zc;simp
 have hc0:0<(Zc ⟨9,at',nm,ot,fac,fd,fo,ba⟩).length:=by omega
 have hc1:(0:Int)<((Zc ⟨9,at',nm,ot,fac,fd,fo,ba⟩).length:Int):=by omega
 have hc2:(((Zc ⟨9,at',nm,ot,fac,fd,fo,ba⟩).map ref).getD 0 .any)=ref ((Zc ⟨9,at',nm,ot,fac,fd,fo,ba⟩).getD 0 Jd):=Ym hc0;have hb:Zj ⟨9,at',nm,ot,fac,fd,fo,ba⟩ o=(Yc o (Y3 o (Yf (Zt ⟨9,at',nm,ot,fac,fd,fo,ba⟩) o.at') fac).1,(Y3 o (Yf (Zt ⟨9,at',nm,ot,fac,fd,fo,ba⟩) o.at') fac).2):=by simp[Zj]
 rw[hb];have hg:(Zt ⟨9,at',nm,ot,fac,fd,fo,ba⟩).length=2:=by simp[Zt]
 have hc3:=Sd (Zt ⟨9,at',nm,ot,fac,fd,fo,ba⟩) o.at';have hF:=ZiV o.delta;have hF2:=ZiV (o.delta*fac);obtain⟨f1,f2⟩:=hfac (.inr rfl);generalize Zc ⟨9,at',nm,ot,fac,fd,fo,ba⟩=comes at *;generalize Zt ⟨9,at',nm,ot,fac,fd,fo,ba⟩=goes at *;generalize Yf goes o.at'=pi at *;have hpi:pi=0\/pi=1:=by
  rcases hc3 with h|⟨g,h1,h2⟩;omega;omega
 have hd0:Yc o o.delta=o:=by cases o;rfl
 rcases hpi with rfl|rfl;rcases pl with ⟨e1,e2,k3⟩|⟨e1,e2,k4⟩;have hmg:Y3 o 0 fac=(o.delta,true):=by simp[Y3,k3]
 rw[hmg];simp only[Ja,if_false,hd0];refine Zx func228 rfl ntmps228 results228 (Zo _) ?_;simp only[go_sem,lns,opv];refine vc3 hR ?_;simp only[go_sem,e1,e2,lns];refine vc3 hG ?_;simp only[go_sem,refs,ref];refine vc3 hI ?_;simp only[go_sem,lns];refine vc3 hC ?_;simp only[go_sem,refs,hc1,hc2,ref,e1,opb,opv,Zv]
 ·have hmg:Y3 o 0 fac=(0,false):=by simp[Y3,k4]
  rw[hmg];simp only[if_true];refine Zx func228 rfl ntmps228 results228 (Zo _) ?_;simp only[go_sem,lns,opv];refine vc3 hR ?_;simp only[go_sem,e1,e2,lns];refine vc3 hG ?_;simp only[go_sem,refs,ref];refine vc3 hI ?_;simp only[go_sem,lns];refine vc3 hC ?_;simp only[go_sem,refs,hc1,hc2,ref,e1,opb,Zz];try rfl
 cases hd:YN o.delta
 ·rw[hd]at hF;have hmg:(Y3 o 1 fac).2=false:=by
   unfold Y3;rw[hd];split;rfl;simp
  rw[if_pos hmg];rcases pl with ⟨e1,e2,k3⟩|⟨e1,e2,k4⟩
  all_goals
   refine Zx func228 rfl ntmps228 results228 (Zo _) ?_;simp only[go_sem,lns,opv];refine vc3 hR ?_;simp only[go_sem,e1,e2,lns];refine vc3 hG ?_;simp only[go_sem,refs,ref];refine vc3 hI ?_;simp only[go_sem,lns];refine vc3 hC ?_;simp only[go_sem,refs,hc1,hc2,ref];refine vc1 hF ?_;simp only[go_sem,opb,Zz];try rfl
 rw[hd]at hF;obtain⟨j1,j2,j3⟩:=Zp0 f1 f2 hd;cases hd2:YN (o.delta*fac)
 ·have j3:=j3 hd2;rw[hd2]at hF2;have hmg:(Y3 o 1 fac).2=false:=by
   unfold Y3;rw[hd];split;rfl;simpa using j3
  rw[if_pos hmg];rcases pl with ⟨e1,e2,k3⟩|⟨e1,e2,k4⟩
  all_goals
   refine Zx func228 rfl ntmps228 results228 (Zo _) ?_;simp only[go_sem,lns,opv];refine vc3 hR ?_;simp only[go_sem,e1,e2,lns];refine vc3 hG ?_;simp only[go_sem,refs,ref];refine vc3 hI ?_;simp only[go_sem,lns];refine vc3 hC ?_;simp only[go_sem,refs,hc1,hc2,ref];refine vc1 hF ?_;simp only[go_sem,j1];refine vc1 hF2 ?_;simp only[go_sem,opb,Zz];try rfl
 rw[hd2]at hF2;have j2:=j2 hd2;rcases pl with ⟨e1,e2,k3⟩|⟨e1,e2,k4⟩;have hmg:Y3 o 1 fac=(o.delta*fac,true):=by simp[Y3,k3,hd,j2]
 rw[hmg];simp only[Ja,if_false];refine Zx func228 rfl ntmps228 results228 (Zo _) ?_;simp only[go_sem,lns,opv];refine vc3 hR ?_;simp only[go_sem,e1,e2,lns];refine vc3 hG ?_;simp only[go_sem,refs,ref];refine vc3 hI ?_;simp only[go_sem,lns];refine vc3 hC ?_;simp only[go_sem,refs,hc1,hc2,ref];refine vc1 hF ?_;simp only[go_sem,j1];refine vc1 hF2 ?_;simp only[go_sem,j1,e1,opb,opv,Zv,Yc]
 ·have hmg:(Y3 o 1 fac).2=false:=by simp[Y3,k4]
  rw[if_pos hmg];refine Zx func228 rfl ntmps228 results228 (Zo _) ?_;simp only[go_sem,lns,opv];refine vc3 hR ?_;simp only[go_sem,e1,e2,lns];refine vc3 hG ?_;simp only[go_sem,refs,ref];refine vc3 hI ?_;simp only[go_sem,lns];refine vc3 hC ?_;simp only[go_sem,refs,hc1,hc2,ref];refine vc1 hF ?_;simp only[go_sem,j1];refine vc1 hF2 ?_;simp only[go_sem,j1,e1,opb,Zz];try rfl
 skip
 have hne:(Zc ⟨10,at',nm,ot,fac,fd,fo,ba⟩).length≠0:=by unfold Zc;simp
 have hc0:0<(Zc ⟨10,at',nm,ot,fac,fd,fo,ba⟩).length:=by omega
 have hc1:(0:Int)<((Zc ⟨10,at',nm,ot,fac,fd,fo,ba⟩).length:Int):=by omega
 have hc2:(((Zc ⟨10,at',nm,ot,fac,fd,fo,ba⟩).map ref).getD 0 .any)=ref ((Zc ⟨10,at',nm,ot,fac,fd,fo,ba⟩).getD 0 Jd):=Ym hc0;have hb:Zj ⟨10,at',nm,ot,fac,fd,fo,ba⟩ o=(o,decide (o.kind=4)):=by simp[Zj]
 rw[hb];generalize Zc ⟨10,at',nm,ot,fac,fd,fo,ba⟩=comes at *;rcases pl with ⟨e1,e2,k3⟩|⟨e1,e2,k4⟩
 ·rw[decide_eq_false (by omega)];simp only[if_true];refine Zx func228 rfl ntmps228 results228 (Zo _) ?_;simp only[go_sem,lns,opv];refine vc3 hR ?_;simp only[go_sem,e1,e2,lns];refine vc3 hG ?_;simp only[go_sem,refs,ref];refine vc3 hI ?_;simp only[go_sem,hi,lns];refine vc3 hC ?_;simp only[go_sem,refs,hc1,hc2,ref,e2,opb,Zz];try rfl
 rw[decide_eq_true k4];simp only[Ja,if_false];refine Zx func228 rfl ntmps228 results228 (Zo _) ?_;simp only[go_sem,lns,opv];refine vc3 hR ?_;simp only[go_sem,e1,e2,lns];refine vc3 hG ?_;simp only[go_sem,refs,ref];refine vc3 hI ?_;simp only[go_sem,hi,lns];refine vc3 hC ?_;simp only[go_sem,refs,hc1,hc2,ref,e2,opb,opv,Zv]
theorem Zg2 (rws:List Ln) (o:Opn) (hl:rws.length<=1000) (hx:∀x∈rws,OkLn x):Pp 186 [G5 rws,opv o] (opb (Xl rws o)):=by
 have hlm:rws.length<=maxLen:=by rw[Zb];omega
 refine Zx func186 rfl ntmps186 results186 (Zo _) ?_;simp only[go_sem,G5,opv];refine Zs (ι:= { x:Nat×(Opn) // x.1<=(rws).length/\(Xl (rws.drop x.1) x.2=Xl rws o) }) 29 (λx=> [(0,G5 rws),(3,.ptr 3 0),(4,.ptr 4 0),(6,.int .i64 (x.1.1:Int))]) (λx=> [(3,Xn x.1.2,false),(4,FP,false)]) (λx=> []) (λx=>(rws).length-x.1.1) ⟨(0,o),Je _,rfl⟩ ⟨rfl,(Fc4 rfl rfl rfl rfl),(Fc2 ⟨rfl,rfl⟩ ⟨rfl,rfl⟩),fnl⟩ (λx=>⟨(Fc4 rfl rfl rfl rfl),(Fc2 rfl rfl)⟩) (λx=> ?_);obtain⟨⟨k,p⟩,hk,hI⟩:=x;simp only at hk hI ⊢;by_cases h:(k:Int)<(rws.length:Int)
 (have hka:k<(rws).length:=by omega);(have w1:=Xi hka (hlm));(have i1:=Jb k)
 have i0:=Jb k
 have hT:=Zj7 (rws.getD k Jd) p (hx _ (Ze (d:=Jd) hka));rw[ZmD hka,Th]at hI;cases hz:(XS (rws.getD k Jd) p).2
 ·rw[if_pos hz]at hI;simp only[go_sem,G5,h];refine vDq ?_;simp only[go_sem,Zd6 hka,lns,i0,i1,h,Xn,opv];refine vc6 hT ?_;simp only[go_sem,opb,opv,hz,<-hI,FP];try rfl
 ·rw[if_neg (by rw[hz];simp)]at hI;simp only[go_sem,G5,h];refine vDq ?_;simp only[go_sem,Zd6 hka,lns,i0,i1,h,Xn,opv];refine vc6 hT ?_;simp only[go_sem,opb,opv,hz,w1,FP];exact⟨⟨(k+1,(XS (rws.getD k Jd) p).1),by(try simp only);omega,hI⟩,by show(rws).length-(k+1)<(rws).length-k;omega,⟨rfl,(Fc4 rfl rfl rfl rfl),(Fc2 ⟨rfl,rfl⟩ ⟨rfl,rfl⟩),fnl⟩⟩
 obtain rfl:k=rws.length:=by omega
 have hd:Xl rws o=(p,true):=by rw[<-hI,Jk];rfl
 simp only[go_sem,G5,h,hd,opb,opv,Xn,FP]
theorem Zka (m:List Eg) (o:Opn) (a b:Tg) (hm:OkM m) (hr:RightM m):Pp 139 [egs m,opv o,tg a,tg b] (opb (ZoN m a b o)):=by
 have hR:=ZlZ m a b hm hr;obtain⟨hrl,hro⟩:=Zru (a:=a) (b:=b) hm;have hA:=Zg2 (FM m a b).1 o hrl hro;have hc2:(FM m a b).2=Wx m a b:=by unfold FM;split<;>simp_all
 unfold ZoN;by_cases hc:Wx m a b=0;rw[if_neg (λh=>h hc)];rw[hc]at hc2;generalize FM m a b=rw0 at *;obtain⟨rws,c0⟩:=rw0;simp only at hc2 hrl hro hA ⊢;subst hc2;cases hz:(Xl rws o).2
 ·simp only[if_true];refine Zx func139 rfl ntmps139 results139 (Zo _) ?_;simp only[go_sem,egs,tg,opv];refine vc3 hR ?_;simp only[go_sem,Zi9,G5];refine YD hA ?_ ?_ ?_;iterate 2 simp only[go_sem,G5,opv]
  simp only[go_sem,opb,opv,hz,Zz];try rfl
 ·simp only[Ja,if_false];refine Zx func139 rfl ntmps139 results139 (Zo _) ?_;simp only[go_sem,egs,tg,opv];refine vc3 hR ?_;simp only[go_sem,Zi9,G5];refine YD hA ?_ ?_ ?_;iterate 2 simp only[go_sem,G5,opv]
  simp only[go_sem,opb,opv,hz,Zsk]
 have hc':(Wx m a b !=0)=true:=by simpa using hc
 rw[if_pos hc];refine Zx func139 rfl ntmps139 results139 (Zo _) ?_;simp only[go_sem,egs,tg,opv];refine vc3 hR ?_;simp only[go_sem,Zi9,G5,hc2,hc',opb,Zz];try rfl
end Go.Proofs.YtadgngamdofhiaaGreat
