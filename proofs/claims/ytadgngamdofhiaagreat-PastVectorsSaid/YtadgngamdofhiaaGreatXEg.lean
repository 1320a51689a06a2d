/- Lemmas of the proof. -/
import Derived.Test.YtadgngamdofhiaaGreatPlH
import Derived.Test.YtadgngamdofhiaaGreatXAa
import Derived.Test.YtadgngamdofhiaaGreatXAe
import Derived.Test.YtadgngamdofhiaaGreatXAi
import Derived.Test.YtadgngamdofhiaaGreatXAz
open Go.Proofs.Tryz
open Go Go.PL
open Int renaming natCast_nonneg→Jb
open List renaming map_append→Jc
open Nat renaming zero_le→Ja
open PV renaming sl→Je
namespace Go.Proofs.YtadgngamdofhiaaGreat
set_option maxHeartbeats 64000000
set_option maxRecDepth 20000
set_option linter.unusedVariables false
set_option linter.unusedSimpArgs false
open Go.PL
theorem UH {α:Type} [Inhabited α] {l:List α} {k:Nat} (h:k<l.length):l.take (k+1)=l.take k++ [l.getD k default]:=ZW h
theorem Zfl {l:List Fd} (h:OkFs l) (r:Rf):(Zz l r).cases'.length<=1000000:=Zfk h r
theorem Zqh {l:List Fd} (h:OkFs l) {f:Fd} (hf:f.cases'.length<=1000000) (ok:Bool):OkFs (XC l f ok).1:=Zmr h hf
def Zf (x:Ln):List PV:= [.int .i64 x.kind,.int .i64 x.at'.sc,.str x.at'.gr,.str x.at'.nm,.str x.nm,.str x.ot,.int .i64 x.fac,.int .i64 x.fd.at'.sc,.str x.fd.at'.gr,.str x.fd.at'.nm,.int .i64 x.fd.kind,.str x.fd.df,.sl .no (x.fd.cases'.map .str),.int .i64 x.fd.worth,.sl .no (x.fo.map pr),.sl .no (x.ba.map pr)]
theorem vcy {x:Bool} {M:KH} {g:FuncId} {args args':List PV} {K:KR} {r:PV} (h1:Pp g args' r) (h2:K.k r M.m) (h0:PV.givableL M.m args:=by first|(simp only[go_sem,ref,ent,YG,doc,Yq,row,Zi,fld,lns,tg,refs,prs,pr,eg,egs,tgs,lg,lgs,tr,Zh,Zo,Zf];done)|exact rfl) (he:PV.giveL M.m args=args':=by first|(simp only[go_sem,ref,ent,YG,doc,Yq,row,Zi,fld,lns,tg,refs,prs,pr,eg,egs,tgs,lg,lgs,tr,Zh,Zo,Zf];done)|exact rfl):@UJ prog x M (some (g,args)) K:=Yh h1 h0 he h2
theorem Fy (l:List Fd) (u:Ln) (hl:OkFs l) (hx:OkLn u):Pp 128 [Zi l,lns u] (ZM (ZT l u)):=by
 have hn:=hl.n;have hm:l.length<=maxLen:=by rw[Zb];omega
 have hR:=To l hm (λf hf=>by have:=hl.c f hf;rw[Zb];omega);have hL:=V0 u hx;cases hrl:Z2 l;have e:ZT l u=([],5):=by unfold ZT;rw[if_pos (.inl hrl)]
 rw[e];rw[hrl]at hR;refine ZA func128 rfl ntmps128 results128 (ZI _) ?_;simp only[go_sem,Zi,lns];refine vc2 hR ?_;simp only[go_sem,ZM,Zi];rw[hrl]at hR;cases hrx:ZE u;have e:ZT l u=([],5):=by unfold ZT;rw[if_pos (.inr hrx)]
 rw[e];rw[hrx]at hL;refine ZA func128 rfl ntmps128 results128 (ZI _) ?_;simp only[go_sem,Zi,lns];refine vc2 hR ?_;simp only[go_sem];refine vc3 hL ?_;simp only[go_sem,ZM,Zi];rw[hrx]at hL;rw[Zk3 hrl hrx];have hkind:=(Y9 hrx).1;have hG:=Zbv u;have hC:=FA u;have hgl:=F8 u;generalize hgo:Zy u=goes at hG hgl ⊢;have hgm:goes.length<=maxLen:=by rw[Zb];omega
 refine ZA func128 rfl ntmps128 results128 (ZI _) ?_;simp only[go_sem,Zi,lns];refine vc2 hR ?_;simp only[go_sem];refine vc3 hL ?_;simp only[go_sem,Zi];refine vc3 hG ?_;simp only[go_sem,refs];refine ZL 7 23 46 0 7 73 [] rfl rfl rfl ?_;refine Zt (ι:= { x:Nat // x<=(goes).length/\(∀r∈goes.take x,(ZJ l r).2=0) }) 283 (λx=> [(0,Zi l),(3,.ptr 3 0),(6,Zi (D6 (goes.take x.1) l)),(7,.sl (.row 46) (((goes.take x.1).map (Zz l)).map fld)),(8,refs goes),(9,.int .i64 (x.1:Int))]) (λx=> [(3,Zf u,false)]) (λx=> [(46,.live (x.1) (7) (73))]) (λx=>(goes).length-x.1) ⟨0,Ja _,by simp⟩ ⟨rfl,(Fc6 rfl rfl rfl rfl rfl rfl),(fcs ⟨rfl,rfl⟩ fnl),(fcs rfl fnl)⟩ (λx=>⟨(Fc6 rfl rfl rfl (by simp[PV.ids,ZG]) rfl rfl),(fcs rfl fnl)⟩) (λx=> ?_);obtain⟨k,hk,hI⟩:=x;simp only at hk hI ⊢;have okR:=Zqi (goes.take k) hl;by_cases h:(k:Int)<(goes.length:Int)
 (have hka:k<(goes).length:=by omega);(have w1:=Xb hka (hgm));(have i1:=Jb k)
 have hA:Pp 175 [Zi l,ref (goes.getD k default)] (.int .i64 (idx (atF (goes.getD k default)) l)):=Fb l (goes.getD k default) hm;have hW:=ZcV (D6 (goes.take k) l) (goes.getD k default) okR;have hmem:goes.getD k default∈goes:=Ze hka;rcases Xy (atF (goes.getD k default)) l with h2|⟨g,hg,h2⟩;rw[h2]at hA;have hno:=ZqK h2;have hex:∃r∈goes,(ZJ l r).2≠0:=⟨_,hmem,by rw[hno];decide⟩;rw[if_pos hex];simp only[go_sem,refs,Zi,h,Yf hka,i1,ref];refine vc2 hA ?_;simp only[go_sem,ZM,Zi]
 ·have i3:¬(g:Int)<0:=by omega
  have i4:=Jb g
  have i5:(g:Int)<(l.length:Int):=by omega
  rw[h2]at hA;have hfa:=ZqJ h2;have hpk:Zz l (goes.getD k default)=l.getD g default:=by unfold Zz;rw[hfa]
  have hnx:∀r∈goes.take (k+1),(ZJ l r).2=0:=by
   intro r hr;rw[UH hka]at hr;rcases List.mem_append.1 hr with hr|hr;exact hI r hr;rw[List.mem_singleton.1 hr,hfa]
  have hln:((goes.take k).map (Zz l)).length=k:=by simp;omega
  have hrm:=Yb (show k+1<=1000000 by omega) (show 96<=1000 by omega);simp only[go_sem,refs,Zi,h,Yf hka,i1,ref];refine vc2 hA ?_;simp only[go_sem,i3,i4,i5,Zx hg,fld,YJ,hln,hrm,refs,h,i1,Yf hka,ref];refine vc2 hW ?_;simp only[go_sem,ZM,w1];exact⟨⟨k+1,by(try simp only);omega,hnx⟩,by show(goes).length-(k+1)<(goes).length-k;omega,⟨rfl,(Fc6 rfl rfl (by(show Je _ _=Je _ _;rw[UH hka,Zcm])) (by(show Je _ _=Je _ _;rw[UH hka,Jc,Jc,List.map_cons,List.map_nil,hpk];rfl)) rfl rfl),(fcs ⟨rfl,rfl⟩ fnl),(fcs rfl fnl)⟩⟩
 obtain rfl:k=goes.length:=by omega
 have htk:goes.take goes.length=goes:=List.take_length;rw[htk]at hI okR;have hno:¬ ∃r∈goes,(ZJ l r).2≠0:=λ⟨r,hr,hn⟩=>hn (hI r hr)
 rw[if_neg hno];generalize hrest:D6 goes l=rest at okR;obtain⟨kind,at',nm,ot,fac,fd,fo,ba⟩:=u;simp only at hkind;clear hgm hgl;rcases hkind with rfl|rfl|rfl|rfl|rfl|rfl|rfl|rfl|rfl|rfl
 ·have hgo':goes= [at']:=by rw[<-hgo];simp[Zy]
  subst hgo';have hC1:Zc ⟨1,at',nm,ot,fac,fd,fo,ba⟩= [Zh at' nm]:=by simp[Zc]
  rw[hC1]at hC;have hM:=SD (Zz l at') (Zh at' nm);have hend:Vg ⟨1,at',nm,ot,fac,fd,fo,ba⟩ ([at'].map (Zz l)) rest=XC rest (Zo (Zz l at') (Zh at' nm)) true:=by simp[Vg,Zc]
  have hP:=Yc rest (Zo (Zz l at') (Zh at' nm)) true okR (Zfl hl at');rw[hend];generalize XC rest (Zo (Zz l at') (Zh at' nm)) true=y at *;obtain⟨y,b⟩:=y;cases b;all_goals
   simp only[go_sem,refs,h,htk,Zf,hrest];refine vcy hC ?_;simp only[go_sem,refs,Zi,fld,ref,Zh,Zo,Zf];refine vDq ?_;simp only[go_sem,refs,Zi,fld,ref,Zh,Zo,Zf];refine vcy hM ?_
   (try simp only[go_sem,refs,Zi,fld,ref,Zh,Zo,Zf])
   refine vcy hP ?_;simp only[go_sem,YS,ZM,Tm,refs,Zi,fld,ref,Zh,Zo,Zf]
 ·have hgo':goes= []:=by rw[<-hgo];simp[Zy]
  subst hgo';have hC1:Zc ⟨2,at',nm,ot,fac,fd,fo,ba⟩= [fd.at']:=by simp[Zc]
  rw[hC1]at hC;have hend:Vg ⟨2,at',nm,ot,fac,fd,fo,ba⟩ (List.map (Zz l) []) rest=XC rest fd true:=by simp[Vg]
  have hP:=Yc rest fd true okR hx.c;rw[hend];generalize XC rest fd true=y at *;obtain⟨y,b⟩:=y;cases b;all_goals
   simp only[go_sem,refs,h,htk,Zf,hrest];refine vcy hC ?_;simp only[go_sem,refs,Zi,fld,ref,Zh,Zo,Zf];refine vcy hP ?_;simp only[go_sem,YS,ZM,Tm,refs,Zi,fld,ref,Zh,Zo,Zf]
 ·have hgo':goes= [fd.at']:=by rw[<-hgo];simp[Zy]
  subst hgo';have hC1:Zc ⟨3,at',nm,ot,fac,fd,fo,ba⟩= []:=by simp[Zc]
  rw[hC1]at hC;have hE:=SB (Zz l fd.at') fd (by have:=Zfl hl fd.at';rw[Zb];omega) (by have:=hx.c;simp only at this;rw[Zb];omega);have hend:Vg ⟨3,at',nm,ot,fac,fd,fo,ba⟩ ([fd.at'].map (Zz l)) rest=(rest,decide (Zz l fd.at'=fd)):=by simp[Vg]
  rw[hend];cases hb:decide (Zz l fd.at'=fd);all_goals
   rw[hb]at hE;simp only[go_sem,refs,h,htk,Zf,hrest];refine vcy hC ?_;simp only[go_sem,refs,Zi,fld,ref,Zh,Zo,Zf];refine vDq ?_;simp only[go_sem,refs,Zi,fld,ref,Zh,Zo,Zf];refine vcy hE ?_;simp only[go_sem,YS,ZM,Tm,refs,Zi,fld,ref,Zh,Zo,Zf]
 ·have hgo':goes= [at']:=by rw[<-hgo];simp[Zy]
  subst hgo';have hC1:Zc ⟨4,at',nm,ot,fac,fd,fo,ba⟩= [⟨at'.sc,[],at'.nm⟩]:=by simp[Zc]
  rw[hC1]at hC;have hM:=SD (Zz l at') (⟨at'.sc,[],at'.nm⟩);have hend:Vg ⟨4,at',nm,ot,fac,fd,fo,ba⟩ ([at'].map (Zz l)) rest=XC rest (Zo (Zz l at') (⟨at'.sc,[],at'.nm⟩)) true:=by simp[Vg,Zc]
  have hP:=Yc rest (Zo (Zz l at') (⟨at'.sc,[],at'.nm⟩)) true okR (Zfl hl at');rw[hend];generalize XC rest (Zo (Zz l at') (⟨at'.sc,[],at'.nm⟩)) true=y at *;obtain⟨y,b⟩:=y;cases b;all_goals
   simp only[go_sem,refs,h,htk,Zf,hrest];refine vcy hC ?_;simp only[go_sem,refs,Zi,fld,ref,Zh,Zo,Zf];refine vDq ?_;simp only[go_sem,refs,Zi,fld,ref,Zh,Zo,Zf];refine vcy hM ?_
   (try simp only[go_sem,refs,Zi,fld,ref,Zh,Zo,Zf])
   refine vcy hP ?_;simp only[go_sem,YS,ZM,Tm,refs,Zi,fld,ref,Zh,Zo,Zf]
 ·have hgo':goes= [at']:=by rw[<-hgo];simp[Zy]
  subst hgo';have hC1:Zc ⟨5,at',nm,ot,fac,fd,fo,ba⟩= [⟨at'.sc,nm,at'.nm⟩]:=by simp[Zc]
  rw[hC1]at hC;have hM:=SD (Zz l at') (⟨at'.sc,nm,at'.nm⟩);have hend:Vg ⟨5,at',nm,ot,fac,fd,fo,ba⟩ ([at'].map (Zz l)) rest=XC rest (Zo (Zz l at') (⟨at'.sc,nm,at'.nm⟩)) true:=by simp[Vg,Zc]
  have hP:=Yc rest (Zo (Zz l at') (⟨at'.sc,nm,at'.nm⟩)) true okR (Zfl hl at');rw[hend];generalize XC rest (Zo (Zz l at') (⟨at'.sc,nm,at'.nm⟩)) true=y at *;obtain⟨y,b⟩:=y;cases b;all_goals
   simp only[go_sem,refs,h,htk,Zf,hrest];refine vcy hC ?_;simp only[go_sem,refs,Zi,fld,ref,Zh,Zo,Zf];refine vDq ?_;simp only[go_sem,refs,Zi,fld,ref,Zh,Zo,Zf];refine vcy hM ?_
   (try simp only[go_sem,refs,Zi,fld,ref,Zh,Zo,Zf])
   refine vcy hP ?_;simp only[go_sem,YS,ZM,Tm,refs,Zi,fld,ref,Zh,Zo,Zf]
 have hgo':goes= [at']:=by rw[<-hgo];simp[Zy]
 subst hgo';have hC1:Zc ⟨6,at',nm,ot,fac,fd,fo,ba⟩= [Zh at' nm,Zh at' ot]:=by simp[Zc]
 rw[hC1]at hC;cases hok:(decide ((Zz l at').kind=1)&&decide (IntKind.i64.wrap ((Zz l at').worth*fac)<1048577));have hP:=Yc rest ⟨Zh at' nm,1,[],[],(Zz l at').worth⟩ false okR (Ja _);have hend:Vg ⟨6,at',nm,ot,fac,fd,fo,ba⟩ ([at'].map (Zz l)) rest=XC (XC rest ⟨Zh at' nm,1,[],[],(Zz l at').worth⟩ false).1 ⟨Zh at' ot,1,[],[],IntKind.i64.wrap ((Zz l at').worth*fac)⟩ (XC rest ⟨Zh at' nm,1,[],[],(Zz l at').worth⟩ false).2:=by simp[Vg,hok]
 have okY:=Zqh okR (f:=⟨Zh at' nm,1,[],[],(Zz l at').worth⟩) (Ja _) false;rw[hend];generalize XC rest ⟨Zh at' nm,1,[],[],(Zz l at').worth⟩ false=y1 at *;obtain⟨y1,b1⟩:=y1;have hQ:=Yc y1 ⟨Zh at' ot,1,[],[],IntKind.i64.wrap ((Zz l at').worth*fac)⟩ b1 okY (Ja _);simp only at *;generalize XC y1 ⟨Zh at' ot,1,[],[],IntKind.i64.wrap ((Zz l at').worth*fac)⟩ b1=y at *;obtain⟨y,b⟩:=y;by_cases k1:(Zz l at').kind=1
 ·have e1:((Zz l at').kind==1)=true:=by simpa using k1
  have e2:decide (IntKind.i64.wrap ((Zz l at').worth*fac)<1048577)=false:=by simpa[k1]using hok
  cases b;all_goals
   simp only[go_sem,refs,h,htk,Zf,hrest];refine vcy hC ?_;simp only[go_sem,refs,Zi,fld,ref,Zh,Zo,Zf];refine vDq ?_;simp only[go_sem,refs,Zi,fld,ref,Zh,Zo,Zf,e1,e2];refine vDq ?_;simp only[go_sem,refs,Zi,fld,ref,Zh,Zo,Zf];refine vcy hP ?_;simp only[go_sem,YS,refs,Zi,fld,ref,Zh,Zo,Zf];refine vcy hQ ?_;simp only[go_sem,YS,ZM,Tm,refs,Zi,fld,ref,Zh,Zo,Zf]
 ·have e1:((Zz l at').kind==1)=false:=by simpa using k1
  cases b;all_goals
   simp only[go_sem,refs,h,htk,Zf,hrest];refine vcy hC ?_;simp only[go_sem,refs,Zi,fld,ref,Zh,Zo,Zf];refine vDq ?_;simp only[go_sem,refs,Zi,fld,ref,Zh,Zo,Zf,e1];refine vDq ?_;simp only[go_sem,refs,Zi,fld,ref,Zh,Zo,Zf];refine vcy hP ?_;simp only[go_sem,YS,refs,Zi,fld,ref,Zh,Zo,Zf];refine vcy hQ ?_;simp only[go_sem,YS,ZM,Tm,refs,Zi,fld,ref,Zh,Zo,Zf]
 have hP:=Yc rest ⟨Zh at' nm,1,[],[],(Zz l at').worth⟩ true okR (Ja _);have hend:Vg ⟨6,at',nm,ot,fac,fd,fo,ba⟩ ([at'].map (Zz l)) rest=XC (XC rest ⟨Zh at' nm,1,[],[],(Zz l at').worth⟩ true).1 ⟨Zh at' ot,1,[],[],IntKind.i64.wrap ((Zz l at').worth*fac)⟩ (XC rest ⟨Zh at' nm,1,[],[],(Zz l at').worth⟩ true).2:=by simp[Vg,hok]
 have okY:=Zqh okR (f:=⟨Zh at' nm,1,[],[],(Zz l at').worth⟩) (Ja _) true;rw[hend];generalize XC rest ⟨Zh at' nm,1,[],[],(Zz l at').worth⟩ true=y1 at *;obtain⟨y1,b1⟩:=y1;have hQ:=Yc y1 ⟨Zh at' ot,1,[],[],IntKind.i64.wrap ((Zz l at').worth*fac)⟩ b1 okY (Ja _);simp only at *;generalize XC y1 ⟨Zh at' ot,1,[],[],IntKind.i64.wrap ((Zz l at').worth*fac)⟩ b1=y at *;obtain⟨y,b⟩:=y;by_cases k1:(Zz l at').kind=1
 ·have e1:((Zz l at').kind==1)=true:=by simpa using k1
  have e2:decide (IntKind.i64.wrap ((Zz l at').worth*fac)<1048577)=true:=by simpa[k1]using hok
  cases b;all_goals
   simp only[go_sem,refs,h,htk,Zf,hrest];refine vcy hC ?_;simp only[go_sem,refs,Zi,fld,ref,Zh,Zo,Zf];refine vDq ?_;simp only[go_sem,refs,Zi,fld,ref,Zh,Zo,Zf,e1,e2];refine vDq ?_;simp only[go_sem,refs,Zi,fld,ref,Zh,Zo,Zf];refine vcy hP ?_;simp only[go_sem,YS,refs,Zi,fld,ref,Zh,Zo,Zf];refine vcy hQ ?_;simp only[go_sem,YS,ZM,Tm,refs,Zi,fld,ref,Zh,Zo,Zf]
 simp[k1]at hok;have hgo':goes= [at']:=by rw[<-hgo];simp[Zy]
 subst hgo';have hC1:Zc ⟨7,at',nm,ot,fac,fd,fo,ba⟩= [at']:=by simp[Zc]
 rw[hC1]at hC;by_cases k1:(Zz l at').kind=2;have e1:((Zz l at').kind==2)=true:=by simpa using k1
 by_cases k2:(Zz l at').df=ot
 ·have e2:((Zz l at').df==ot)=true:=by simpa using k2
  have hend:Vg ⟨7,at',nm,ot,fac,fd,fo,ba⟩ ([at'].map (Zz l)) rest=XC rest ⟨at',4,[],[],0⟩ true:=by simp[Vg,k1,k2]
  have hP:=Yc rest ⟨at',4,[],[],0⟩ true okR (Ja _);rw[hend];generalize XC rest ⟨at',4,[],[],0⟩ true=y at *;obtain⟨y,b⟩:=y;cases b;all_goals
   simp only[go_sem,refs,h,htk,Zf,hrest];refine vcy hC ?_;simp only[go_sem,refs,Zi,fld,ref,Zh,Zo,Zf];refine vDq ?_;simp only[go_sem,refs,Zi,fld,ref,Zh,Zo,Zf,e1,e2];refine vcy hP ?_;simp only[go_sem,YS,ZM,Tm,refs,Zi,fld,ref,Zh,Zo,Zf]
 ·have e2:((Zz l at').df==ot)=false:=by simpa using k2
  have hend:Vg ⟨7,at',nm,ot,fac,fd,fo,ba⟩ ([at'].map (Zz l)) rest=XC rest ⟨at',4,[],[],0⟩ false:=by simp[Vg,k1,k2]
  have hP:=Yc rest ⟨at',4,[],[],0⟩ false okR (Ja _);rw[hend];generalize XC rest ⟨at',4,[],[],0⟩ false=y at *;obtain⟨y,b⟩:=y;cases b;all_goals
   simp only[go_sem,refs,h,htk,Zf,hrest];refine vcy hC ?_;simp only[go_sem,refs,Zi,fld,ref,Zh,Zo,Zf];refine vDq ?_;simp only[go_sem,refs,Zi,fld,ref,Zh,Zo,Zf,e1,e2];refine vcy hP ?_;simp only[go_sem,YS,ZM,Tm,refs,Zi,fld,ref,Zh,Zo,Zf]
 ·have e1:((Zz l at').kind==2)=false:=by simpa using k1
  have hend:Vg ⟨7,at',nm,ot,fac,fd,fo,ba⟩ ([at'].map (Zz l)) rest=XC rest ⟨at',4,[],[],0⟩ false:=by simp[Vg,k1]
  have hP:=Yc rest ⟨at',4,[],[],0⟩ false okR (Ja _);rw[hend];generalize XC rest ⟨at',4,[],[],0⟩ false=y at *;obtain⟨y,b⟩:=y;cases b;all_goals
   simp only[go_sem,refs,h,htk,Zf,hrest];refine vcy hC ?_;simp only[go_sem,refs,Zi,fld,ref,Zh,Zo,Zf];refine vDq ?_;simp only[go_sem,refs,Zi,fld,ref,Zh,Zo,Zf,e1];refine vcy hP ?_;simp only[go_sem,YS,ZM,Tm,refs,Zi,fld,ref,Zh,Zo,Zf]
 have hgo':goes= [at']:=by rw[<-hgo];simp[Zy]
 subst hgo';have hC1:Zc ⟨8,at',nm,ot,fac,fd,fo,ba⟩= [at']:=by simp[Zc]
 rw[hC1]at hC;have hB1:=UL fo hx.f;have hB2:=UL ba hx.b;have hS:=G2 (Zz l at').cases' (Yn fo) (by have:=Zfl hl at';rw[Zb];omega) (by rw[WO];have:=hx.f;simp only at this;rw[Zb];omega);by_cases k1:(Zz l at').kind=3;have e1:((Zz l at').kind==3)=true:=by simpa using k1
 by_cases k2:(Zz l at').df=nm;have e2:((Zz l at').df==nm)=true:=by simpa using k2
 by_cases k3:(Zz l at').cases'=Yn fo
 ·rw[decide_eq_true k3]at hS;have hend:Vg ⟨8,at',nm,ot,fac,fd,fo,ba⟩ ([at'].map (Zz l)) rest=XC rest ⟨at',3,ot,Yn ba,0⟩ true:=by simp[Vg,k1,k2,k3]
  have hP:=Yc rest ⟨at',3,ot,Yn ba,0⟩ true okR (by simp only[WO];exact hx.b);rw[hend];generalize XC rest ⟨at',3,ot,Yn ba,0⟩ true=y at *;obtain⟨y,b⟩:=y;cases b;all_goals
   simp only[go_sem,refs,h,htk,Zf,hrest];refine vcy hC ?_;simp only[go_sem,refs,Zi,fld,ref,Zh,Zo,Zf];refine vDq ?_;simp only[go_sem,refs,Zi,fld,ref,Zh,Zo,Zf,e1,e2];refine vcy hB1 ?_;simp only[go_sem,Yq,refs,Zi,fld,ref,Zh,Zo,Zf];refine vcy hS ?_;simp only[go_sem,refs,Zi,fld,ref,Zh,Zo,Zf];refine vDq ?_;simp only[go_sem,refs,Zi,fld,ref,Zh,Zo,Zf];refine vcy hB2 ?_;simp only[go_sem,Yq,refs,Zi,fld,ref,Zh,Zo,Zf];refine vcy hP ?_;simp only[go_sem,YS,ZM,Tm,refs,Zi,fld,ref,Zh,Zo,Zf]
 ·rw[decide_eq_false k3]at hS;have hend:Vg ⟨8,at',nm,ot,fac,fd,fo,ba⟩ ([at'].map (Zz l)) rest=XC rest ⟨at',3,ot,Yn ba,0⟩ false:=by simp[Vg,k1,k2,k3]
  have hP:=Yc rest ⟨at',3,ot,Yn ba,0⟩ false okR (by simp only[WO];exact hx.b);rw[hend];generalize XC rest ⟨at',3,ot,Yn ba,0⟩ false=y at *;obtain⟨y,b⟩:=y;cases b;all_goals
   simp only[go_sem,refs,h,htk,Zf,hrest];refine vcy hC ?_;simp only[go_sem,refs,Zi,fld,ref,Zh,Zo,Zf];refine vDq ?_;simp only[go_sem,refs,Zi,fld,ref,Zh,Zo,Zf,e1,e2];refine vcy hB1 ?_;simp only[go_sem,Yq,refs,Zi,fld,ref,Zh,Zo,Zf];refine vcy hS ?_;simp only[go_sem,refs,Zi,fld,ref,Zh,Zo,Zf];refine vDq ?_;simp only[go_sem,refs,Zi,fld,ref,Zh,Zo,Zf];refine vcy hB2 ?_;simp only[go_sem,Yq,refs,Zi,fld,ref,Zh,Zo,Zf];refine vcy hP ?_;simp only[go_sem,YS,ZM,Tm,refs,Zi,fld,ref,Zh,Zo,Zf]
 ·have e2:((Zz l at').df==nm)=false:=by simpa using k2
  have hend:Vg ⟨8,at',nm,ot,fac,fd,fo,ba⟩ ([at'].map (Zz l)) rest=XC rest ⟨at',3,ot,Yn ba,0⟩ false:=by simp[Vg,k1,k2]
  have hP:=Yc rest ⟨at',3,ot,Yn ba,0⟩ false okR (by simp only[WO];exact hx.b);rw[hend];generalize XC rest ⟨at',3,ot,Yn ba,0⟩ false=y at *;obtain⟨y,b⟩:=y;cases b;all_goals
   simp only[go_sem,refs,h,htk,Zf,hrest];refine vcy hC ?_;simp only[go_sem,refs,Zi,fld,ref,Zh,Zo,Zf];refine vDq ?_;simp only[go_sem,refs,Zi,fld,ref,Zh,Zo,Zf,e1,e2];refine vDq ?_;simp only[go_sem,refs,Zi,fld,ref,Zh,Zo,Zf];refine vcy hB2 ?_;simp only[go_sem,Yq,refs,Zi,fld,ref,Zh,Zo,Zf];refine vcy hP ?_;simp only[go_sem,YS,ZM,Tm,refs,Zi,fld,ref,Zh,Zo,Zf]
 ·have e1:((Zz l at').kind==3)=false:=by simpa using k1
  have hend:Vg ⟨8,at',nm,ot,fac,fd,fo,ba⟩ ([at'].map (Zz l)) rest=XC rest ⟨at',3,ot,Yn ba,0⟩ false:=by simp[Vg,k1]
  have hP:=Yc rest ⟨at',3,ot,Yn ba,0⟩ false okR (by simp only[WO];exact hx.b);rw[hend];generalize XC rest ⟨at',3,ot,Yn ba,0⟩ false=y at *;obtain⟨y,b⟩:=y;cases b;all_goals
   simp only[go_sem,refs,h,htk,Zf,hrest];refine vcy hC ?_;simp only[go_sem,refs,Zi,fld,ref,Zh,Zo,Zf];refine vDq ?_;simp only[go_sem,refs,Zi,fld,ref,Zh,Zo,Zf,e1];refine vDq ?_;simp only[go_sem,refs,Zi,fld,ref,Zh,Zo,Zf];refine vcy hB2 ?_;simp only[go_sem,Yq,refs,Zi,fld,ref,Zh,Zo,Zf];refine vcy hP ?_;simp only[go_sem,YS,ZM,Tm,refs,Zi,fld,ref,Zh,Zo,Zf]
 have hgo':goes= [Zh at' nm,Zh at' ot]:=by rw[<-hgo];simp[Zy]
 subst hgo';have hC1:Zc ⟨9,at',nm,ot,fac,fd,fo,ba⟩= [at']:=by simp[Zc]
 rw[hC1]at hC;by_cases k1:(Zz l (Zh at' nm)).kind=1;have e1:((Zz l (Zh at' nm)).kind==1)=true:=by simpa using k1
 by_cases k2:(Zz l (Zh at' ot)).kind=1;have e2:((Zz l (Zh at' ot)).kind==1)=true:=by simpa using k2
 by_cases k3:(Zz l (Zh at' ot)).worth=IntKind.i64.wrap ((Zz l (Zh at' nm)).worth*fac)
 ·have e3:((Zz l (Zh at' ot)).worth==IntKind.i64.wrap ((Zz l (Zh at' nm)).worth*fac))=true:=by simpa using k3
  have hend:Vg ⟨9,at',nm,ot,fac,fd,fo,ba⟩ ([Zh at' nm,Zh at' ot].map (Zz l)) rest=XC rest ⟨at',1,[],[],(Zz l (Zh at' nm)).worth⟩ true:=by simp[Vg,k1,k2,k3]
  have hP:=Yc rest ⟨at',1,[],[],(Zz l (Zh at' nm)).worth⟩ true okR (Ja _);rw[hend];generalize XC rest ⟨at',1,[],[],(Zz l (Zh at' nm)).worth⟩ true=y at *;obtain⟨y,b⟩:=y;cases b;all_goals
   simp only[go_sem,refs,h,htk,Zf,hrest];refine vcy hC ?_;simp only[go_sem,refs,Zi,fld,ref,Zo,Zf];refine vDq ?_;simp only[go_sem,refs,Zi,fld,ref,Zo,Zf,e1,e2,e3];refine vDq ?_;simp only[go_sem,refs,Zi,fld,ref,Zo,Zf];refine vcy hP ?_;simp only[go_sem,YS,ZM,Tm,refs,Zi,fld,ref,Zo,Zf]
 ·have e3:((Zz l (Zh at' ot)).worth==IntKind.i64.wrap ((Zz l (Zh at' nm)).worth*fac))=false:=by simpa using k3
  have hend:Vg ⟨9,at',nm,ot,fac,fd,fo,ba⟩ ([Zh at' nm,Zh at' ot].map (Zz l)) rest=XC rest ⟨at',1,[],[],(Zz l (Zh at' nm)).worth⟩ false:=by simp[Vg,k1,k2,k3]
  have hP:=Yc rest ⟨at',1,[],[],(Zz l (Zh at' nm)).worth⟩ false okR (Ja _);rw[hend];generalize XC rest ⟨at',1,[],[],(Zz l (Zh at' nm)).worth⟩ false=y at *;obtain⟨y,b⟩:=y;cases b;all_goals
   simp only[go_sem,refs,h,htk,Zf,hrest];refine vcy hC ?_;simp only[go_sem,refs,Zi,fld,ref,Zo,Zf];refine vDq ?_;simp only[go_sem,refs,Zi,fld,ref,Zo,Zf,e1,e2,e3];refine vDq ?_;simp only[go_sem,refs,Zi,fld,ref,Zo,Zf];refine vcy hP ?_;simp only[go_sem,YS,ZM,Tm,refs,Zi,fld,ref,Zo,Zf]
 ·have e2:((Zz l (Zh at' ot)).kind==1)=false:=by simpa using k2
  have hend:Vg ⟨9,at',nm,ot,fac,fd,fo,ba⟩ ([Zh at' nm,Zh at' ot].map (Zz l)) rest=XC rest ⟨at',1,[],[],(Zz l (Zh at' nm)).worth⟩ false:=by simp[Vg,k1,k2]
  have hP:=Yc rest ⟨at',1,[],[],(Zz l (Zh at' nm)).worth⟩ false okR (Ja _);rw[hend];generalize XC rest ⟨at',1,[],[],(Zz l (Zh at' nm)).worth⟩ false=y at *;obtain⟨y,b⟩:=y;cases b;all_goals
   simp only[go_sem,refs,h,htk,Zf,hrest];refine vcy hC ?_;simp only[go_sem,refs,Zi,fld,ref,Zo,Zf];refine vDq ?_;simp only[go_sem,refs,Zi,fld,ref,Zo,Zf,e1,e2];refine vDq ?_;simp only[go_sem,refs,Zi,fld,ref,Zo,Zf];refine vcy hP ?_;simp only[go_sem,YS,ZM,Tm,refs,Zi,fld,ref,Zo,Zf]
 ·have e1:((Zz l (Zh at' nm)).kind==1)=false:=by simpa using k1
  have hend:Vg ⟨9,at',nm,ot,fac,fd,fo,ba⟩ ([Zh at' nm,Zh at' ot].map (Zz l)) rest=XC rest ⟨at',1,[],[],(Zz l (Zh at' nm)).worth⟩ false:=by simp[Vg,k1]
  have hP:=Yc rest ⟨at',1,[],[],(Zz l (Zh at' nm)).worth⟩ false okR (Ja _);rw[hend];generalize XC rest ⟨at',1,[],[],(Zz l (Zh at' nm)).worth⟩ false=y at *;obtain⟨y,b⟩:=y;cases b;all_goals
   simp only[go_sem,refs,h,htk,Zf,hrest];refine vcy hC ?_;simp only[go_sem,refs,Zi,fld,ref,Zo,Zf];refine vDq ?_;simp only[go_sem,refs,Zi,fld,ref,Zo,Zf,e1];refine vDq ?_;simp only[go_sem,refs,Zi,fld,ref,Zo,Zf];refine vcy hP ?_;simp only[go_sem,YS,ZM,Tm,refs,Zi,fld,ref,Zo,Zf]
 have hgo':goes= [at']:=by rw[<-hgo];simp[Zy]
 subst hgo';have hC1:Zc ⟨10,at',nm,ot,fac,fd,fo,ba⟩= [at']:=by simp[Zc]
 rw[hC1]at hC;by_cases k1:(Zz l at').kind=4
 ·have e1:((Zz l at').kind==4)=true:=by simpa using k1
  have hend:Vg ⟨10,at',nm,ot,fac,fd,fo,ba⟩ ([at'].map (Zz l)) rest=XC rest ⟨at',2,ot,[],0⟩ true:=by simp[Vg,k1]
  have hP:=Yc rest ⟨at',2,ot,[],0⟩ true okR (Ja _);rw[hend];generalize XC rest ⟨at',2,ot,[],0⟩ true=y at *;obtain⟨y,b⟩:=y;cases b;all_goals
   simp only[go_sem,refs,h,htk,Zf,hrest];refine vcy hC ?_;simp only[go_sem,refs,Zi,fld,ref,Zh,Zo,Zf,e1];refine vDq ?_;simp only[go_sem,refs,Zi,fld,ref,Zh,Zo,Zf];refine vcy hP ?_;simp only[go_sem,YS,ZM,Tm,refs,Zi,fld,ref,Zh,Zo,Zf]
 have e1:((Zz l at').kind==4)=false:=by simpa using k1
 have hend:Vg ⟨10,at',nm,ot,fac,fd,fo,ba⟩ ([at'].map (Zz l)) rest=XC rest ⟨at',2,ot,[],0⟩ false:=by simp[Vg,k1]
 have hP:=Yc rest ⟨at',2,ot,[],0⟩ false okR (Ja _);rw[hend];generalize XC rest ⟨at',2,ot,[],0⟩ false=y at *;obtain⟨y,b⟩:=y;cases b;all_goals
  simp only[go_sem,refs,h,htk,Zf,hrest];refine vcy hC ?_;simp only[go_sem,refs,Zi,fld,ref,Zh,Zo,Zf,e1];refine vDq ?_;simp only[go_sem,refs,Zi,fld,ref,Zh,Zo,Zf];refine vcy hP ?_;simp only[go_sem,YS,ZM,Tm,refs,Zi,fld,ref,Zh,Zo,Zf]
end Go.Proofs.YtadgngamdofhiaaGreat
