/- Lemmas of the proof. -/
import Derived.Test.YtadgngamdofhiaaGreatPlH
import Derived.Test.YtadgngamdofhiaaGreatXAa
import Derived.Test.YtadgngamdofhiaaGreatXAo
open Bool renaming false→Hf
open Go.Proofs.Tryz
open Go Go.PL
open Int renaming natCast_nonneg→Jb
open List renaming map_append→Jc
open Nat renaming zero_le→Ja
open PV renaming sl→Je
namespace Go.Proofs.YtadgngamdofhiaaGreat
set_option maxHeartbeats 64000000
set_option maxRecDepth 20000
set_option linter.unusedVariables false
set_option linter.unusedSimpArgs false
open Go.PL
theorem U6 {α:Type} [Inhabited α] {l:List α} {k:Nat} (h:k<l.length):l.take (k+1)=l.take k++ [l.getD k default]:=Z0 h
theorem Zga {l:List Fd} (h:OkFs l) (r:Rf):(ZE l r).cases'.length<=1000000:=Zf9 h r
theorem Zrk {l:List Fd} (h:OkFs l) {f:Fd} (hf:f.cases'.length<=1000000) (ok:Bool):OkFs (XN l f ok).1:=ZnD h hf
def Zg (x:Ln):List PV:= [.int .i64 x.kind,.int .i64 x.at'.sc,.str x.at'.gr,.str x.at'.nm,.str x.nm,.str x.ot,.int .i64 x.fac,.int .i64 x.fd.at'.sc,.str x.fd.at'.gr,.str x.fd.at'.nm,.int .i64 x.fd.kind,.str x.fd.df,.sl .no (x.fd.cases'.map .str),.int .i64 x.fd.worth,.sl .no (x.fo.map pr),.sl .no (x.ba.map pr)]
theorem vcy {x:Bool} {M:KH} {g:FuncId} {args args':List PV} {K:KR} {r:PV} (h1:Pp g args' r) (h2:K.k r M.m) (h0:PV.givableL M.m args:=by first|(simp only[go_sem,ref,ent,Yd,doc,Yo,row,Zh,fld,lns,tg,refs,prs,pr,eg,egs,tgs,lg,lgs,tr,Zf,Zq,Zg];done)|exact rfl) (he:PV.giveL M.m args=args':=by first|(simp only[go_sem,ref,ent,Yd,doc,Yo,row,Zh,fld,lns,tg,refs,prs,pr,eg,egs,tgs,lg,lgs,tr,Zf,Zq,Zg];done)|exact rfl):@U9 prog x M (some (g,args)) K:=YD h1 h0 he h2
theorem Zaw (l:List Fd) (u:Ln) (hl:OkFs l) (hx:OkLn u):Pp 128 [Zh l,lns u] (ZP (ZR l u)):=by
 have hn:=hl.n;have hm:l.length<=maxLen:=by rw[Zb];omega
 have hR:=Uo l hm (λf hf=>by have:=hl.c f hf;rw[Zb];omega);have hL:=Un u hx;cases hrl:Z5 l;have e:ZR l u=([],5):=by unfold ZR;rw[if_pos (.inl hrl)]
 rw[e];rw[hrl]at hR;refine Zx func128 rfl ntmps128 results128 (ZN _) ?_;simp only[go_sem,Zh,lns];refine vc2 hR ?_;simp only[go_sem,ZP,Zh];rw[hrl]at hR;cases hrx:ZI u;have e:ZR l u=([],5):=by unfold ZR;rw[if_pos (.inr hrx)]
 rw[e];rw[hrx]at hL;refine Zx func128 rfl ntmps128 results128 (ZN _) ?_;simp only[go_sem,Zh,lns];refine vc2 hR ?_;simp only[go_sem];refine vc3 hL ?_;simp only[go_sem,ZP,Zh];rw[hrx]at hL;rw[Zmb hrl hrx];have hkind:=(Yi hrx).1;have hG:=Zcv u;have hC:=Zay u;have hgl:=Zba u;generalize hgo:Zt u=goes at hG hgl ⊢;have hgm:goes.length<=maxLen:=by rw[Zb];omega
 refine Zx func128 rfl ntmps128 results128 (ZN _) ?_;simp only[go_sem,Zh,lns];refine vc2 hR ?_;simp only[go_sem];refine vc3 hL ?_;simp only[go_sem,Zh];refine vc3 hG ?_;simp only[go_sem,refs];refine ZL 7 23 46 0 7 73 [] rfl rfl rfl ?_;refine Zs (ι:= { x:Nat // x<=(goes).length/\(∀r∈goes.take x,(ZD l r).2=0) }) 283 (λx=> [(0,Zh l),(3,.ptr 3 0),(6,Zh (FW (goes.take x.1) l)),(7,.sl (.row 46) (((goes.take x.1).map (ZE l)).map fld)),(8,refs goes),(9,.int .i64 (x.1:Int))]) (λx=> [(3,Zg u,Hf)]) (λx=> [(46,.live (x.1) (7) (73))]) (λx=>(goes).length-x.1) ⟨0,Ja _,by simp⟩ ⟨rfl,(Fc6 rfl rfl rfl rfl rfl rfl),(fcs ⟨rfl,rfl⟩ fnl),(fcs rfl fnl)⟩ (λx=>⟨(Fc6 rfl rfl rfl (by simp[PV.ids,ZX]) rfl rfl),(fcs rfl fnl)⟩) (λx=> ?_);obtain⟨k,hk,hI⟩:=x;simp only at hk hI ⊢;have okR:=Zrl (goes.take k) hl;by_cases h:(k:Int)<(goes.length:Int)
 (have hka:k<(goes).length:=by omega);(have w1:=Xi hka (hgm));(have i1:=Jb k)
 have hA:Pp 175 [Zh l,ref (goes.getD k default)] (.int .i64 (idx (atF (goes.getD k default)) l)):=F4 l (goes.getD k default) hm;have hW:=ZdQ (FW (goes.take k) l) (goes.getD k default) okR;have hmem:goes.getD k default∈goes:=Ze hka;rcases Y0 (atF (goes.getD k default)) l with h2|⟨g,hg,h2⟩;rw[h2]at hA;have hno:=ZrN h2;have hex:∃r∈goes,(ZD l r).2≠0:=⟨_,hmem,by rw[hno];decide⟩;rw[if_pos hex];simp only[go_sem,refs,Zh,h,Ym hka,i1,ref];refine vc2 hA ?_;simp only[go_sem,ZP,Zh]
 ·have i3:¬(g:Int)<0:=by omega
  have i4:=Jb g
  have i5:(g:Int)<(l.length:Int):=by omega
  rw[h2]at hA;have hfa:=ZrM h2;have hpk:ZE l (goes.getD k default)=l.getD g default:=by unfold ZE;rw[hfa]
  have hnx:∀r∈goes.take (k+1),(ZD l r).2=0:=by
   intro r hr;rw[U6 hka]at hr;rcases List.mem_append.1 hr with hr|hr;exact hI r hr;rw[List.mem_singleton.1 hr,hfa]
  have hln:((goes.take k).map (ZE l)).length=k:=by simp;omega
  have hrm:=Ya (show k+1<=1000000 by omega) (show 96<=1000 by omega);simp only[go_sem,refs,Zh,h,Ym hka,i1,ref];refine vc2 hA ?_;simp only[go_sem,i3,i4,i5,Zy hg,fld,YP,hln,hrm,refs,h,i1,Ym hka,ref];refine vc2 hW ?_;simp only[go_sem,ZP,w1];exact⟨⟨k+1,by(try simp only);omega,hnx⟩,by show(goes).length-(k+1)<(goes).length-k;omega,⟨rfl,(Fc6 rfl rfl (by(show Je _ _=Je _ _;rw[U6 hka,Zdk])) (by(show Je _ _=Je _ _;rw[U6 hka,Jc,Jc,List.map_cons,List.map_nil,hpk];rfl)) rfl rfl),(fcs ⟨rfl,rfl⟩ fnl),(fcs rfl fnl)⟩⟩
 obtain rfl:k=goes.length:=by omega
 have htk:goes.take goes.length=goes:=List.take_length;rw[htk]at hI okR;have hno:¬ ∃r∈goes,(ZD l r).2≠0:=λ⟨r,hr,hn⟩=>hn (hI r hr)
 rw[if_neg hno];generalize hrest:FW goes l=rest at okR;obtain⟨kind,at',nm,ot,fac,fd,fo,ba⟩:=u;simp only at hkind;clear hgm hgl;rcases hkind with rfl|rfl|rfl|rfl|rfl|rfl|rfl|rfl|rfl|rfl
 ·have hgo':goes= [at']:=by rw[<-hgo];simp[Zt]
  subst hgo';have hC1:Zc ⟨1,at',nm,ot,fac,fd,fo,ba⟩= [Zf at' nm]:=by simp[Zc]
  rw[hC1]at hC;have hM:=S9 (ZE l at') (Zf at' nm);have hend:VA ⟨1,at',nm,ot,fac,fd,fo,ba⟩ ([at'].map (ZE l)) rest=XN rest (Zq (ZE l at') (Zf at' nm)) true:=by simp[VA,Zc]
  have hP:=Yk rest (Zq (ZE l at') (Zf at' nm)) true okR (Zga hl at');rw[hend];generalize XN rest (Zq (ZE l at') (Zf at' nm)) true=y at *;obtain⟨y,b⟩:=y;cases b;all_goals
   simp only[go_sem,refs,h,htk,Zg,hrest];refine vcy hC ?_;simp only[go_sem,refs,Zh,fld,ref,Zf,Zq,Zg];refine vDq ?_;simp only[go_sem,refs,Zh,fld,ref,Zf,Zq,Zg];refine vcy hM ?_
   (try simp only[go_sem,refs,Zh,fld,ref,Zf,Zq,Zg])
   refine vcy hP ?_;simp only[go_sem,YZ,ZP,TO,refs,Zh,fld,ref,Zf,Zq,Zg]
 ·have hgo':goes= []:=by rw[<-hgo];simp[Zt]
  subst hgo';have hC1:Zc ⟨2,at',nm,ot,fac,fd,fo,ba⟩= [fd.at']:=by simp[Zc]
  rw[hC1]at hC;have hend:VA ⟨2,at',nm,ot,fac,fd,fo,ba⟩ (List.map (ZE l) []) rest=XN rest fd true:=by simp[VA]
  have hP:=Yk rest fd true okR hx.c;rw[hend];generalize XN rest fd true=y at *;obtain⟨y,b⟩:=y;cases b;all_goals
   simp only[go_sem,refs,h,htk,Zg,hrest];refine vcy hC ?_;simp only[go_sem,refs,Zh,fld,ref,Zf,Zq,Zg];refine vcy hP ?_;simp only[go_sem,YZ,ZP,TO,refs,Zh,fld,ref,Zf,Zq,Zg]
 ·have hgo':goes= [fd.at']:=by rw[<-hgo];simp[Zt]
  subst hgo';have hC1:Zc ⟨3,at',nm,ot,fac,fd,fo,ba⟩= []:=by simp[Zc]
  rw[hC1]at hC;have hE:=S6 (ZE l fd.at') fd (by have:=Zga hl fd.at';rw[Zb];omega) (by have:=hx.c;simp only at this;rw[Zb];omega);have hend:VA ⟨3,at',nm,ot,fac,fd,fo,ba⟩ ([fd.at'].map (ZE l)) rest=(rest,decide (ZE l fd.at'=fd)):=by simp[VA]
  rw[hend];cases hb:decide (ZE l fd.at'=fd);all_goals
   rw[hb]at hE;simp only[go_sem,refs,h,htk,Zg,hrest];refine vcy hC ?_;simp only[go_sem,refs,Zh,fld,ref,Zf,Zq,Zg];refine vDq ?_;simp only[go_sem,refs,Zh,fld,ref,Zf,Zq,Zg];refine vcy hE ?_;simp only[go_sem,YZ,ZP,TO,refs,Zh,fld,ref,Zf,Zq,Zg]
 ·have hgo':goes= [at']:=by rw[<-hgo];simp[Zt]
  subst hgo';have hC1:Zc ⟨4,at',nm,ot,fac,fd,fo,ba⟩= [⟨at'.sc,[],at'.nm⟩]:=by simp[Zc]
  rw[hC1]at hC;have hM:=S9 (ZE l at') (⟨at'.sc,[],at'.nm⟩);have hend:VA ⟨4,at',nm,ot,fac,fd,fo,ba⟩ ([at'].map (ZE l)) rest=XN rest (Zq (ZE l at') (⟨at'.sc,[],at'.nm⟩)) true:=by simp[VA,Zc]
  have hP:=Yk rest (Zq (ZE l at') (⟨at'.sc,[],at'.nm⟩)) true okR (Zga hl at');rw[hend];generalize XN rest (Zq (ZE l at') (⟨at'.sc,[],at'.nm⟩)) true=y at *;obtain⟨y,b⟩:=y;cases b;all_goals
   simp only[go_sem,refs,h,htk,Zg,hrest];refine vcy hC ?_;simp only[go_sem,refs,Zh,fld,ref,Zf,Zq,Zg];refine vDq ?_;simp only[go_sem,refs,Zh,fld,ref,Zf,Zq,Zg];refine vcy hM ?_
   (try simp only[go_sem,refs,Zh,fld,ref,Zf,Zq,Zg])
   refine vcy hP ?_;simp only[go_sem,YZ,ZP,TO,refs,Zh,fld,ref,Zf,Zq,Zg]
 ·have hgo':goes= [at']:=by rw[<-hgo];simp[Zt]
  subst hgo';have hC1:Zc ⟨5,at',nm,ot,fac,fd,fo,ba⟩= [⟨at'.sc,nm,at'.nm⟩]:=by simp[Zc]
  rw[hC1]at hC;have hM:=S9 (ZE l at') (⟨at'.sc,nm,at'.nm⟩);have hend:VA ⟨5,at',nm,ot,fac,fd,fo,ba⟩ ([at'].map (ZE l)) rest=XN rest (Zq (ZE l at') (⟨at'.sc,nm,at'.nm⟩)) true:=by simp[VA,Zc]
  have hP:=Yk rest (Zq (ZE l at') (⟨at'.sc,nm,at'.nm⟩)) true okR (Zga hl at');rw[hend];generalize XN rest (Zq (ZE l at') (⟨at'.sc,nm,at'.nm⟩)) true=y at *;obtain⟨y,b⟩:=y;cases b;all_goals
   simp only[go_sem,refs,h,htk,Zg,hrest];refine vcy hC ?_;simp only[go_sem,refs,Zh,fld,ref,Zf,Zq,Zg];refine vDq ?_;simp only[go_sem,refs,Zh,fld,ref,Zf,Zq,Zg];refine vcy hM ?_
   (try simp only[go_sem,refs,Zh,fld,ref,Zf,Zq,Zg])
   refine vcy hP ?_;simp only[go_sem,YZ,ZP,TO,refs,Zh,fld,ref,Zf,Zq,Zg]
 have hgo':goes= [at']:=by rw[<-hgo];simp[Zt]
 subst hgo';have hC1:Zc ⟨6,at',nm,ot,fac,fd,fo,ba⟩= [Zf at' nm,Zf at' ot]:=by simp[Zc]
 rw[hC1]at hC;cases hok:(decide ((ZE l at').kind=1)&&decide (IntKind.i64.wrap ((ZE l at').worth*fac)<1048577));have hP:=Yk rest ⟨Zf at' nm,1,[],[],(ZE l at').worth⟩ Hf okR (Ja _);have hend:VA ⟨6,at',nm,ot,fac,fd,fo,ba⟩ ([at'].map (ZE l)) rest=XN (XN rest ⟨Zf at' nm,1,[],[],(ZE l at').worth⟩ Hf).1 ⟨Zf at' ot,1,[],[],IntKind.i64.wrap ((ZE l at').worth*fac)⟩ (XN rest ⟨Zf at' nm,1,[],[],(ZE l at').worth⟩ Hf).2:=by simp[VA,hok]
 have okY:=Zrk okR (f:=⟨Zf at' nm,1,[],[],(ZE l at').worth⟩) (Ja _) Hf;rw[hend];generalize XN rest ⟨Zf at' nm,1,[],[],(ZE l at').worth⟩ Hf=y1 at *;obtain⟨y1,b1⟩:=y1;have hQ:=Yk y1 ⟨Zf at' ot,1,[],[],IntKind.i64.wrap ((ZE l at').worth*fac)⟩ b1 okY (Ja _);simp only at *;generalize XN y1 ⟨Zf at' ot,1,[],[],IntKind.i64.wrap ((ZE l at').worth*fac)⟩ b1=y at *;obtain⟨y,b⟩:=y;by_cases k1:(ZE l at').kind=1
 ·have e1:((ZE l at').kind==1)=true:=by simpa using k1
  have e2:decide (IntKind.i64.wrap ((ZE l at').worth*fac)<1048577)=false:=by simpa[k1]using hok
  cases b;all_goals
   simp only[go_sem,refs,h,htk,Zg,hrest];refine vcy hC ?_;simp only[go_sem,refs,Zh,fld,ref,Zf,Zq,Zg];refine vDq ?_;simp only[go_sem,refs,Zh,fld,ref,Zf,Zq,Zg,e1,e2];refine vDq ?_;simp only[go_sem,refs,Zh,fld,ref,Zf,Zq,Zg];refine vcy hP ?_;simp only[go_sem,YZ,refs,Zh,fld,ref,Zf,Zq,Zg];refine vcy hQ ?_;simp only[go_sem,YZ,ZP,TO,refs,Zh,fld,ref,Zf,Zq,Zg]
 ·have e1:((ZE l at').kind==1)=false:=by simpa using k1
  cases b;all_goals
   simp only[go_sem,refs,h,htk,Zg,hrest];refine vcy hC ?_;simp only[go_sem,refs,Zh,fld,ref,Zf,Zq,Zg];refine vDq ?_;simp only[go_sem,refs,Zh,fld,ref,Zf,Zq,Zg,e1];refine vDq ?_;simp only[go_sem,refs,Zh,fld,ref,Zf,Zq,Zg];refine vcy hP ?_;simp only[go_sem,YZ,refs,Zh,fld,ref,Zf,Zq,Zg];refine vcy hQ ?_;simp only[go_sem,YZ,ZP,TO,refs,Zh,fld,ref,Zf,Zq,Zg]
 have hP:=Yk rest ⟨Zf at' nm,1,[],[],(ZE l at').worth⟩ true okR (Ja _);have hend:VA ⟨6,at',nm,ot,fac,fd,fo,ba⟩ ([at'].map (ZE l)) rest=XN (XN rest ⟨Zf at' nm,1,[],[],(ZE l at').worth⟩ true).1 ⟨Zf at' ot,1,[],[],IntKind.i64.wrap ((ZE l at').worth*fac)⟩ (XN rest ⟨Zf at' nm,1,[],[],(ZE l at').worth⟩ true).2:=by simp[VA,hok]
 have okY:=Zrk okR (f:=⟨Zf at' nm,1,[],[],(ZE l at').worth⟩) (Ja _) true;rw[hend];generalize XN rest ⟨Zf at' nm,1,[],[],(ZE l at').worth⟩ true=y1 at *;obtain⟨y1,b1⟩:=y1;have hQ:=Yk y1 ⟨Zf at' ot,1,[],[],IntKind.i64.wrap ((ZE l at').worth*fac)⟩ b1 okY (Ja _);simp only at *;generalize XN y1 ⟨Zf at' ot,1,[],[],IntKind.i64.wrap ((ZE l at').worth*fac)⟩ b1=y at *;obtain⟨y,b⟩:=y;by_cases k1:(ZE l at').kind=1
 ·have e1:((ZE l at').kind==1)=true:=by simpa using k1
  have e2:decide (IntKind.i64.wrap ((ZE l at').worth*fac)<1048577)=true:=by simpa[k1]using hok
  cases b;all_goals
   simp only[go_sem,refs,h,htk,Zg,hrest];refine vcy hC ?_;simp only[go_sem,refs,Zh,fld,ref,Zf,Zq,Zg];refine vDq ?_;simp only[go_sem,refs,Zh,fld,ref,Zf,Zq,Zg,e1,e2];refine vDq ?_;simp only[go_sem,refs,Zh,fld,ref,Zf,Zq,Zg];refine vcy hP ?_;simp only[go_sem,YZ,refs,Zh,fld,ref,Zf,Zq,Zg];refine vcy hQ ?_;simp only[go_sem,YZ,ZP,TO,refs,Zh,fld,ref,Zf,Zq,Zg]
 simp[k1]at hok;have hgo':goes= [at']:=by rw[<-hgo];simp[Zt]
 subst hgo';have hC1:Zc ⟨7,at',nm,ot,fac,fd,fo,ba⟩= [at']:=by simp[Zc]
 rw[hC1]at hC;by_cases k1:(ZE l at').kind=2;have e1:((ZE l at').kind==2)=true:=by simpa using k1
 by_cases k2:(ZE l at').df=ot
 ·have e2:((ZE l at').df==ot)=true:=by simpa using k2
  have hend:VA ⟨7,at',nm,ot,fac,fd,fo,ba⟩ ([at'].map (ZE l)) rest=XN rest ⟨at',4,[],[],0⟩ true:=by simp[VA,k1,k2]
  have hP:=Yk rest ⟨at',4,[],[],0⟩ true okR (Ja _);rw[hend];generalize XN rest ⟨at',4,[],[],0⟩ true=y at *;obtain⟨y,b⟩:=y;cases b;all_goals
   simp only[go_sem,refs,h,htk,Zg,hrest];refine vcy hC ?_;simp only[go_sem,refs,Zh,fld,ref,Zf,Zq,Zg];refine vDq ?_;simp only[go_sem,refs,Zh,fld,ref,Zf,Zq,Zg,e1,e2];refine vcy hP ?_;simp only[go_sem,YZ,ZP,TO,refs,Zh,fld,ref,Zf,Zq,Zg]
 ·have e2:((ZE l at').df==ot)=false:=by simpa using k2
  have hend:VA ⟨7,at',nm,ot,fac,fd,fo,ba⟩ ([at'].map (ZE l)) rest=XN rest ⟨at',4,[],[],0⟩ false:=by simp[VA,k1,k2]
  have hP:=Yk rest ⟨at',4,[],[],0⟩ Hf okR (Ja _);rw[hend];generalize XN rest ⟨at',4,[],[],0⟩ Hf=y at *;obtain⟨y,b⟩:=y;cases b;all_goals
   simp only[go_sem,refs,h,htk,Zg,hrest];refine vcy hC ?_;simp only[go_sem,refs,Zh,fld,ref,Zf,Zq,Zg];refine vDq ?_;simp only[go_sem,refs,Zh,fld,ref,Zf,Zq,Zg,e1,e2];refine vcy hP ?_;simp only[go_sem,YZ,ZP,TO,refs,Zh,fld,ref,Zf,Zq,Zg]
 ·have e1:((ZE l at').kind==2)=false:=by simpa using k1
  have hend:VA ⟨7,at',nm,ot,fac,fd,fo,ba⟩ ([at'].map (ZE l)) rest=XN rest ⟨at',4,[],[],0⟩ false:=by simp[VA,k1]
  have hP:=Yk rest ⟨at',4,[],[],0⟩ Hf okR (Ja _);rw[hend];generalize XN rest ⟨at',4,[],[],0⟩ Hf=y at *;obtain⟨y,b⟩:=y;cases b;all_goals
   simp only[go_sem,refs,h,htk,Zg,hrest];refine vcy hC ?_;simp only[go_sem,refs,Zh,fld,ref,Zf,Zq,Zg];refine vDq ?_;simp only[go_sem,refs,Zh,fld,ref,Zf,Zq,Zg,e1];refine vcy hP ?_;simp only[go_sem,YZ,ZP,TO,refs,Zh,fld,ref,Zf,Zq,Zg]
 have hgo':goes= [at']:=by rw[<-hgo];simp[Zt]
 subst hgo';have hC1:Zc ⟨8,at',nm,ot,fac,fd,fo,ba⟩= [at']:=by simp[Zc]
 rw[hC1]at hC;have hB1:=Tc fo hx.f;have hB2:=Tc ba hx.b;have hS:=DG (ZE l at').cases' (Yt fo) (by have:=Zga hl at';rw[Zb];omega) (by rw[W8];have:=hx.f;simp only at this;rw[Zb];omega);by_cases k1:(ZE l at').kind=3;have e1:((ZE l at').kind==3)=true:=by simpa using k1
 by_cases k2:(ZE l at').df=nm;have e2:((ZE l at').df==nm)=true:=by simpa using k2
 by_cases k3:(ZE l at').cases'=Yt fo
 ·rw[decide_eq_true k3]at hS;have hend:VA ⟨8,at',nm,ot,fac,fd,fo,ba⟩ ([at'].map (ZE l)) rest=XN rest ⟨at',3,ot,Yt ba,0⟩ true:=by simp[VA,k1,k2,k3]
  have hP:=Yk rest ⟨at',3,ot,Yt ba,0⟩ true okR (by simp only[W8];exact hx.b);rw[hend];generalize XN rest ⟨at',3,ot,Yt ba,0⟩ true=y at *;obtain⟨y,b⟩:=y;cases b;all_goals
   simp only[go_sem,refs,h,htk,Zg,hrest];refine vcy hC ?_;simp only[go_sem,refs,Zh,fld,ref,Zf,Zq,Zg];refine vDq ?_;simp only[go_sem,refs,Zh,fld,ref,Zf,Zq,Zg,e1,e2];refine vcy hB1 ?_;simp only[go_sem,Yo,refs,Zh,fld,ref,Zf,Zq,Zg];refine vcy hS ?_;simp only[go_sem,refs,Zh,fld,ref,Zf,Zq,Zg];refine vDq ?_;simp only[go_sem,refs,Zh,fld,ref,Zf,Zq,Zg];refine vcy hB2 ?_;simp only[go_sem,Yo,refs,Zh,fld,ref,Zf,Zq,Zg];refine vcy hP ?_;simp only[go_sem,YZ,ZP,TO,refs,Zh,fld,ref,Zf,Zq,Zg]
 ·rw[decide_eq_false k3]at hS;have hend:VA ⟨8,at',nm,ot,fac,fd,fo,ba⟩ ([at'].map (ZE l)) rest=XN rest ⟨at',3,ot,Yt ba,0⟩ false:=by simp[VA,k1,k2,k3]
  have hP:=Yk rest ⟨at',3,ot,Yt ba,0⟩ Hf okR (by simp only[W8];exact hx.b);rw[hend];generalize XN rest ⟨at',3,ot,Yt ba,0⟩ Hf=y at *;obtain⟨y,b⟩:=y;cases b;all_goals
   simp only[go_sem,refs,h,htk,Zg,hrest];refine vcy hC ?_;simp only[go_sem,refs,Zh,fld,ref,Zf,Zq,Zg];refine vDq ?_;simp only[go_sem,refs,Zh,fld,ref,Zf,Zq,Zg,e1,e2];refine vcy hB1 ?_;simp only[go_sem,Yo,refs,Zh,fld,ref,Zf,Zq,Zg];refine vcy hS ?_;simp only[go_sem,refs,Zh,fld,ref,Zf,Zq,Zg];refine vDq ?_;simp only[go_sem,refs,Zh,fld,ref,Zf,Zq,Zg];refine vcy hB2 ?_;simp only[go_sem,Yo,refs,Zh,fld,ref,Zf,Zq,Zg];refine vcy hP ?_;simp only[go_sem,YZ,ZP,TO,refs,Zh,fld,ref,Zf,Zq,Zg]
 ·have e2:((ZE l at').df==nm)=false:=by simpa using k2
  have hend:VA ⟨8,at',nm,ot,fac,fd,fo,ba⟩ ([at'].map (ZE l)) rest=XN rest ⟨at',3,ot,Yt ba,0⟩ false:=by simp[VA,k1,k2]
  have hP:=Yk rest ⟨at',3,ot,Yt ba,0⟩ Hf okR (by simp only[W8];exact hx.b);rw[hend];generalize XN rest ⟨at',3,ot,Yt ba,0⟩ Hf=y at *;obtain⟨y,b⟩:=y;cases b;all_goals
   simp only[go_sem,refs,h,htk,Zg,hrest];refine vcy hC ?_;simp only[go_sem,refs,Zh,fld,ref,Zf,Zq,Zg];refine vDq ?_;simp only[go_sem,refs,Zh,fld,ref,Zf,Zq,Zg,e1,e2];refine vDq ?_;simp only[go_sem,refs,Zh,fld,ref,Zf,Zq,Zg];refine vcy hB2 ?_;simp only[go_sem,Yo,refs,Zh,fld,ref,Zf,Zq,Zg];refine vcy hP ?_;simp only[go_sem,YZ,ZP,TO,refs,Zh,fld,ref,Zf,Zq,Zg]
 ·have e1:((ZE l at').kind==3)=false:=by simpa using k1
  have hend:VA ⟨8,at',nm,ot,fac,fd,fo,ba⟩ ([at'].map (ZE l)) rest=XN rest ⟨at',3,ot,Yt ba,0⟩ false:=by simp[VA,k1]
  have hP:=Yk rest ⟨at',3,ot,Yt ba,0⟩ Hf okR (by simp only[W8];exact hx.b);rw[hend];generalize XN rest ⟨at',3,ot,Yt ba,0⟩ Hf=y at *;obtain⟨y,b⟩:=y;cases b;all_goals
   simp only[go_sem,refs,h,htk,Zg,hrest];refine vcy hC ?_;simp only[go_sem,refs,Zh,fld,ref,Zf,Zq,Zg];refine vDq ?_;simp only[go_sem,refs,Zh,fld,ref,Zf,Zq,Zg,e1];refine vDq ?_;simp only[go_sem,refs,Zh,fld,ref,Zf,Zq,Zg];refine vcy hB2 ?_;simp only[go_sem,Yo,refs,Zh,fld,ref,Zf,Zq,Zg];refine vcy hP ?_;simp only[go_sem,YZ,ZP,TO,refs,Zh,fld,ref,Zf,Zq,Zg]
 have hgo':goes= [Zf at' nm,Zf at' ot]:=by rw[<-hgo];simp[Zt]
 subst hgo';have hC1:Zc ⟨9,at',nm,ot,fac,fd,fo,ba⟩= [at']:=by simp[Zc]
 rw[hC1]at hC;by_cases k1:(ZE l (Zf at' nm)).kind=1;have e1:((ZE l (Zf at' nm)).kind==1)=true:=by simpa using k1
 by_cases k2:(ZE l (Zf at' ot)).kind=1;have e2:((ZE l (Zf at' ot)).kind==1)=true:=by simpa using k2
 by_cases k3:(ZE l (Zf at' ot)).worth=IntKind.i64.wrap ((ZE l (Zf at' nm)).worth*fac)
 ·have e3:((ZE l (Zf at' ot)).worth==IntKind.i64.wrap ((ZE l (Zf at' nm)).worth*fac))=true:=by simpa using k3
  have hend:VA ⟨9,at',nm,ot,fac,fd,fo,ba⟩ ([Zf at' nm,Zf at' ot].map (ZE l)) rest=XN rest ⟨at',1,[],[],(ZE l (Zf at' nm)).worth⟩ true:=by simp[VA,k1,k2,k3]
  have hP:=Yk rest ⟨at',1,[],[],(ZE l (Zf at' nm)).worth⟩ true okR (Ja _);rw[hend];generalize XN rest ⟨at',1,[],[],(ZE l (Zf at' nm)).worth⟩ true=y at *;obtain⟨y,b⟩:=y;cases b;all_goals
   simp only[go_sem,refs,h,htk,Zg,hrest];refine vcy hC ?_;simp only[go_sem,refs,Zh,fld,ref,Zq,Zg];refine vDq ?_;simp only[go_sem,refs,Zh,fld,ref,Zq,Zg,e1,e2,e3];refine vDq ?_;simp only[go_sem,refs,Zh,fld,ref,Zq,Zg];refine vcy hP ?_;simp only[go_sem,YZ,ZP,TO,refs,Zh,fld,ref,Zq,Zg]
 ·have e3:((ZE l (Zf at' ot)).worth==IntKind.i64.wrap ((ZE l (Zf at' nm)).worth*fac))=false:=by simpa using k3
  have hend:VA ⟨9,at',nm,ot,fac,fd,fo,ba⟩ ([Zf at' nm,Zf at' ot].map (ZE l)) rest=XN rest ⟨at',1,[],[],(ZE l (Zf at' nm)).worth⟩ false:=by simp[VA,k1,k2,k3]
  have hP:=Yk rest ⟨at',1,[],[],(ZE l (Zf at' nm)).worth⟩ Hf okR (Ja _);rw[hend];generalize XN rest ⟨at',1,[],[],(ZE l (Zf at' nm)).worth⟩ Hf=y at *;obtain⟨y,b⟩:=y;cases b;all_goals
   simp only[go_sem,refs,h,htk,Zg,hrest];refine vcy hC ?_;simp only[go_sem,refs,Zh,fld,ref,Zq,Zg];refine vDq ?_;simp only[go_sem,refs,Zh,fld,ref,Zq,Zg,e1,e2,e3];refine vDq ?_;simp only[go_sem,refs,Zh,fld,ref,Zq,Zg];refine vcy hP ?_;simp only[go_sem,YZ,ZP,TO,refs,Zh,fld,ref,Zq,Zg]
 ·have e2:((ZE l (Zf at' ot)).kind==1)=false:=by simpa using k2
  have hend:VA ⟨9,at',nm,ot,fac,fd,fo,ba⟩ ([Zf at' nm,Zf at' ot].map (ZE l)) rest=XN rest ⟨at',1,[],[],(ZE l (Zf at' nm)).worth⟩ false:=by simp[VA,k1,k2]
  have hP:=Yk rest ⟨at',1,[],[],(ZE l (Zf at' nm)).worth⟩ Hf okR (Ja _);rw[hend];generalize XN rest ⟨at',1,[],[],(ZE l (Zf at' nm)).worth⟩ Hf=y at *;obtain⟨y,b⟩:=y;cases b;all_goals
   simp only[go_sem,refs,h,htk,Zg,hrest];refine vcy hC ?_;simp only[go_sem,refs,Zh,fld,ref,Zq,Zg];refine vDq ?_;simp only[go_sem,refs,Zh,fld,ref,Zq,Zg,e1,e2];refine vDq ?_;simp only[go_sem,refs,Zh,fld,ref,Zq,Zg];refine vcy hP ?_;simp only[go_sem,YZ,ZP,TO,refs,Zh,fld,ref,Zq,Zg]
 ·have e1:((ZE l (Zf at' nm)).kind==1)=false:=by simpa using k1
  have hend:VA ⟨9,at',nm,ot,fac,fd,fo,ba⟩ ([Zf at' nm,Zf at' ot].map (ZE l)) rest=XN rest ⟨at',1,[],[],(ZE l (Zf at' nm)).worth⟩ false:=by simp[VA,k1]
  have hP:=Yk rest ⟨at',1,[],[],(ZE l (Zf at' nm)).worth⟩ Hf okR (Ja _);rw[hend];generalize XN rest ⟨at',1,[],[],(ZE l (Zf at' nm)).worth⟩ Hf=y at *;obtain⟨y,b⟩:=y;cases b;all_goals
   simp only[go_sem,refs,h,htk,Zg,hrest];refine vcy hC ?_;simp only[go_sem,refs,Zh,fld,ref,Zq,Zg];refine vDq ?_;simp only[go_sem,refs,Zh,fld,ref,Zq,Zg,e1];refine vDq ?_;simp only[go_sem,refs,Zh,fld,ref,Zq,Zg];refine vcy hP ?_;simp only[go_sem,YZ,ZP,TO,refs,Zh,fld,ref,Zq,Zg]
 have hgo':goes= [at']:=by rw[<-hgo];simp[Zt]
 subst hgo';have hC1:Zc ⟨10,at',nm,ot,fac,fd,fo,ba⟩= [at']:=by simp[Zc]
 rw[hC1]at hC;by_cases k1:(ZE l at').kind=4
 ·have e1:((ZE l at').kind==4)=true:=by simpa using k1
  have hend:VA ⟨10,at',nm,ot,fac,fd,fo,ba⟩ ([at'].map (ZE l)) rest=XN rest ⟨at',2,ot,[],0⟩ true:=by simp[VA,k1]
  have hP:=Yk rest ⟨at',2,ot,[],0⟩ true okR (Ja _);rw[hend];generalize XN rest ⟨at',2,ot,[],0⟩ true=y at *;obtain⟨y,b⟩:=y;cases b;all_goals
   simp only[go_sem,refs,h,htk,Zg,hrest];refine vcy hC ?_;simp only[go_sem,refs,Zh,fld,ref,Zf,Zq,Zg,e1];refine vDq ?_;simp only[go_sem,refs,Zh,fld,ref,Zf,Zq,Zg];refine vcy hP ?_;simp only[go_sem,YZ,ZP,TO,refs,Zh,fld,ref,Zf,Zq,Zg]
 have e1:((ZE l at').kind==4)=false:=by simpa using k1
 have hend:VA ⟨10,at',nm,ot,fac,fd,fo,ba⟩ ([at'].map (ZE l)) rest=XN rest ⟨at',2,ot,[],0⟩ false:=by simp[VA,k1]
 have hP:=Yk rest ⟨at',2,ot,[],0⟩ Hf okR (Ja _);rw[hend];generalize XN rest ⟨at',2,ot,[],0⟩ Hf=y at *;obtain⟨y,b⟩:=y;cases b;all_goals
  simp only[go_sem,refs,h,htk,Zg,hrest];refine vcy hC ?_;simp only[go_sem,refs,Zh,fld,ref,Zf,Zq,Zg,e1];refine vDq ?_;simp only[go_sem,refs,Zh,fld,ref,Zf,Zq,Zg];refine vcy hP ?_;simp only[go_sem,YZ,ZP,TO,refs,Zh,fld,ref,Zf,Zq,Zg]
end Go.Proofs.YtadgngamdofhiaaGreat
