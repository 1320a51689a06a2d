/- Lemmas of the proof. -/
import Derived.Test.YtepchngegclagaaGreatPlH
import Derived.Test.YtepchngegclagaaGreatXAa
import Derived.Test.YtepchngegclagaaGreatXAi
open Bool renaming false→Hf
open Go.Proofs.Tryz
open Go Go.PL
open Int renaming natCast_nonneg→Jb
open List renaming map_append→Jc
open Nat renaming zero_le→Ja
open PV renaming sl→Je
namespace Go.Proofs.YtepchngegclagaaGreat
set_option maxHeartbeats 64000000
set_option maxRecDepth 20000
set_option linter.unusedVariables false
set_option linter.unusedSimpArgs false
open Go.PL
theorem UN {α:Type} [Inhabited α] {l:List α} {k:Nat} (h:k<l.length):l.take (k+1)=l.take k++ [l.getD k default]:=Yx h
theorem Zex {l:List Fd} (h:OkFs l) (r:Rf):(Zw l r).cases'.length<=1000000:=Zew h r
theorem Zn9 {l:List Fd} (h:OkFs l) {f:Fd} (hf:f.cases'.length<=1000000) (ok:Bool):OkFs (XA l f ok).1:=ZkJ h hf
def Zg (x:Ln):List PV:= [.int .i64 x.kind,.int .i64 x.at'.sc,.str x.at'.gr,.str x.at'.nm,.str x.nm,.str x.ot,.int .i64 x.fac,.int .i64 x.fd.at'.sc,.str x.fd.at'.gr,.str x.fd.at'.nm,.int .i64 x.fd.kind,.str x.fd.df,.sl .no (x.fd.cases'.map .str),.int .i64 x.fd.worth,.sl .no (x.fo.map pr),.sl .no (x.ba.map pr)]
theorem vcy {x:Bool} {M:KH} {g:FuncId} {args args':List PV} {K:KR} {r:PV} (h1:Pp g args' r) (h2:K.k r M.m) (h0:PV.givableL M.m args:=by first|(simp only[go_sem,ref,ent,DK,doc,Y3,row,Zh,fld,lns,tg,refs,prs,pr,eg,egs,tgs,lg,lgs,tr,Zk,Zn,Zg];done)|exact rfl) (he:PV.giveL M.m args=args':=by first|(simp only[go_sem,ref,ent,DK,doc,Y3,row,Zh,fld,lns,tg,refs,prs,pr,eg,egs,tgs,lg,lgs,tr,Zk,Zn,Zg];done)|exact rfl):@WX prog x M (some (g,args)) K:=Zl h1 h0 he h2
theorem Fz (l:List Fd) (u:Ln) (hl:OkFs l) (hx:OkLn u):Pp 146 [Zh l,lns u] (ZC (Yb l u)):=by
 have hn:=hl.n;have hm:l.length<=maxLen:=by rw[Zc];omega
 have hR:=TA l hm (λf hf=>by have:=hl.c f hf;rw[Zc];omega);have hL:=Uc u hx;cases hrl:Z7 l;have e:Yb l u=([],5):=by unfold Yb;rw[if_pos (.inl hrl)]
 rw[e];rw[hrl]at hR;refine ZB func146 rfl ntmps146 results146 (ZD _) ?_;simp only[go_sem,Zh,lns];refine vc2 hR ?_;simp only[go_sem,ZC,Zh];rw[hrl]at hR;cases hrx:ZG u;have e:Yb l u=([],5):=by unfold Yb;rw[if_pos (.inr hrx)]
 rw[e];rw[hrx]at hL;refine ZB func146 rfl ntmps146 results146 (ZD _) ?_;simp only[go_sem,Zh,lns];refine vc2 hR ?_;simp only[go_sem];refine vc3 hL ?_;simp only[go_sem,ZC,Zh];rw[hrx]at hL;rw[ZjD hrl hrx];have hkind:=(Wc hrx).1;have hG:=Zbk u;have hC:=FB u;have hgl:=F4 u;generalize hgo:ZE u=goes at hG hgl ⊢;have hgm:goes.length<=maxLen:=by rw[Zc];omega
 refine ZB func146 rfl ntmps146 results146 (ZD _) ?_;simp only[go_sem,Zh,lns];refine vc2 hR ?_;simp only[go_sem];refine vc3 hL ?_;simp only[go_sem,Zh];refine vc3 hG ?_;simp only[go_sem,refs];refine ZR 7 23 46 0 7 30 [] rfl rfl rfl ?_;refine ZA (ι:= { x:Nat // x<=(goes).length/\(∀r∈goes.take x,(Zv l r).2=0) }) 283 (λx=> [(0,Zh l),(3,.ptr 3 0),(6,Zh (D8 (goes.take x.1) l)),(7,.sl (.row 46) (((goes.take x.1).map (Zw l)).map fld)),(8,refs goes),(9,.int .i64 (x.1:Int))]) (λx=> [(3,Zg u,Hf)]) (λx=> [(46,.live (x.1) (7) (30))]) (λx=>(goes).length-x.1) ⟨0,Ja _,by simp⟩ ⟨rfl,(Fc6 rfl rfl rfl rfl rfl rfl),(fcs ⟨rfl,rfl⟩ fnl),(fcs rfl fnl)⟩ (λx=>⟨(Fc6 rfl rfl rfl (by simp[PV.ids,ZV]) rfl rfl),(fcs rfl fnl)⟩) (λx=> ?_);obtain⟨k,hk,hI⟩:=x;simp only at hk hI ⊢;have okR:=Zoa (goes.take k) hl;by_cases h:(k:Int)<(goes.length:Int)
 (have hka:k<(goes).length:=by omega);(have w1:=WD hka (hgm));(have i1:=Jb k)
 have hA:Pp 45 [Zh l,ref (goes.getD k default)] (.int .i64 (idx (atF (goes.getD k default)) l)):=Ua l (goes.getD k default) hm;have hW:=Zcn (D8 (goes.take k) l) (goes.getD k default) okR;have hmem:goes.getD k default∈goes:=Zf hka;rcases Xj (atF (goes.getD k default)) l with h2|⟨g,hg,h2⟩;rw[h2]at hA;have hno:=ZoU h2;have hex:∃r∈goes,(Zv l r).2≠0:=⟨_,hmem,by rw[hno];decide⟩;rw[if_pos hex];simp only[go_sem,refs,Zh,h,Z9 hka,i1,ref];refine vc2 hA ?_;simp only[go_sem,ZC,Zh]
 ·have i3:¬(g:Int)<0:=by omega
  have i4:=Jb g
  have i5:(g:Int)<(l.length:Int):=by omega
  rw[h2]at hA;have hfa:=ZoT h2;have hpk:Zw l (goes.getD k default)=l.getD g default:=by unfold Zw;rw[hfa]
  have hnx:∀r∈goes.take (k+1),(Zv l r).2=0:=by
   intro r hr;rw[UN hka]at hr;rcases List.mem_append.1 hr with hr|hr;exact hI r hr;rw[List.mem_singleton.1 hr,hfa]
  have hln:((goes.take k).map (Zw l)).length=k:=by simp;omega
  have hrm:=YX (show k+1<=1000000 by omega) (show 96<=1000 by omega);simp only[go_sem,refs,Zh,h,Z9 hka,i1,ref];refine vc2 hA ?_;simp only[go_sem,i3,i4,i5,Zx hg,fld,YZ,hln,hrm,refs,h,i1,Z9 hka,ref];refine vc2 hW ?_;simp only[go_sem,ZC,w1];exact⟨⟨k+1,by(try simp only);omega,hnx⟩,by show(goes).length-(k+1)<(goes).length-k;omega,⟨rfl,(Fc6 rfl rfl (by(show Je _ _=Je _ _;rw[UN hka,Zb3])) (by(show Je _ _=Je _ _;rw[UN hka,Jc,Jc,List.map_cons,List.map_nil,hpk];rfl)) rfl rfl),(fcs ⟨rfl,rfl⟩ fnl),(fcs rfl fnl)⟩⟩
 obtain rfl:k=goes.length:=by omega
 have htk:goes.take goes.length=goes:=List.take_length;rw[htk]at hI okR;have hno:¬ ∃r∈goes,(Zv l r).2≠0:=λ⟨r,hr,hn⟩=>hn (hI r hr)
 rw[if_neg hno];generalize hrest:D8 goes l=rest at okR;obtain⟨kind,at',nm,ot,fac,fd,fo,ba⟩:=u;simp only at hkind;clear hgm hgl;rcases hkind with rfl|rfl|rfl|rfl|rfl|rfl|rfl|rfl|rfl|rfl
 ·have hgo':goes= [at']:=by rw[<-hgo];simp[ZE]
  subst hgo';have hC1:Ze ⟨1,at',nm,ot,fac,fd,fo,ba⟩= [Zk at' nm]:=by simp[Ze]
  rw[hC1]at hC;have hM:=SM (Zw l at') (Zk at' nm);have hend:Vg ⟨1,at',nm,ot,fac,fd,fo,ba⟩ ([at'].map (Zw l)) rest=XA rest (Zn (Zw l at') (Zk at' nm)) true:=by simp[Vg,Ze]
  have hP:=Z5 rest (Zn (Zw l at') (Zk at' nm)) true okR (Zex hl at');rw[hend];generalize XA rest (Zn (Zw l at') (Zk at' nm)) true=y at *;obtain⟨y,b⟩:=y;cases b;all_goals
   simp only[go_sem,refs,h,htk,Zg,hrest];refine vcy hC ?_;simp only[go_sem,refs,Zh,fld,ref,Zk,Zn,Zg];refine vDq ?_;simp only[go_sem,refs,Zh,fld,ref,Zk,Zn,Zg];refine vcy hM ?_
   (try simp only[go_sem,refs,Zh,fld,ref,Zk,Zn,Zg])
   refine vcy hP ?_;simp only[go_sem,YS,ZC,Tx,refs,Zh,fld,ref,Zk,Zn,Zg]
 ·have hgo':goes= []:=by rw[<-hgo];simp[ZE]
  subst hgo';have hC1:Ze ⟨2,at',nm,ot,fac,fd,fo,ba⟩= [fd.at']:=by simp[Ze]
  rw[hC1]at hC;have hend:Vg ⟨2,at',nm,ot,fac,fd,fo,ba⟩ (List.map (Zw l) []) rest=XA rest fd true:=by simp[Vg]
  have hP:=Z5 rest fd true okR hx.c;rw[hend];generalize XA rest fd true=y at *;obtain⟨y,b⟩:=y;cases b;all_goals
   simp only[go_sem,refs,h,htk,Zg,hrest];refine vcy hC ?_;simp only[go_sem,refs,Zh,fld,ref,Zk,Zn,Zg];refine vcy hP ?_;simp only[go_sem,YS,ZC,Tx,refs,Zh,fld,ref,Zk,Zn,Zg]
 ·have hgo':goes= [fd.at']:=by rw[<-hgo];simp[ZE]
  subst hgo';have hC1:Ze ⟨3,at',nm,ot,fac,fd,fo,ba⟩= []:=by simp[Ze]
  rw[hC1]at hC;have hE:=SI (Zw l fd.at') fd (by have:=Zex hl fd.at';rw[Zc];omega) (by have:=hx.c;simp only at this;rw[Zc];omega);have hend:Vg ⟨3,at',nm,ot,fac,fd,fo,ba⟩ ([fd.at'].map (Zw l)) rest=(rest,decide (Zw l fd.at'=fd)):=by simp[Vg]
  rw[hend];cases hb:decide (Zw l fd.at'=fd);all_goals
   rw[hb]at hE;simp only[go_sem,refs,h,htk,Zg,hrest];refine vcy hC ?_;simp only[go_sem,refs,Zh,fld,ref,Zk,Zn,Zg];refine vDq ?_;simp only[go_sem,refs,Zh,fld,ref,Zk,Zn,Zg];refine vcy hE ?_;simp only[go_sem,YS,ZC,Tx,refs,Zh,fld,ref,Zk,Zn,Zg]
 ·have hgo':goes= [at']:=by rw[<-hgo];simp[ZE]
  subst hgo';have hC1:Ze ⟨4,at',nm,ot,fac,fd,fo,ba⟩= [⟨at'.sc,[],at'.nm⟩]:=by simp[Ze]
  rw[hC1]at hC;have hM:=SM (Zw l at') (⟨at'.sc,[],at'.nm⟩);have hend:Vg ⟨4,at',nm,ot,fac,fd,fo,ba⟩ ([at'].map (Zw l)) rest=XA rest (Zn (Zw l at') (⟨at'.sc,[],at'.nm⟩)) true:=by simp[Vg,Ze]
  have hP:=Z5 rest (Zn (Zw l at') (⟨at'.sc,[],at'.nm⟩)) true okR (Zex hl at');rw[hend];generalize XA rest (Zn (Zw l at') (⟨at'.sc,[],at'.nm⟩)) true=y at *;obtain⟨y,b⟩:=y;cases b;all_goals
   simp only[go_sem,refs,h,htk,Zg,hrest];refine vcy hC ?_;simp only[go_sem,refs,Zh,fld,ref,Zk,Zn,Zg];refine vDq ?_;simp only[go_sem,refs,Zh,fld,ref,Zk,Zn,Zg];refine vcy hM ?_
   (try simp only[go_sem,refs,Zh,fld,ref,Zk,Zn,Zg])
   refine vcy hP ?_;simp only[go_sem,YS,ZC,Tx,refs,Zh,fld,ref,Zk,Zn,Zg]
 ·have hgo':goes= [at']:=by rw[<-hgo];simp[ZE]
  subst hgo';have hC1:Ze ⟨5,at',nm,ot,fac,fd,fo,ba⟩= [⟨at'.sc,nm,at'.nm⟩]:=by simp[Ze]
  rw[hC1]at hC;have hM:=SM (Zw l at') (⟨at'.sc,nm,at'.nm⟩);have hend:Vg ⟨5,at',nm,ot,fac,fd,fo,ba⟩ ([at'].map (Zw l)) rest=XA rest (Zn (Zw l at') (⟨at'.sc,nm,at'.nm⟩)) true:=by simp[Vg,Ze]
  have hP:=Z5 rest (Zn (Zw l at') (⟨at'.sc,nm,at'.nm⟩)) true okR (Zex hl at');rw[hend];generalize XA rest (Zn (Zw l at') (⟨at'.sc,nm,at'.nm⟩)) true=y at *;obtain⟨y,b⟩:=y;cases b;all_goals
   simp only[go_sem,refs,h,htk,Zg,hrest];refine vcy hC ?_;simp only[go_sem,refs,Zh,fld,ref,Zk,Zn,Zg];refine vDq ?_;simp only[go_sem,refs,Zh,fld,ref,Zk,Zn,Zg];refine vcy hM ?_
   (try simp only[go_sem,refs,Zh,fld,ref,Zk,Zn,Zg])
   refine vcy hP ?_;simp only[go_sem,YS,ZC,Tx,refs,Zh,fld,ref,Zk,Zn,Zg]
 have hgo':goes= [at']:=by rw[<-hgo];simp[ZE]
 subst hgo';have hC1:Ze ⟨6,at',nm,ot,fac,fd,fo,ba⟩= [Zk at' nm,Zk at' ot]:=by simp[Ze]
 rw[hC1]at hC;cases hok:(decide ((Zw l at').kind=1)&&decide (IntKind.i64.wrap ((Zw l at').worth*fac)<1048577));have hP:=Z5 rest ⟨Zk at' nm,1,[],[],(Zw l at').worth⟩ Hf okR (Ja _);have hend:Vg ⟨6,at',nm,ot,fac,fd,fo,ba⟩ ([at'].map (Zw l)) rest=XA (XA rest ⟨Zk at' nm,1,[],[],(Zw l at').worth⟩ Hf).1 ⟨Zk at' ot,1,[],[],IntKind.i64.wrap ((Zw l at').worth*fac)⟩ (XA rest ⟨Zk at' nm,1,[],[],(Zw l at').worth⟩ Hf).2:=by simp[Vg,hok]
 have okY:=Zn9 okR (f:=⟨Zk at' nm,1,[],[],(Zw l at').worth⟩) (Ja _) Hf;rw[hend];generalize XA rest ⟨Zk at' nm,1,[],[],(Zw l at').worth⟩ Hf=y1 at *;obtain⟨y1,b1⟩:=y1;have hQ:=Z5 y1 ⟨Zk at' ot,1,[],[],IntKind.i64.wrap ((Zw l at').worth*fac)⟩ b1 okY (Ja _);simp only at *;generalize XA y1 ⟨Zk at' ot,1,[],[],IntKind.i64.wrap ((Zw l at').worth*fac)⟩ b1=y at *;obtain⟨y,b⟩:=y;by_cases k1:(Zw l at').kind=1
 ·have e1:((Zw l at').kind==1)=true:=by simpa using k1
  have e2:decide (IntKind.i64.wrap ((Zw l at').worth*fac)<1048577)=false:=by simpa[k1]using hok
  cases b;all_goals
   simp only[go_sem,refs,h,htk,Zg,hrest];refine vcy hC ?_;simp only[go_sem,refs,Zh,fld,ref,Zk,Zn,Zg];refine vDq ?_;simp only[go_sem,refs,Zh,fld,ref,Zk,Zn,Zg,e1,e2];refine vDq ?_;simp only[go_sem,refs,Zh,fld,ref,Zk,Zn,Zg];refine vcy hP ?_;simp only[go_sem,YS,refs,Zh,fld,ref,Zk,Zn,Zg];refine vcy hQ ?_;simp only[go_sem,YS,ZC,Tx,refs,Zh,fld,ref,Zk,Zn,Zg]
 ·have e1:((Zw l at').kind==1)=false:=by simpa using k1
  cases b;all_goals
   simp only[go_sem,refs,h,htk,Zg,hrest];refine vcy hC ?_;simp only[go_sem,refs,Zh,fld,ref,Zk,Zn,Zg];refine vDq ?_;simp only[go_sem,refs,Zh,fld,ref,Zk,Zn,Zg,e1];refine vDq ?_;simp only[go_sem,refs,Zh,fld,ref,Zk,Zn,Zg];refine vcy hP ?_;simp only[go_sem,YS,refs,Zh,fld,ref,Zk,Zn,Zg];refine vcy hQ ?_;simp only[go_sem,YS,ZC,Tx,refs,Zh,fld,ref,Zk,Zn,Zg]
 have hP:=Z5 rest ⟨Zk at' nm,1,[],[],(Zw l at').worth⟩ true okR (Ja _);have hend:Vg ⟨6,at',nm,ot,fac,fd,fo,ba⟩ ([at'].map (Zw l)) rest=XA (XA rest ⟨Zk at' nm,1,[],[],(Zw l at').worth⟩ true).1 ⟨Zk at' ot,1,[],[],IntKind.i64.wrap ((Zw l at').worth*fac)⟩ (XA rest ⟨Zk at' nm,1,[],[],(Zw l at').worth⟩ true).2:=by simp[Vg,hok]
 have okY:=Zn9 okR (f:=⟨Zk at' nm,1,[],[],(Zw l at').worth⟩) (Ja _) true;rw[hend];generalize XA rest ⟨Zk at' nm,1,[],[],(Zw l at').worth⟩ true=y1 at *;obtain⟨y1,b1⟩:=y1;have hQ:=Z5 y1 ⟨Zk at' ot,1,[],[],IntKind.i64.wrap ((Zw l at').worth*fac)⟩ b1 okY (Ja _);simp only at *;generalize XA y1 ⟨Zk at' ot,1,[],[],IntKind.i64.wrap ((Zw l at').worth*fac)⟩ b1=y at *;obtain⟨y,b⟩:=y;by_cases k1:(Zw l at').kind=1
 ·have e1:((Zw l at').kind==1)=true:=by simpa using k1
  have e2:decide (IntKind.i64.wrap ((Zw l at').worth*fac)<1048577)=true:=by simpa[k1]using hok
  cases b;all_goals
   simp only[go_sem,refs,h,htk,Zg,hrest];refine vcy hC ?_;simp only[go_sem,refs,Zh,fld,ref,Zk,Zn,Zg];refine vDq ?_;simp only[go_sem,refs,Zh,fld,ref,Zk,Zn,Zg,e1,e2];refine vDq ?_;simp only[go_sem,refs,Zh,fld,ref,Zk,Zn,Zg];refine vcy hP ?_;simp only[go_sem,YS,refs,Zh,fld,ref,Zk,Zn,Zg];refine vcy hQ ?_;simp only[go_sem,YS,ZC,Tx,refs,Zh,fld,ref,Zk,Zn,Zg]
 simp[k1]at hok;have hgo':goes= [at']:=by rw[<-hgo];simp[ZE]
 subst hgo';have hC1:Ze ⟨7,at',nm,ot,fac,fd,fo,ba⟩= [at']:=by simp[Ze]
 rw[hC1]at hC;by_cases k1:(Zw l at').kind=2;have e1:((Zw l at').kind==2)=true:=by simpa using k1
 by_cases k2:(Zw l at').df=ot
 ·have e2:((Zw l at').df==ot)=true:=by simpa using k2
  have hend:Vg ⟨7,at',nm,ot,fac,fd,fo,ba⟩ ([at'].map (Zw l)) rest=XA rest ⟨at',4,[],[],0⟩ true:=by simp[Vg,k1,k2]
  have hP:=Z5 rest ⟨at',4,[],[],0⟩ true okR (Ja _);rw[hend];generalize XA rest ⟨at',4,[],[],0⟩ true=y at *;obtain⟨y,b⟩:=y;cases b;all_goals
   simp only[go_sem,refs,h,htk,Zg,hrest];refine vcy hC ?_;simp only[go_sem,refs,Zh,fld,ref,Zk,Zn,Zg];refine vDq ?_;simp only[go_sem,refs,Zh,fld,ref,Zk,Zn,Zg,e1,e2];refine vcy hP ?_;simp only[go_sem,YS,ZC,Tx,refs,Zh,fld,ref,Zk,Zn,Zg]
 ·have e2:((Zw l at').df==ot)=false:=by simpa using k2
  have hend:Vg ⟨7,at',nm,ot,fac,fd,fo,ba⟩ ([at'].map (Zw l)) rest=XA rest ⟨at',4,[],[],0⟩ false:=by simp[Vg,k1,k2]
  have hP:=Z5 rest ⟨at',4,[],[],0⟩ Hf okR (Ja _);rw[hend];generalize XA rest ⟨at',4,[],[],0⟩ Hf=y at *;obtain⟨y,b⟩:=y;cases b;all_goals
   simp only[go_sem,refs,h,htk,Zg,hrest];refine vcy hC ?_;simp only[go_sem,refs,Zh,fld,ref,Zk,Zn,Zg];refine vDq ?_;simp only[go_sem,refs,Zh,fld,ref,Zk,Zn,Zg,e1,e2];refine vcy hP ?_;simp only[go_sem,YS,ZC,Tx,refs,Zh,fld,ref,Zk,Zn,Zg]
 ·have e1:((Zw l at').kind==2)=false:=by simpa using k1
  have hend:Vg ⟨7,at',nm,ot,fac,fd,fo,ba⟩ ([at'].map (Zw l)) rest=XA rest ⟨at',4,[],[],0⟩ false:=by simp[Vg,k1]
  have hP:=Z5 rest ⟨at',4,[],[],0⟩ Hf okR (Ja _);rw[hend];generalize XA rest ⟨at',4,[],[],0⟩ Hf=y at *;obtain⟨y,b⟩:=y;cases b;all_goals
   simp only[go_sem,refs,h,htk,Zg,hrest];refine vcy hC ?_;simp only[go_sem,refs,Zh,fld,ref,Zk,Zn,Zg];refine vDq ?_;simp only[go_sem,refs,Zh,fld,ref,Zk,Zn,Zg,e1];refine vcy hP ?_;simp only[go_sem,YS,ZC,Tx,refs,Zh,fld,ref,Zk,Zn,Zg]
 have hgo':goes= [at']:=by rw[<-hgo];simp[ZE]
 subst hgo';have hC1:Ze ⟨8,at',nm,ot,fac,fd,fo,ba⟩= [at']:=by simp[Ze]
 rw[hC1]at hC;have hB1:=UU fo hx.f;have hB2:=UU ba hx.b;have hS:=Zbo (Zw l at').cases' (Yt fo) (by have:=Zex hl at';rw[Zc];omega) (by rw[WL];have:=hx.f;simp only at this;rw[Zc];omega);by_cases k1:(Zw l at').kind=3;have e1:((Zw l at').kind==3)=true:=by simpa using k1
 by_cases k2:(Zw l at').df=nm;have e2:((Zw l at').df==nm)=true:=by simpa using k2
 by_cases k3:(Zw l at').cases'=Yt fo
 ·rw[decide_eq_true k3]at hS;have hend:Vg ⟨8,at',nm,ot,fac,fd,fo,ba⟩ ([at'].map (Zw l)) rest=XA rest ⟨at',3,ot,Yt ba,0⟩ true:=by simp[Vg,k1,k2,k3]
  have hP:=Z5 rest ⟨at',3,ot,Yt ba,0⟩ true okR (by simp only[WL];exact hx.b);rw[hend];generalize XA rest ⟨at',3,ot,Yt ba,0⟩ true=y at *;obtain⟨y,b⟩:=y;cases b;all_goals
   simp only[go_sem,refs,h,htk,Zg,hrest];refine vcy hC ?_;simp only[go_sem,refs,Zh,fld,ref,Zk,Zn,Zg];refine vDq ?_;simp only[go_sem,refs,Zh,fld,ref,Zk,Zn,Zg,e1,e2];refine vcy hB1 ?_;simp only[go_sem,Y3,refs,Zh,fld,ref,Zk,Zn,Zg];refine vcy hS ?_;simp only[go_sem,refs,Zh,fld,ref,Zk,Zn,Zg];refine vDq ?_;simp only[go_sem,refs,Zh,fld,ref,Zk,Zn,Zg];refine vcy hB2 ?_;simp only[go_sem,Y3,refs,Zh,fld,ref,Zk,Zn,Zg];refine vcy hP ?_;simp only[go_sem,YS,ZC,Tx,refs,Zh,fld,ref,Zk,Zn,Zg]
 ·rw[decide_eq_false k3]at hS;have hend:Vg ⟨8,at',nm,ot,fac,fd,fo,ba⟩ ([at'].map (Zw l)) rest=XA rest ⟨at',3,ot,Yt ba,0⟩ false:=by simp[Vg,k1,k2,k3]
  have hP:=Z5 rest ⟨at',3,ot,Yt ba,0⟩ Hf okR (by simp only[WL];exact hx.b);rw[hend];generalize XA rest ⟨at',3,ot,Yt ba,0⟩ Hf=y at *;obtain⟨y,b⟩:=y;cases b;all_goals
   simp only[go_sem,refs,h,htk,Zg,hrest];refine vcy hC ?_;simp only[go_sem,refs,Zh,fld,ref,Zk,Zn,Zg];refine vDq ?_;simp only[go_sem,refs,Zh,fld,ref,Zk,Zn,Zg,e1,e2];refine vcy hB1 ?_;simp only[go_sem,Y3,refs,Zh,fld,ref,Zk,Zn,Zg];refine vcy hS ?_;simp only[go_sem,refs,Zh,fld,ref,Zk,Zn,Zg];refine vDq ?_;simp only[go_sem,refs,Zh,fld,ref,Zk,Zn,Zg];refine vcy hB2 ?_;simp only[go_sem,Y3,refs,Zh,fld,ref,Zk,Zn,Zg];refine vcy hP ?_;simp only[go_sem,YS,ZC,Tx,refs,Zh,fld,ref,Zk,Zn,Zg]
 ·have e2:((Zw l at').df==nm)=false:=by simpa using k2
  have hend:Vg ⟨8,at',nm,ot,fac,fd,fo,ba⟩ ([at'].map (Zw l)) rest=XA rest ⟨at',3,ot,Yt ba,0⟩ false:=by simp[Vg,k1,k2]
  have hP:=Z5 rest ⟨at',3,ot,Yt ba,0⟩ Hf okR (by simp only[WL];exact hx.b);rw[hend];generalize XA rest ⟨at',3,ot,Yt ba,0⟩ Hf=y at *;obtain⟨y,b⟩:=y;cases b;all_goals
   simp only[go_sem,refs,h,htk,Zg,hrest];refine vcy hC ?_;simp only[go_sem,refs,Zh,fld,ref,Zk,Zn,Zg];refine vDq ?_;simp only[go_sem,refs,Zh,fld,ref,Zk,Zn,Zg,e1,e2];refine vDq ?_;simp only[go_sem,refs,Zh,fld,ref,Zk,Zn,Zg];refine vcy hB2 ?_;simp only[go_sem,Y3,refs,Zh,fld,ref,Zk,Zn,Zg];refine vcy hP ?_;simp only[go_sem,YS,ZC,Tx,refs,Zh,fld,ref,Zk,Zn,Zg]
 ·have e1:((Zw l at').kind==3)=false:=by simpa using k1
  have hend:Vg ⟨8,at',nm,ot,fac,fd,fo,ba⟩ ([at'].map (Zw l)) rest=XA rest ⟨at',3,ot,Yt ba,0⟩ false:=by simp[Vg,k1]
  have hP:=Z5 rest ⟨at',3,ot,Yt ba,0⟩ Hf okR (by simp only[WL];exact hx.b);rw[hend];generalize XA rest ⟨at',3,ot,Yt ba,0⟩ Hf=y at *;obtain⟨y,b⟩:=y;cases b;all_goals
   simp only[go_sem,refs,h,htk,Zg,hrest];refine vcy hC ?_;simp only[go_sem,refs,Zh,fld,ref,Zk,Zn,Zg];refine vDq ?_;simp only[go_sem,refs,Zh,fld,ref,Zk,Zn,Zg,e1];refine vDq ?_;simp only[go_sem,refs,Zh,fld,ref,Zk,Zn,Zg];refine vcy hB2 ?_;simp only[go_sem,Y3,refs,Zh,fld,ref,Zk,Zn,Zg];refine vcy hP ?_;simp only[go_sem,YS,ZC,Tx,refs,Zh,fld,ref,Zk,Zn,Zg]
 have hgo':goes= [Zk at' nm,Zk at' ot]:=by rw[<-hgo];simp[ZE]
 subst hgo';have hC1:Ze ⟨9,at',nm,ot,fac,fd,fo,ba⟩= [at']:=by simp[Ze]
 rw[hC1]at hC;by_cases k1:(Zw l (Zk at' nm)).kind=1;have e1:((Zw l (Zk at' nm)).kind==1)=true:=by simpa using k1
 by_cases k2:(Zw l (Zk at' ot)).kind=1;have e2:((Zw l (Zk at' ot)).kind==1)=true:=by simpa using k2
 by_cases k3:(Zw l (Zk at' ot)).worth=IntKind.i64.wrap ((Zw l (Zk at' nm)).worth*fac)
 ·have e3:((Zw l (Zk at' ot)).worth==IntKind.i64.wrap ((Zw l (Zk at' nm)).worth*fac))=true:=by simpa using k3
  have hend:Vg ⟨9,at',nm,ot,fac,fd,fo,ba⟩ ([Zk at' nm,Zk at' ot].map (Zw l)) rest=XA rest ⟨at',1,[],[],(Zw l (Zk at' nm)).worth⟩ true:=by simp[Vg,k1,k2,k3]
  have hP:=Z5 rest ⟨at',1,[],[],(Zw l (Zk at' nm)).worth⟩ true okR (Ja _);rw[hend];generalize XA rest ⟨at',1,[],[],(Zw l (Zk at' nm)).worth⟩ true=y at *;obtain⟨y,b⟩:=y;cases b;all_goals
   simp only[go_sem,refs,h,htk,Zg,hrest];refine vcy hC ?_;simp only[go_sem,refs,Zh,fld,ref,Zn,Zg];refine vDq ?_;simp only[go_sem,refs,Zh,fld,ref,Zn,Zg,e1,e2,e3];refine vDq ?_;simp only[go_sem,refs,Zh,fld,ref,Zn,Zg];refine vcy hP ?_;simp only[go_sem,YS,ZC,Tx,refs,Zh,fld,ref,Zn,Zg]
 ·have e3:((Zw l (Zk at' ot)).worth==IntKind.i64.wrap ((Zw l (Zk at' nm)).worth*fac))=false:=by simpa using k3
  have hend:Vg ⟨9,at',nm,ot,fac,fd,fo,ba⟩ ([Zk at' nm,Zk at' ot].map (Zw l)) rest=XA rest ⟨at',1,[],[],(Zw l (Zk at' nm)).worth⟩ false:=by simp[Vg,k1,k2,k3]
  have hP:=Z5 rest ⟨at',1,[],[],(Zw l (Zk at' nm)).worth⟩ Hf okR (Ja _);rw[hend];generalize XA rest ⟨at',1,[],[],(Zw l (Zk at' nm)).worth⟩ Hf=y at *;obtain⟨y,b⟩:=y;cases b;all_goals
   simp only[go_sem,refs,h,htk,Zg,hrest];refine vcy hC ?_;simp only[go_sem,refs,Zh,fld,ref,Zn,Zg];refine vDq ?_;simp only[go_sem,refs,Zh,fld,ref,Zn,Zg,e1,e2,e3];refine vDq ?_;simp only[go_sem,refs,Zh,fld,ref,Zn,Zg];refine vcy hP ?_;simp only[go_sem,YS,ZC,Tx,refs,Zh,fld,ref,Zn,Zg]
 ·have e2:((Zw l (Zk at' ot)).kind==1)=false:=by simpa using k2
  have hend:Vg ⟨9,at',nm,ot,fac,fd,fo,ba⟩ ([Zk at' nm,Zk at' ot].map (Zw l)) rest=XA rest ⟨at',1,[],[],(Zw l (Zk at' nm)).worth⟩ false:=by simp[Vg,k1,k2]
  have hP:=Z5 rest ⟨at',1,[],[],(Zw l (Zk at' nm)).worth⟩ Hf okR (Ja _);rw[hend];generalize XA rest ⟨at',1,[],[],(Zw l (Zk at' nm)).worth⟩ Hf=y at *;obtain⟨y,b⟩:=y;cases b;all_goals
   simp only[go_sem,refs,h,htk,Zg,hrest];refine vcy hC ?_;simp only[go_sem,refs,Zh,fld,ref,Zn,Zg];refine vDq ?_;simp only[go_sem,refs,Zh,fld,ref,Zn,Zg,e1,e2];refine vDq ?_;simp only[go_sem,refs,Zh,fld,ref,Zn,Zg];refine vcy hP ?_;simp only[go_sem,YS,ZC,Tx,refs,Zh,fld,ref,Zn,Zg]
 ·have e1:((Zw l (Zk at' nm)).kind==1)=false:=by simpa using k1
  have hend:Vg ⟨9,at',nm,ot,fac,fd,fo,ba⟩ ([Zk at' nm,Zk at' ot].map (Zw l)) rest=XA rest ⟨at',1,[],[],(Zw l (Zk at' nm)).worth⟩ false:=by simp[Vg,k1]
  have hP:=Z5 rest ⟨at',1,[],[],(Zw l (Zk at' nm)).worth⟩ Hf okR (Ja _);rw[hend];generalize XA rest ⟨at',1,[],[],(Zw l (Zk at' nm)).worth⟩ Hf=y at *;obtain⟨y,b⟩:=y;cases b;all_goals
   simp only[go_sem,refs,h,htk,Zg,hrest];refine vcy hC ?_;simp only[go_sem,refs,Zh,fld,ref,Zn,Zg];refine vDq ?_;simp only[go_sem,refs,Zh,fld,ref,Zn,Zg,e1];refine vDq ?_;simp only[go_sem,refs,Zh,fld,ref,Zn,Zg];refine vcy hP ?_;simp only[go_sem,YS,ZC,Tx,refs,Zh,fld,ref,Zn,Zg]
 have hgo':goes= [at']:=by rw[<-hgo];simp[ZE]
 subst hgo';have hC1:Ze ⟨10,at',nm,ot,fac,fd,fo,ba⟩= [at']:=by simp[Ze]
 rw[hC1]at hC;by_cases k1:(Zw l at').kind=4
 ·have e1:((Zw l at').kind==4)=true:=by simpa using k1
  have hend:Vg ⟨10,at',nm,ot,fac,fd,fo,ba⟩ ([at'].map (Zw l)) rest=XA rest ⟨at',2,ot,[],0⟩ true:=by simp[Vg,k1]
  have hP:=Z5 rest ⟨at',2,ot,[],0⟩ true okR (Ja _);rw[hend];generalize XA rest ⟨at',2,ot,[],0⟩ true=y at *;obtain⟨y,b⟩:=y;cases b;all_goals
   simp only[go_sem,refs,h,htk,Zg,hrest];refine vcy hC ?_;simp only[go_sem,refs,Zh,fld,ref,Zk,Zn,Zg,e1];refine vDq ?_;simp only[go_sem,refs,Zh,fld,ref,Zk,Zn,Zg];refine vcy hP ?_;simp only[go_sem,YS,ZC,Tx,refs,Zh,fld,ref,Zk,Zn,Zg]
 have e1:((Zw l at').kind==4)=false:=by simpa using k1
 have hend:Vg ⟨10,at',nm,ot,fac,fd,fo,ba⟩ ([at'].map (Zw l)) rest=XA rest ⟨at',2,ot,[],0⟩ false:=by simp[Vg,k1]
 have hP:=Z5 rest ⟨at',2,ot,[],0⟩ Hf okR (Ja _);rw[hend];generalize XA rest ⟨at',2,ot,[],0⟩ Hf=y at *;obtain⟨y,b⟩:=y;cases b;all_goals
  simp only[go_sem,refs,h,htk,Zg,hrest];refine vcy hC ?_;simp only[go_sem,refs,Zh,fld,ref,Zk,Zn,Zg,e1];refine vDq ?_;simp only[go_sem,refs,Zh,fld,ref,Zk,Zn,Zg];refine vcy hP ?_;simp only[go_sem,YS,ZC,Tx,refs,Zh,fld,ref,Zk,Zn,Zg]
end Go.Proofs.YtepchngegclagaaGreat
