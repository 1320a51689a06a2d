/- Contracts of functions and laws of this seat, each for every input that it names: lemmas of the proof. -/
import Derived.Test.YthingdchjkhfbaaGreatXBy
import Derived.Test.YthingdchjkhfbaaGreatXBr
namespace Go.Proofs.YthingdchjkhfbaaGreat
set_option maxHeartbeats 64000000
set_option maxRecDepth 20000
set_option linter.unusedVariables false
set_option linter.unusedSimpArgs false
open Go.PL
theorem ZnI {x:Ln} (hx:Zu x=true):ZbR (ZbR x)=x:=by
 have hk:=(ZT hx).1;obtain⟨kind,⟨sc,gr,n0⟩,nm,ot,fac,fd,fo,ba⟩:=x;simp only at hk;rcases hk with rfl|rfl|rfl|rfl|rfl|rfl|rfl|rfl|rfl|rfl
 all_goals simp[ZbR,Zu]at hx ⊢
 all_goals simp_all
def Zzq (l:List Fd) (o:Opn):Prop:=∃f,Zy l o.at'=(f,0)∧Zs o=true∧(o.kind=3↔f.kind=1)∧(o.has=true→f.kind=3→f.cases'.any (· == o.text)=true)
theorem ZdK {o:Opn} (h:Zs o=true):o.kind=3∨o.kind=4:=by simpa[Zs]using h
theorem ZnM {l m:List Fd} {x:Ln} {o:Opn} (ha:Zq l x=(m,0)) (hf:Zzq l o) (hk:Zmj x o.at'=true):
  ∃p,ZaE x o=(p,true)∧Zzq m p∧ZaE (ZbR x) p=(o,true)∧ZcW x o.at'=(p.at',true):=by
 obtain⟨hl,hx,cs,l1,e1,e2,e3⟩:=Zaa ha;obtain⟨a1,a2,a3,a4,a5⟩:=ZdG hl e2;obtain⟨b1,b2,b3,b4,b5⟩:=Zbh a1 e3;have hkd:=(ZT hx).1;have hy:=ZjQ hx hkd;obtain⟨i1,i2⟩:=ZhJ hx;have hpl:=Zd6 hkd e1;have hm:=(ZP.1 b1).2;obtain⟨f,hfe,hp,h3,hc3⟩:=hf;have pk:=ZdK hp;have hfl:=ZaA (l:=l) (r:=o.at') (by rw[hfe]);rw[hfe]at hfl;simp only at hfl;obtain⟨fm,fa⟩:=hfl;have coming:∀g∈cs,Zy m g.at'=(g,0):=fun g hg=>ZaD hm.1 ((b2 g).2 (.inr hg))
 have hov:=Za0 hx hp;have hkk:Zmj x o.at'=if ZE (Zl x) o.at'<0 then true else if x.kind=1∨x.kind=4∨x.kind=5∨x.kind=6∨x.kind=7∨x.kind=10 then true
   else if x.kind=9 then ZE (Zl x) o.at'==0 else if x.kind=8 then Zem x.fo x.ba else false:=by
  unfold Zmj;rw[if_neg (by rw[hx];simp)];rfl
 by_cases hg:ZE (Zl x) o.at'<0
 ·rw[if_pos hg]at hov;have hf1:f∈l1:=(a2 f).2 ⟨fm,by rw[fa];exact ZaR hg⟩;have hfm:=ZaD hm.1 ((b2 f).2 (.inl hf1));rw[fa]at hfm;refine⟨o,hov,⟨f,hfm,hp,h3,hc3⟩,?_,ZlK hx (ZaR hg)⟩;rw[Za0 hy hp,i1,if_pos];rw[Zei]
  ·omega
  ·intro hc;rw[←hpl]at hc;obtain⟨c,hc1,hc2⟩:=List.mem_map.1 hc;exact(b3 c hc1).2 f hf1 (by rw[fa,hc2])
 ·rw[if_neg hg]at hov;rw[hkk,if_neg hg]at hk;have hin:o.at'∈Zl x:=by
   obtain⟨g,_,g2,g3⟩:=ZbY hg;rw[←g3];exact Zg g2
  have tr':∀c0 cs',Zc x=c0::cs'→ZcW x o.at'=(c0,true):=fun c0 cs' hc=>by
   rw[Zrj hx hin,hc];simp
  have back:∀(p:Opn) (c0:Rf) (cs':List Rf),Zc x=c0::cs'→p.at'=c0→Zs p=true→Zh (ZbR x) p=(p,true)→ZaE (ZbR x) p=(Zj p ((Zl x).getD 0 default),true):=fun p c0 cs' hc hpa hpp hb=>by
   rw[Za0 hy hpp,i1,i2,hc,hpa,Zdt,if_neg (by omega),hb];simp
  have pm:∀r,Zs (Zj o r)=true:=fun r=>hp
  have cm:∀(r:Rf) (g:Fd),g∈cs→g.at'=r→(o.kind=3↔g.kind=1)→(o.has=true→g.kind=3→g.cases'.any (· == o.text)=true)→Zzq m (Zj o r):=fun r g hg hr h1 h2=>by
   subst hr;exact⟨g,coming g hg,hp,h1,h2⟩
  clear b4 b5 a3 a4 a5;obtain⟨kind,at',nm,ot,fac,fd,fo,ba⟩:=x;simp only at hkd;rcases hkd with rfl|rfl|rfl|rfl|rfl|rfl|rfl|rfl|rfl|rfl
  ·have hat:at'=o.at':=Z2 (by simpa[Zl]using hg);subst hat;simp[Zbc,Zc,hfe]at e1;have hc:Zc ⟨1,o.at',nm,ot,fac,fd,fo,ba⟩= [Zv o.at' nm]:=by simp[Zc]
   refine⟨Zj o (Zv o.at' nm),by rw[hov];simp[Zh,hc],cm _ ⟨Zv o.at' nm,f.kind,f.df,f.cases',f.worth⟩ (by rw[←e1];simp) rfl h3 hc3,?_,tr' _ _ hc⟩;rw[back (Zj o (Zv o.at' nm)) _ _ hc rfl (pm _) (by simp[Zh,ZbR])];simp[Zl,ZbX]
  ·exact absurd (show ZE (Zl ⟨2,at',nm,ot,fac,fd,fo,ba⟩) o.at'<0 from(by decide:(-1:Int)<0)) hg
  ·simp at hk
  ·have hat:at'=o.at':=Z2 (by simpa[Zl]using hg);subst hat;simp[Zbc,Zc,hfe]at e1;have hc:Zc ⟨4,o.at',nm,ot,fac,fd,fo,ba⟩= [⟨o.at'.sc,[],o.at'.nm⟩]:=by simp[Zc]
   refine⟨Zj o ⟨o.at'.sc,[],o.at'.nm⟩,by rw[hov];simp[Zh,hc],cm _ ⟨⟨o.at'.sc,[],o.at'.nm⟩,f.kind,f.df,f.cases',f.worth⟩ (by rw[←e1];simp) rfl h3 hc3,?_,tr' _ _ hc⟩;rw[back (Zj o ⟨o.at'.sc,[],o.at'.nm⟩) _ _ hc rfl (pm _) (by simp[Zh,ZbR])];simp[Zl,ZbX]
  ·have hat:at'=o.at':=Z2 (by simpa[Zl]using hg);subst hat;simp[Zbc,Zc,hfe]at e1;have hc:Zc ⟨5,o.at',nm,ot,fac,fd,fo,ba⟩= [⟨o.at'.sc,nm,o.at'.nm⟩]:=by simp[Zc]
   refine⟨Zj o ⟨o.at'.sc,nm,o.at'.nm⟩,by rw[hov];simp[Zh,hc],cm _ ⟨⟨o.at'.sc,nm,o.at'.nm⟩,f.kind,f.df,f.cases',f.worth⟩ (by rw[←e1];simp) rfl h3 hc3,?_,tr' _ _ hc⟩;rw[back (Zj o ⟨o.at'.sc,nm,o.at'.nm⟩) _ _ hc rfl (pm _) (by simp[Zh,ZbR])];simp[Zl,ZbX]
  ·have hat:at'=o.at':=Z2 (by simpa[Zl]using hg);subst hat;simp[Zbc,hfe]at e1;have k3:=h3.2 e1.2;have hc:Zc ⟨6,o.at',nm,ot,fac,fd,fo,ba⟩= [Zv o.at' nm,Zv o.at' ot]:=by simp[Zc]
   refine⟨Zj o (Zv o.at' nm),by rw[hov];simp[Zh,hc,k3],cm _ ⟨Zv o.at' nm,1,[],[],f.worth⟩ (by rw[←e1.1];simp) rfl (by simp[k3]) (fun _ h=>by simp at h),?_,tr' _ _ hc⟩;have hb:Zh (ZbR ⟨6,o.at',nm,ot,fac,fd,fo,ba⟩) (Zj o (Zv o.at' nm))=(Zj o (Zv o.at' nm),true):=by
    have hpi:ZE (Zl (ZbR ⟨6,o.at',nm,ot,fac,fd,fo,ba⟩)) (Zj o (Zv o.at' nm)).at'=0:=by rw[i1,hc];exact Zdt _ _
    unfold Zh;rw[hpi];simp[ZbR,ZcD,Zj,ZK,k3]
   rw[back (Zj o (Zv o.at' nm)) _ _ hc rfl (pm _) hb];simp[Zl,ZbX]
  ·have hat:at'=o.at':=Z2 (by simpa[Zl]using hg);subst hat;simp[Zbc,hfe]at e1;have k4:o.kind=4:=by
    rcases pk with h|h
    ·have:=h3.1 h;omega
    ·exact h
   have hc:Zc ⟨7,o.at',nm,ot,fac,fd,fo,ba⟩= [o.at']:=by simp[Zc]
   refine⟨Zj o o.at',by rw[hov];simp[Zh,hc,k4],cm _ ⟨o.at',4,[],[],0⟩ (by rw[←e1.1];simp) rfl (by simp[k4]) (fun _ h=>by simp at h),?_,tr' _ _ hc⟩;rw[back (Zj o o.at') _ _ hc rfl (pm _) (by simp[Zh,ZbR,Zj,k4])];simp[Zl,ZbX]
  ·have hat:at'=o.at':=Z2 (by simpa[Zl]using hg);subst hat;simp[Zbc,hfe]at e1;have k4:o.kind=4:=by
    rcases pk with h|h
    ·have:=h3.1 h;rw[e1.2]at this;simp at this
    ·exact h
   have hkp:Zem fo ba=true:=by simpa using hk
   have hc:Zc ⟨8,o.at',nm,ot,fac,fd,fo,ba⟩= [o.at']:=by simp[Zc]
   have hg8:(⟨o.at',3,ot,Zbi ba,0⟩:Fd)∈cs:=by rw[←e1.1];simp
   cases hh:o.has
   ·have hcv:ZcP o fo=(o.text,true):=by unfold ZcP;rw[if_neg (by omega),if_pos hh]
    have hto:ZZ o o.text=o:=by cases o;rfl
    refine⟨Zj o o.at',by rw[hov];simp[Zh,hc,hcv,hto],cm _ _ hg8 rfl (by simp[k4]) (fun h _=>by rw[hh]at h;cases h),?_,tr' _ _ hc⟩;have hb:Zh (ZbR ⟨8,o.at',nm,ot,fac,fd,fo,ba⟩) (Zj o o.at')=(Zj o o.at',true):=by
     have hcv2:ZcP (Zj o o.at') ba=(o.text,true):=by unfold ZcP;rw[if_neg (by simp[Zj,k4]),if_pos (by exact hh)];rfl
     have hto2:ZZ (Zj o o.at') o.text=Zj o o.at':=by cases o;rfl
     simp[Zh,ZbR,hcv2,hto2]
    rw[back (Zj o o.at') _ _ hc rfl (pm _) hb];simp[Zl,ZbX]
   ·have hfr:ZcZ fo o.text=true:=by
     rw[←Zjq];have:=hc3 hh (by rw[e1.2]);rw[e1.2]at this;exact this
    have hcs:(Zai fo o.text).2=true:=by rw[ZgG];exact hfr
    have hcv:ZcP o fo=Zai fo o.text:=by unfold ZcP;rw[if_neg (by omega),if_neg (by rw[hh];simp)]
    obtain⟨_,hr⟩:=ZwF hkp hfr;have hin2:(Zbi ba).any (· == (Zai fo o.text).1)=true:=by rw[Zjq,←ZgG,hr]
    refine⟨Zj (ZZ o (Zai fo o.text).1) o.at',by rw[hov];simp[Zh,hc,hcv,hcs],⟨_,coming _ hg8,hp,by simp[Zj,ZZ,k4],fun _ _=>hin2⟩,?_,tr' _ _ hc⟩;have hb:Zh (ZbR ⟨8,o.at',nm,ot,fac,fd,fo,ba⟩) (Zj (ZZ o (Zai fo o.text).1) o.at')=(ZZ (Zj (ZZ o (Zai fo o.text).1) o.at') o.text,true):=by
     have:ZcP (Zj (ZZ o (Zai fo o.text).1) o.at') ba=(o.text,true):=by
      unfold ZcP;rw[if_neg (by simp[Zj,ZZ,k4]),if_neg (by simp[Zj,ZZ,hh])];exact hr
     simp[Zh,ZbR,this]
    rw[Za0 hy (by exact hp),i1,i2,hc,hb];have hpi:ZE [o.at'] (Zj (ZZ o (Zai fo o.text).1) o.at').at'=0:=Zdt _ _;rw[hpi,if_neg (by omega)];simp[Zl];cases o;rfl
  ·simp[Zbc,Zco]at e1;have hgo:Zl ⟨9,at',nm,ot,fac,fd,fo,ba⟩= [Zv at' nm,Zv at' ot]:=by simp[Zl]
   have hc:Zc ⟨9,at',nm,ot,fac,fd,fo,ba⟩= [at']:=by simp[Zc]
   rw[hgo]at hg hk;obtain⟨g,hg1,hg2,hg3⟩:=ZbY hg;have h0:g=0:=by simp[hg1]at hk;exact hk
   subst h0;have hat:Zv at' nm=o.at':=by simpa using hg3
   split at e1
   ·simp at e1
   split at e1
   ·simp at e1
   ·rename_i u1 u2;simp only[not_or,Decidable.not_not]at u1 u2;simp only[Prod.mk.injEq,and_true]at e1;have hf1:f.kind=1:=by have:=u1.2;rw[hat,hfe]at this;exact this
    have k3:=h3.2 hf1;have hb2:Zh ⟨9,at',nm,ot,fac,fd,fo,ba⟩ o=(o,true):=by
     have hd0:ZK o o.delta=o:=by cases o;rfl
     simp[Zh,hgo,hg1,ZcD,k3,hd0]
    refine⟨Zj o at',by rw[hov,hb2];simp[hc],cm _ ⟨at',1,[],[],(Zy l (Zv at' nm)).1.worth⟩ (by rw[←e1];simp) rfl (by simp[k3]) (fun _ h=>by simp at h),?_,tr' _ _ hc⟩;rw[back (Zj o at') _ _ hc rfl (pm _) (by simp[Zh,ZbR,Zj,k3])];rw[hgo];simp only[List.getD_cons_zero];rw[hat,ZbX]
  ·have hat:at'=o.at':=Z2 (by simpa[Zl]using hg);subst hat;simp[Zbc,hfe]at e1;have k4:o.kind=4:=by
    rcases pk with h|h
    ·have:=h3.1 h;omega
    ·exact h
   have hc:Zc ⟨10,o.at',nm,ot,fac,fd,fo,ba⟩= [o.at']:=by simp[Zc]
   refine⟨Zj o o.at',by rw[hov];simp[Zh,hc,k4],cm _ ⟨o.at',2,ot,[],0⟩ (by rw[←e1.1];simp) rfl (by simp[k4]) (fun _ h=>by simp at h),?_,tr' _ _ hc⟩;rw[back (Zj o o.at') _ _ hc rfl (pm _) (by simp[Zh,ZbR,Zj,k4])];simp[Zl,ZbX]
theorem Zbs (xs ys:List Ln) (o:Opn):ZB (xs++ys) o=if(ZB xs o).2=false then(default,false)else ZB ys (ZB xs o).1:=by
 induction xs generalizing o with
 |nil=>simp[ZB]
 |cons x xs ih=>
  rw[List.cons_append,Zah,Zah];split
  ·simp
  ·exact ih _
theorem Zlc:∀(xs:List Ln) {l m:List Fd} {o:Opn},Zce xs l=some m→Zzq l o→Zmi xs o.at'=true→ ∃p,ZB xs o=(p,true)∧ZB (xs.map ZbR).reverse p=(o,true)
 | [],l,m,o,_,_,_=>⟨o,rfl,rfl⟩
 |x::xs,l,m,o,hf,hfit,hk=>by
  rw[Zlb]at hk;split at hk
  ·cases hk
  ·rename_i hz;unfold Zce at hf;split at hf
   ·cases hf
   ·rename_i ha;obtain⟨p,p1,p2,p3,p4⟩:=ZnM (m:=(Zq l x).1) (Prod.ext rfl (Classical.not_not.1 ha)) hfit (by simpa using hz);rw[p4,if_neg (by simp)]at hk;obtain⟨q,q1,q2⟩:=Zlc xs hf p2 hk;refine⟨q,by rw[Zah,p1,if_neg (by simp)];exact q1,?_⟩;rw[List.map_cons,List.reverse_cons,Zbs,q2,if_neg (by simp),Zah,p3];rfl
theorem ZhQ {x:Ln} {o:Opn} (hx:Zu x=true) (h:Zs o=false):ZaE x o=(o,true):=by
 unfold ZaE;rw[if_neg (by rw[hx];simp),if_pos];simpa[Zs]using h
theorem Zws (x:Ln) (o:Opn) (t:Tg):ZaE x (Zlv o t)=if(ZaE x o).2=false then(default,false)else(Zlv (ZaE x o).1 t,true):=by
 have hb:Zh x (Zlv o t)=(Zlv (Zh x o).1 t,(Zh x o).2):=by
  unfold Zh;repeat' split
  all_goals rfl
 unfold ZaE;rw[hb];have e1:(Zlv o t).kind=o.kind:=rfl;have e2:(Zlv o t).at'=o.at':=rfl;rw[e1,e2];repeat' split
 all_goals first|rfl|(simp_all;done)|(rename_i h;simp at h;done)|skip
theorem ZiW:∀(xs:List Ln) (o:Opn) (t:Tg),ZB xs (Zlv o t)=if(ZB xs o).2=false then(default,false)else(Zlv (ZB xs o).1 t,true)
 | [],o,t=>by simp[ZB]
 |x::xs,o,t=>by
  rw[Zah,Zah,Zws]
  by_cases h:(ZaE x o).2=false
  ·simp[h]
  ·simp only[h,if_false];rw[if_neg (by simp)];exact ZiW xs _ t
theorem Zdf:∀(xs:List Ln) {o p:Opn},ZB xs o=(p,true)→p.id=o.id∧p.kind=o.kind
 | [],o,p,h=>by
  simp only[ZB,Prod.mk.injEq,and_true]at h;subst h;exact⟨rfl,rfl⟩
 |x::xs,o,p,h=>by
  rw[Zah]at h;split at h
  ·simp at h
  ·rename_i hq;have hq':ZaE x o=((ZaE x o).1,true):=Prod.ext rfl (by simpa using hq);obtain⟨a1,_,a3⟩:=ZiD hq';obtain⟨b1,b2⟩:=Zdf xs h;exact⟨b1.trans a1,b2.trans a3⟩
open Go.PL
structure AoS (row:List Ln) (o0:Opn) where
 k:Nat
 o:Opn
 hk:k≤row.length
 ok:OkOp o
 h:ZB (row.drop k) o=ZB row o0
def Zrw:List PV:= [.int .i64 0,.int .i64 0,.int .i64 0,.int .i64 0,.int .i64 0,.str [],.int .i64 0,.str [],.int .i64 0,.str [],.str [],.int .i64 0,.bool false,.str [],.sl .nil []]
theorem ZoX (row:List Ln) (o:Opn) (hl:row.length≤1000) (hx:∀x∈row,OkLn x) (ho:OkOp o):PL.Pure Tryz.prog 148 [ZgW row,opv o] (opb (ZB row o)):=by
 have hW:=ZbK o ho;refine pov Tryz.func148 (by decide) rfl Tryz.ntmps148 Tryz.results148 (by simp) (ZH _) ?_;simp only[go_sem,ZgW,opv];refine Zj5 (ι:=AoS row o) 31 (fun x=> [(0,ZgW row),(3,.ptr 3 0),(4,.ptr 4 0),(6,.int .i64 (x.k:Int))]) (fun x=> [(3,Zga x.o,false),(4,Zrw,false)]) (fun x=> []) (fun x=>row.length-x.k) 0 _ (by exact rfl) (fun x=>⟨(Fc4 rfl rfl rfl rfl),Fc2 rfl rfl⟩) (fun x=> ?_) (fun cut=> ?_)
 ·obtain⟨k,p,hk,ok,h⟩:=x;simp only
  by_cases he:k=row.length
  ·have hb:((k:Int)==(row.length:Int))=true:=by simp[he]
   have hd:ZB row o=(p,true):=by rw[←h,he,List.drop_length];rfl
   simp only[go_sem,ZgW,List.length_map,hb,hd,opb,opv,Zga,Zrw]
  ·have hb:((k:Int)==(row.length:Int))=false:=by simp;omega
   have hka:k<row.length:=by omega
   have i0:(0:Int)≤(k:Int):=by omega
   have i1:(k:Int)<(row.length:Int):=by omega
   have w1:IntKind.i64.wrap ((k:Int)+1)=((k+1:Nat):Int):=by rw[w64 (by omega)];rfl
   have hT:=Zs0 (row.getD k default) p (hx _ (Zg (d:=default) hka)) ok;have okn:=Zwr (x:=row.getD k default) ok;rw[Ztz hka,Zah]at h;cases hz:(ZaE (row.getD k default) p).2
   ·rw[if_pos hz]at h;simp only[go_sem,ZgW,List.length_map,hb];refine Ze (by kernel_rfl) (by kernel_rfl) ?_;simp only[go_sem,Zgl hka,lns,i0,i1,Zga,opv];refine Za (hT) ?_ ?_ ?_;iterate 2 simp only[go_sem,lns,opv]
    simp only[go_sem,opb,opv,hz,←h,Zrw];try rfl
   ·rw[if_neg (by rw[hz];simp)]at h;simp only[go_sem,ZgW,List.length_map,hb];refine Ze (by kernel_rfl) (by kernel_rfl) ?_;simp only[go_sem,Zgl hka,lns,i0,i1,Zga,opv];refine Za (hT) ?_ ?_ ?_;iterate 2 simp only[go_sem,lns,opv]
    simp only[go_sem,opb,opv,hz,w1,Zrw];exact⟨⟨k+1,(ZaE (row.getD k default) p).1,by omega,okn,h⟩,by show row.length-(k+1)<row.length-k;omega,⟨rfl,(Fc4 rfl rfl rfl rfl),Fc2 ⟨rfl,rfl⟩ ⟨rfl,rfl⟩,fnl⟩⟩
 ·simp only[go_sem];refine Za (hW) ?_ ?_ ?_;iterate 2 simp only[go_sem,opv]
  simp only[go_sem,opv];exact Zax (cut ⟨0,o,Nat.zero_le _,ho,rfl⟩ _ ⟨rfl,(Fc4 rfl rfl rfl rfl),Fc2 ⟨rfl,rfl⟩ ⟨rfl,rfl⟩,fnl⟩)
theorem OkOp.len {o:Opn} (h:OkOp o):o.drops.length≤maxLen:=by have:=h.d;rw[Zd];omega
theorem Zp1 (m:List Eg) (o:Opn) (a b:Tg) (hm:OkM m) (hr:RightM m) (ho:OkOp o):PL.Pure Tryz.prog 108 [tr (Zf m),opv o,tg a,tg b] (opb (ZxL m a b o)):=by
 have hR:=ZlT m a b hm hr;obtain⟨hrl,hro⟩:=Zut (a:=a) (b:=b) hm;have hA:=ZoX (Zen m a b).1 o hrl hro ho;have hc2:(Zen m a b).2=Zbz m a b:=by unfold Zen;split<;>simp_all
 unfold ZxL
 by_cases hc:Zbz m a b=0
 ·rw[if_neg (fun h=>h hc)];rw[hc]at hc2;generalize Zen m a b=rw0 at *;obtain⟨row,c0⟩:=rw0;simp only at hc2 hrl hro hA ⊢;subst hc2;cases hz:(ZB row o).2
  ·simp only[if_true];refine pov Tryz.func108 (by decide) rfl Tryz.ntmps108 Tryz.results108 (by simp) (ZH _) ?_;simp only[go_sem,tr,tg,opv];refine Za (hR) ?_ ?_ ?_;iterate 2 simp only[go_sem,tr,tg]
   simp only[go_sem,Zr9,ZgW];refine Za (hA) ?_ ?_ ?_;iterate 2 simp only[go_sem,ZgW,opv]
   simp only[go_sem,opb,opv,hz];try rfl
  ·simp only[Bool.true_eq_false,if_false];refine pov Tryz.func108 (by decide) rfl Tryz.ntmps108 Tryz.results108 (by simp) (ZH _) ?_;simp only[go_sem,tr,tg,opv];refine Za (hR) ?_ ?_ ?_;iterate 2 simp only[go_sem,tr,tg]
   simp only[go_sem,Zr9,ZgW];refine Za (hA) ?_ ?_ ?_;iterate 2 simp only[go_sem,ZgW,opv]
   simp only[go_sem,opb,opv,hz,Zlv]
 ·have hc':(Zbz m a b !=0)=true:=by simpa using hc
  rw[if_pos hc];refine pov Tryz.func108 (by decide) rfl Tryz.ntmps108 Tryz.results108 (by simp) (ZH _) ?_;simp only[go_sem,tr,tg,opv];refine Za (hR) ?_ ?_ ?_;iterate 2 simp only[go_sem,tr,tg]
  simp only[go_sem,Zr9,ZgW,hc2,hc',opb,ZU];try rfl
def ZjR (x:SeenT):PV:= .tup [opv x.o,.bool x.ok,.int .i64 x.c]
theorem Zeq (x:SeenT):(ZjR x).dids= []:=by simp only[ZjR,PV.dids,PV.didsL,ZiC,List.append_nil]
theorem ZqW {m:List Eg} {a:Tg} (hm:OkM m) (hu:upC m a=0):OkFs (Zaz (Zf m) a).1:=by
 obtain⟨wa,fa,_⟩:=Zar hu;exact ZqU _ (fun e he=>hm.l e (wa.mem e he)) ZqV fa
theorem Zs6 (m:List Eg) (o:Opn) (b:Tg) (hm:OkM m) (hr:RightM m) (ho:OkOp o):PL.Pure Tryz.prog 66 [tr (Zf m),opv o,tg b] (ZjR (toT m o b)):=by
 have hR:=Zgc o ho.len;have hSa:=Zbo m o.sch hm;have hSb:=Zbo m b hm;have hA:=Zp1 m o o.sch b hm hr ho;cases h1:ZcV o
 ·rw[h1]at hR;have ht:toT m o b=⟨default,false,5⟩:=by simp[toT,Zf7,h1]
  rw[ht];refine pov Tryz.func66 (by decide) rfl Tryz.ntmps66 Tryz.results66 (by simp) (Zeq _) ?_;simp only[go_sem,tr,tg,opv];refine Za (hR) ?_ ?_ ?_;iterate 2 simp only[go_sem,opv]
  simp only[go_sem,ZjR,ZU];try rfl
 rw[h1]at hR
 by_cases h2:upC m o.sch=0
 ·have okA:=ZqW hm h2;have hF:=ZkA (Zaz (Zf m) o.sch).1 o okA ho.len;have v2:(Zaz (Zf m) o.sch).2=0:=h2
  by_cases h3:upC m b=0
  ·have v3:(Zaz (Zf m) b).2=0:=h3;cases h4:ZgK (Zaz (Zf m) o.sch).1 o
   ·rw[h4]at hF;have ht:toT m o b=⟨default,false,16⟩:=by simp[toT,Zf7,h1,h2,h3,h4]
    rw[ht];clear ht h4 h2 h3 okA hA;generalize Zaz (Zf m) o.sch=ya at *;obtain⟨A,ca⟩:=ya;generalize Zaz (Zf m) b=yb at *;obtain⟨B,cb⟩:=yb;simp only at v2 v3 hF;subst v2 v3;refine pov Tryz.func66 (by decide) rfl Tryz.ntmps66 Tryz.results66 (by simp) (Zeq _) ?_;simp only[go_sem,tr,tg,opv];refine Za (hR) ?_ ?_ ?_;iterate 2 simp only[go_sem,opv]
    simp only[go_sem];refine Za (hSa) ?_ ?_ ?_;iterate 2 simp only[go_sem,tr,tg]
    simp only[go_sem,ZaB,Zn];refine Za (hSb) ?_ ?_ ?_;iterate 2 simp only[go_sem,tr,tg]
    simp only[go_sem,ZaB,Zn];refine Za (hF) ?_ ?_ ?_;iterate 2 simp only[go_sem,Zn,opv]
    simp only[go_sem,ZjR,ZU];try rfl
   ·rw[h4]at hF;have ht:toT m o b=⟨(ZxL m o.sch b o).1,(ZxL m o.sch b o).2,0⟩:=by simp[toT,Zf7,h1,h2,h3,h4]
    rw[ht];clear ht h4 h2 h3 okA;generalize ZxL m o.sch b o=yw at *;obtain⟨wq,wk⟩:=yw;generalize Zaz (Zf m) o.sch=ya at *;obtain⟨A,ca⟩:=ya;generalize Zaz (Zf m) b=yb at *;obtain⟨B,cb⟩:=yb;simp only at v2 v3 hF;subst v2 v3;refine pov Tryz.func66 (by decide) rfl Tryz.ntmps66 Tryz.results66 (by simp) (Zeq _) ?_;simp only[go_sem,tr,tg,opv];refine Za (hR) ?_ ?_ ?_;iterate 2 simp only[go_sem,opv]
    simp only[go_sem];refine Za (hSa) ?_ ?_ ?_;iterate 2 simp only[go_sem,tr,tg]
    simp only[go_sem,ZaB,Zn];refine Za (hSb) ?_ ?_ ?_;iterate 2 simp only[go_sem,tr,tg]
    simp only[go_sem,ZaB,Zn];refine Za (hF) ?_ ?_ ?_;iterate 2 simp only[go_sem,Zn,opv]
    simp only[go_sem];refine Za (hA) ?_ ?_ ?_;iterate 2 simp only[go_sem,tr,opv,tg]
    simp only[go_sem,opb,opv,ZjR]
  ·have v3:((Zaz (Zf m) b).2 !=0)=true:=by have h':(Zaz (Zf m) b).2≠0:=h3;simpa using h'
   have ht:toT m o b=⟨default,false,(Zaz (Zf m) b).2⟩:=by
    have e:upC m b=(Zaz (Zf m) b).2:=rfl;rw[←e];simp[toT,Zf7,h1,h2,h3]
   rw[ht];clear ht h2 h3 okA hA;generalize Zaz (Zf m) o.sch=ya at *;obtain⟨A,ca⟩:=ya;generalize Zaz (Zf m) b=yb at *;obtain⟨B,cb⟩:=yb;simp only at v2 v3 hF;subst v2;refine pov Tryz.func66 (by decide) rfl Tryz.ntmps66 Tryz.results66 (by simp) (Zeq _) ?_;simp only[go_sem,tr,tg,opv];refine Za (hR) ?_ ?_ ?_;iterate 2 simp only[go_sem,opv]
   simp only[go_sem];refine Za (hSa) ?_ ?_ ?_;iterate 2 simp only[go_sem,tr,tg]
   simp only[go_sem,ZaB,Zn];refine Za (hSb) ?_ ?_ ?_;iterate 2 simp only[go_sem,tr,tg]
   simp only[go_sem,ZaB,Zn,v3,ZjR,ZU];try rfl
 ·have v2:((Zaz (Zf m) o.sch).2 !=0)=true:=by have h':(Zaz (Zf m) o.sch).2≠0:=h2;simpa using h'
  have ht:toT m o b=⟨default,false,(Zaz (Zf m) o.sch).2⟩:=by
   have e:upC m o.sch=(Zaz (Zf m) o.sch).2:=rfl;rw[←e];simp[toT,Zf7,h1,h2]
  rw[ht];clear ht h2 hA;generalize Zaz (Zf m) o.sch=ya at *;obtain⟨A,ca⟩:=ya;simp only at v2;refine pov Tryz.func66 (by decide) rfl Tryz.ntmps66 Tryz.results66 (by simp) (Zeq _) ?_;simp only[go_sem,tr,tg,opv];refine Za (hR) ?_ ?_ ?_;iterate 2 simp only[go_sem,opv]
  simp only[go_sem];refine Za (hSa) ?_ ?_ ?_;iterate 2 simp only[go_sem,tr,tg]
  simp only[go_sem,ZaB,Zn,v2,ZjR,ZU];try rfl
theorem Zo1 (m:List Eg) (o:Opn) (hm:OkM m) (ho:OkOp o):PL.Pure Tryz.prog 16 [tr (Zf m),opv o] (.bool (Zfv m o)):=by
 have hR:=Zgc o ho.len;have hSa:=Zbo m o.sch hm;unfold Zfv;cases h1:ZcV o
 ·rw[h1]at hR;refine pov Tryz.func16 (by decide) rfl Tryz.ntmps16 Tryz.results16 (by simp) rfl ?_;simp only[go_sem,tr,opv];refine Za (hR) ?_ ?_ ?_;iterate 2 simp only[go_sem,opv]
  simp only[go_sem,Bool.false_and]
 rw[h1]at hR
 by_cases h2:upC m o.sch=0
 ·have hF:=ZkA (Zaz (Zf m) o.sch).1 o (ZqW hm h2) ho.len;rw[decide_eq_true h2];have v2:(Zaz (Zf m) o.sch).2=0:=h2;generalize Zaz (Zf m) o.sch=ya at *;obtain⟨A,ca⟩:=ya;simp only at v2 hF;subst v2;refine pov Tryz.func16 (by decide) rfl Tryz.ntmps16 Tryz.results16 (by simp) rfl ?_;simp only[go_sem,tr,opv];refine Za (hR) ?_ ?_ ?_;iterate 2 simp only[go_sem,opv]
  simp only[go_sem,tg];refine Za (hSa) ?_ ?_ ?_;iterate 2 simp only[go_sem,tr,tg]
  simp only[go_sem,ZaB,Zn];refine Za (hF) ?_ ?_ ?_;iterate 2 simp only[go_sem,Zn,opv]
  simp only[go_sem,Bool.true_and]
 ·have v2:((Zaz (Zf m) o.sch).2==0)=false:=by have h':(Zaz (Zf m) o.sch).2≠0:=h2;simpa using h'
  rw[decide_eq_false h2];refine pov Tryz.func16 (by decide) rfl Tryz.ntmps16 Tryz.results16 (by simp) rfl ?_;simp only[go_sem,tr,opv];refine Za (hR) ?_ ?_ ?_;iterate 2 simp only[go_sem,opv]
  simp only[go_sem,tg];refine Za (hSa) ?_ ?_ ?_;iterate 2 simp only[go_sem,tr,tg]
  simp only[go_sem,ZaB,Zn,v2,Bool.false_and,Bool.and_false]
open Go.PL
theorem Zpj (f:Fd) (l:List Str) (hf:f.cases'.length≤maxLen) (hl:l.length≤maxLen):PL.Pure Tryz.prog 165 [fld f,ZaM l] (.bool (l.all (Zbg f))):=by
 refine pov Tryz.func165 (by decide) rfl Tryz.ntmps165 Tryz.results165 (by simp) rfl ?_;simp only[go_sem,fld,ZaM];refine ZI (ι:= { x:Nat // x≤(l).length∧(∀j,j<x→Zbg f (l.getD j [])=true) }) 18 (fun x=> [(2,.ptr 2 0),(7,ZaM l),(8,.int .i64 (l.length:Int)),(9,.int .i64 (x.1:Int))]) (fun x=> [(2,Zje f,false)]) (fun x=> []) (fun x=>(l).length-x.1) ⟨0,Nat.zero_le _,fun j hj=>absurd hj (Nat.not_lt_zero j)⟩ ⟨rfl,(Fc4 rfl rfl rfl rfl),(fcs ⟨rfl,rfl⟩ fnl),fnl⟩ (fun x=>⟨(Fc4 rfl rfl rfl rfl),(fcs rfl fnl)⟩) (fun x=> ?_);obtain⟨k,hk,hI⟩:=x;simp only at hk hI ⊢
 by_cases h:(k:Int)<(l.length:Int)
 ·(have hka:k<(l).length:=by omega);(have w1:=Zcd hka (hl));(have i1:(0:Int)≤(k:Int):=by omega)
  have hF:=Zkx f (l.getD k []) hf;cases hq:Zbg f (l.getD k [])
  ·rw[hq]at hF;have hz:=Znd (p:=Zbg f) hka hq;simp only[go_sem,ZaM,h,ZR hka,i1,Zje];refine Za (hF) ?_ ?_ ?_;iterate 2 simp only[go_sem,fld]
   simp only[go_sem,hz]
  ·rw[hq]at hF;simp only[go_sem,ZaM,h,ZR hka,i1,Zje];refine Za (hF) ?_ ?_ ?_;iterate 2 simp only[go_sem,fld]
   simp only[go_sem,w1];exact⟨⟨k+1,by(try simp only);omega,Zp hI hq⟩,by show(l).length-(k+1)<(l).length-k;omega,⟨rfl,(Fc4 rfl rfl rfl rfl),(fcs ⟨rfl,rfl⟩ fnl),fnl⟩⟩
 ·have hz:=Zqo (p:=Zbg f) (d:= []) (l:=l) (fun j hj=>hI j (by omega));simp only[go_sem,h,hz]
theorem Zry (f:Fd) (e:En) (hl:f.cases'.length≤maxLen) (he:e.l.length≤maxLen):PL.Pure Tryz.prog 123 [fld f,ent e] (.bool (Zbm f e)):=by
 have hR:=Zd1 f hl;have hA:=Zpj f e.l hl he;cases hr:ZO f
 ·rw[hr]at hR;refine pov Tryz.func123 (by decide) rfl Tryz.ntmps123 Tryz.results123 (by simp) rfl ?_;simp only[go_sem,fld,ent];refine Za (hR) ?_ ?_ ?_;iterate 2 simp only[go_sem,fld]
  simp only[go_sem,Zbm,hr,Bool.false_and]
 ·rw[hr]at hR
  by_cases ha:e.at'=f.at'
  ·have ha':=decide_eq_true ha
   by_cases h1:f.kind=1
   ·have k1:(f.kind==1)=true:=by rw[h1];rfl
    have hx:Zbm f e=ZtI e:=by simp only[Zbm,hr,ha',Bool.and_self,Bool.true_and,h1,if_true]
    rw[hx];refine pov Tryz.func123 (by decide) rfl Tryz.ntmps123 Tryz.results123 (by simp) rfl ?_;simp only[go_sem,fld,ent];refine Za (hR) ?_ ?_ ?_;iterate 2 simp only[go_sem,fld]
    simp only[go_sem,Zt,ha',k1];repeat' (first|(refine ZA (fun h=> ?_) (fun h=> ?_)<;>(try simp only[go_sem,h]))|(refine Zz (fun h=> ?_) (fun h=> ?_)<;>(try simp only[go_sem,h]))|(refine ZN (fun h=> ?_) (fun h=> ?_)<;>(try simp only[go_sem,h]))|((refine Ze (by kernel_rfl) (by kernel_rfl) ?_);(try simp only[go_sem])))
    all_goals (simp_all[ZtI];try(first|omega|(rw[decide_eq_true (show(-4503599627370497:Int)<e.n by omega),decide_eq_true (show e.n<4503599627370497 by omega)];simp)))
   ·have k1:(f.kind==1)=false:=beq_eq_false_iff_ne.2 h1;have hx:Zbm f e=(Zl1 f e&&Zkf f e):=by simp only[Zbm,hr,ha',Bool.and_self,Bool.true_and,h1,if_false]
    rw[hx]
    by_cases hn:e.n=0
    ·have n1:(e.n !=0)=false:=by rw[hn];rfl
     by_cases h4:f.kind=4
     ·have k4:(f.kind==4)=true:=by rw[h4];rfl
      have hx2:(Zl1 f e&&Zkf f e)=(decide ((e.l.length:Int)≤400)&&e.l.all (Zbg f)):=by
       simp only[Zl1,Zkf,h4,if_true,hn,decide_true,Bool.and_true];congr 1;rw[Bool.eq_iff_iff];simp
      rw[hx2]
      by_cases h5:(e.l.length:Int)≤400
      ·refine pov Tryz.func123 (by decide) rfl Tryz.ntmps123 Tryz.results123 (by simp) rfl ?_;simp only[go_sem,fld,ent];refine Za (hR) ?_ ?_ ?_;iterate 2 simp only[go_sem,fld]
       simp only[go_sem,Zt,ha',k1,n1,k4,h5];refine Za (hA) ?_ ?_ ?_;iterate 2 simp only[go_sem,fld,ZaM]
       simp only[go_sem,decide_eq_true h5,Bool.true_and]
      ·refine pov Tryz.func123 (by decide) rfl Tryz.ntmps123 Tryz.results123 (by simp) rfl ?_;simp only[go_sem,fld,ent];refine Za (hR) ?_ ?_ ?_;iterate 2 simp only[go_sem,fld]
       simp only[go_sem,Zt,ha',k1,n1,k4,h5,Bool.false_and]
     ·have k4:(f.kind==4)=false:=beq_eq_false_iff_ne.2 h4;have hx2:(Zl1 f e&&Zkf f e)=(((e.l.length:Int)==1)&&e.l.all (Zbg f)):=by
       simp only[Zl1,Zkf,h4,if_false,hn,decide_true,Bool.and_true];congr 1
      rw[hx2];cases h5:(e.l.length:Int)==1
      ·refine pov Tryz.func123 (by decide) rfl Tryz.ntmps123 Tryz.results123 (by simp) rfl ?_;simp only[go_sem,fld,ent];refine Za (hR) ?_ ?_ ?_;iterate 2 simp only[go_sem,fld]
       simp only[go_sem,Zt,ha',k1,n1,k4,h5,Bool.false_and]
      ·refine pov Tryz.func123 (by decide) rfl Tryz.ntmps123 Tryz.results123 (by simp) rfl ?_;simp only[go_sem,fld,ent];refine Za (hR) ?_ ?_ ?_;iterate 2 simp only[go_sem,fld]
       simp only[go_sem,Zt,ha',k1,n1,k4,h5];refine Za (hA) ?_ ?_ ?_;iterate 2 simp only[go_sem,fld,ZaM]
       simp only[go_sem,Bool.true_and]
    ·have n1:(e.n !=0)=true:=bne_iff_ne.2 hn;have hx2:(Zl1 f e&&Zkf f e)=false:=by simp[Zkf,hn]
     rw[hx2];refine pov Tryz.func123 (by decide) rfl Tryz.ntmps123 Tryz.results123 (by simp) rfl ?_;simp only[go_sem,fld,ent];refine Za (hR) ?_ ?_ ?_;iterate 2 simp only[go_sem,fld]
     simp only[go_sem,Zt,ha',k1,n1]
  ·have ha':=decide_eq_false ha;have hx:Zbm f e=false:=by simp only[Zbm,ha',Bool.and_false,Bool.false_and]
   rw[hx];refine pov Tryz.func123 (by decide) rfl Tryz.ntmps123 Tryz.results123 (by simp) rfl ?_;simp only[go_sem,fld,ent];refine Za (hR) ?_ ?_ ?_;iterate 2 simp only[go_sem,fld]
   simp only[go_sem,Zt,ha']
theorem Zfl {l:List En} {i:Nat} (h:i<l.length):(l.map ent).getD i .any=ent (l.getD i default):=Zb9 h
theorem Zfm {l:List Rw} {i:Nat} (h:i<l.length):(l.map row).getD i .any=row (l.getD i default):=Zb9 h
theorem Zel (l:List Fd) (es:List En) (hl:l.length≤maxLen) (hes:es.length≤maxLen) (hl':∀f∈l,f.cases'.length≤maxLen) (hes':∀e∈es,e.l.length≤maxLen):PL.Pure Tryz.prog 84 [Zn l,Zaj es] (.bool (Z8 l es)):=by
 by_cases he:l.length=es.length
 ·have he':((l.length:Int) !=(es.length:Int))=false:=by rw[he];exact bne_self_eq_false _
  have hx:Z8 l es=(List.range l.length).all (fun i=>Zbm (l.getD i default) (es.getD i default)):=by simp only[Z8,he,decide_true,Bool.true_and]
  rw[hx];refine pov Tryz.func84 (by decide) rfl Tryz.ntmps84 Tryz.results84 (by simp) rfl ?_;simp only[go_sem,Zn,Zaj,he'];refine ZI (ι:= { x:Nat // x≤(l).length∧(∀j,j<x→Zbm (l.getD j default) (es.getD j default)=true) }) 27 (fun x=> [(1,Zaj es),(12,Zn l),(13,.int .i64 (l.length:Int)),(14,.int .i64 (x.1:Int))]) (fun x=> []) (fun x=> []) (fun x=>(l).length-x.1) ⟨0,Nat.zero_le _,fun j hj=>absurd hj (Nat.not_lt_zero j)⟩ ⟨rfl,(Fc4 rfl rfl rfl rfl),fnl,fnl⟩ (fun x=>⟨(Fc4 rfl rfl rfl rfl),fnl⟩) (fun x=> ?_);obtain⟨k,hk,hI⟩:=x;simp only at hk hI ⊢
  by_cases h:(k:Int)<(l.length:Int)
  ·(have hka:k<(l).length:=by omega);(have w1:=Zcd hka (hl));(have i1:(0:Int)≤(k:Int):=by omega)
   have hkb:k<es.length:=by omega
   have i2:(k:Int)<(es.length:Int):=by omega
   have hF:=Zry (l.getD k default) (es.getD k default) (hl' _ (ZC hka)) (hes' _ (ZC hkb));cases hf:Zbm (l.getD k default) (es.getD k default)
   ·rw[hf]at hF;have hz:=Zag (p:=fun i=>Zbm (l.getD i default) (es.getD i default)) hka hf;simp only[go_sem,Zn,Zaj,h,i1,ZL hka,fld];refine Ze (by kernel_rfl) (by kernel_rfl) ?_;simp only[go_sem,Zfl hkb,ent,i1,i2];refine Za (hF) ?_ ?_ ?_;iterate 2 simp only[go_sem,fld,ent]
    simp only[go_sem,hz]
   ·rw[hf]at hF;simp only[go_sem,Zn,Zaj,h,i1,ZL hka,fld];refine Ze (by kernel_rfl) (by kernel_rfl) ?_;simp only[go_sem,Zfl hkb,ent,i1,i2];refine Za (hF) ?_ ?_ ?_;iterate 2 simp only[go_sem,fld,ent]
    simp only[go_sem,w1];exact⟨⟨k+1,by(try simp only);omega,Zp hI hf⟩,by show(l).length-(k+1)<(l).length-k;omega,⟨rfl,(Fc4 rfl rfl rfl rfl),fnl,fnl⟩⟩
  ·have hz:=Zej (p:=fun i=>Zbm (l.getD i default) (es.getD i default)) (n:=l.length) (fun j hj=>hI j (by omega));simp only[go_sem,h,hz]
 ·have he':((l.length:Int) !=(es.length:Int))=true:=bne_iff_ne.2 (by omega);have hx:Z8 l es=false:=by simp only[Z8,he,decide_false,Bool.false_and]
  rw[hx];refine pov Tryz.func84 (by decide) rfl Tryz.ntmps84 Tryz.results84 (by simp) rfl ?_;simp only[go_sem,Zn,Zaj,he']
end Go.Proofs.YthingdchjkhfbaaGreat
