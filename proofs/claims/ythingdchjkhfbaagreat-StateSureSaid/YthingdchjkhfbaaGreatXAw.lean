/- Contracts of functions and laws of this seat, each for every input that it names: lemmas of the proof. -/
import Derived.Test.YthingdchjkhfbaaGreatXAt
namespace Go.Proofs.YthingdchjkhfbaaGreat
set_option maxHeartbeats 64000000
set_option maxRecDepth 20000
set_option linter.unusedVariables false
set_option linter.unusedSimpArgs false
open Go.PL
def Zgs (x:Ln):Bool:=decide (0<(x.fo.length:Int))||decide (0<(x.ba.length:Int))
def Zu (x:Ln):Bool:=
 if x.kind=2∨x.kind=3 then decide (x.at'=default)&&(decide (x.nm= [])&&(decide (x.ot= [])&&(decide (x.fac=0)&&(!Zgs x&&ZO x.fd))))
 else(Zci x.at'&&decide (x.fd=default))&&(if x.kind=8 then decide (x.fac=0)&&(Za9 x.fo x.ba&&(Za9 x.ba x.fo&&((Zai x.fo x.nm).2&&((Zai x.ba x.ot).2&&(((Zai x.fo x.nm).1==x.ot)&&((Zai x.ba x.ot).1==x.nm))))))
  else !Zgs x&&(if x.kind=6∨x.kind=9 then Zap x.nm&&(Zap x.ot&&(!(x.nm==x.ot)&&(decide (1<x.fac)&&decide (x.fac<1001))))
   else decide (x.fac=0)&&(if x.kind=7∨x.kind=10 then decide (x.nm= [])&&decide ((x.ot.length:Int)<41)
    else decide (x.ot= [])&&(if x.kind=1 then Zap x.nm else if x.kind=4 then decide (x.nm= [])&& !(x.at'.gr== [])else decide (x.kind=5)&&(decide (x.at'.gr= [])&&Zap x.nm)))))
theorem ZwW {t o:List Pr} {s:Str} (h:Za9 t o=true) (hs:ZcZ t s=true):Zap s=true:=by
 simp only[ZcZ,List.any_eq_true,beq_iff_eq]at hs;obtain⟨p,hp,rfl⟩:=hs;obtain⟨i,hi,rfl⟩:=List.getElem_of_mem hp;simp only[Za9,Bool.and_eq_true,List.all_eq_true,List.mem_range]at h;have:=h.2 i hi;simp only[ZcT,Bool.and_eq_true]at this;have h1:=this.1;rw[List.getD_eq_getElem?_getD,List.getElem?_eq_getElem hi]at h1;exact h1
theorem ZeU {x:Ln}:Zgs x=false↔x.fo= []∧x.ba= []:=by
 simp only[Zgs,Bool.or_eq_false_iff,decide_eq_false_iff_not];constructor
 ·rintro ⟨a,b⟩
  exact⟨List.eq_nil_of_length_eq_zero (by omega),List.eq_nil_of_length_eq_zero (by omega)⟩
 ·rintro ⟨a,b⟩
  rw[a,b];exact⟨by decide,by decide⟩
theorem ZwE (x:Ln):ZbN x=Zu x:=by
 obtain⟨kind,at',nm,ot,fac,fd,fo,ba⟩:=x;have ht:=ZeU (x:=⟨kind,at',nm,ot,fac,fd,fo,ba⟩);simp only at ht;have d1:(default:Ln)=⟨0,default,[],[],0,default,[],[]⟩:=rfl
 by_cases k1:kind=1
 ·subst k1;rw[Bool.eq_iff_iff];simp[ZbN,Zu,ZcF,ht];constructor
  ·rintro ⟨⟨a,b,c,d,e⟩,f,g⟩;exact⟨⟨f,c⟩,⟨d,e⟩,b,a,g⟩
  ·rintro ⟨⟨f,c⟩,⟨d,e⟩,b,a,g⟩;exact⟨⟨a,b,c,d,e⟩,f,g⟩
 by_cases k2:kind=2
 ·subst k2;rw[Bool.eq_iff_iff];simp[ZbN,Zu,ZcF,ht,and_assoc]
 by_cases k3:kind=3
 ·subst k3;rw[Bool.eq_iff_iff];simp[ZbN,Zu,ZcF,ht,and_assoc]
 by_cases k4:kind=4
 ·subst k4;rw[Bool.eq_iff_iff];simp[ZbN,Zu,ZcF,ht];constructor
  ·rintro ⟨⟨n,a,b,c,d,e⟩,f,g⟩;exact⟨⟨f,c⟩,⟨d,e⟩,b,a,n,g⟩
  ·rintro ⟨⟨f,c⟩,⟨d,e⟩,b,a,n,g⟩;exact⟨⟨n,a,b,c,d,e⟩,f,g⟩
 by_cases k5:kind=5
 ·subst k5;rw[Bool.eq_iff_iff];simp[ZbN,Zu,ZcF,ht];constructor
  ·rintro ⟨⟨a,b,c,d,e⟩,f,g⟩;exact⟨⟨f,c⟩,⟨d,e⟩,b,a,g⟩
  ·rintro ⟨⟨f,c⟩,⟨d,e⟩,b,a,g⟩;exact⟨⟨a,b,c,d,e⟩,f,g⟩
 by_cases k69:kind=6∨kind=9
 ·have e1:¬(kind=2∨kind=3):=by omega
  have e3:¬(kind=1∨kind=5):=by omega
  have e8:¬kind=8:=by omega
  rw[Bool.eq_iff_iff];simp[ZbN,Zu,ZcF,ht,e1,e3,k69,k1,k4,k5,e8];constructor
  ·rintro ⟨⟨a,b,c⟩,f,g,h,i,j,k⟩;exact⟨⟨f,a⟩,⟨b,c⟩,g,h,i,by omega,by omega⟩
  ·rintro ⟨⟨f,a⟩,⟨b,c⟩,g,h,i,j,k⟩;exact⟨⟨a,b,c⟩,f,g,h,i,by omega,by omega⟩
 by_cases k7:kind=7∨kind=10
 ·have e1:¬(kind=2∨kind=3):=by omega
  have e3:¬(kind=1∨kind=5):=by omega
  have e8:¬kind=8:=by omega
  rw[Bool.eq_iff_iff];simp[ZbN,Zu,ZcF,ht,e1,e3,k69,k7,k1,k4,k5,e8];constructor
  ·rintro ⟨⟨n,b,c,d,e⟩,f,g⟩;exact⟨⟨f,c⟩,⟨d,e⟩,b,n,by omega⟩
  ·rintro ⟨⟨f,c⟩,⟨d,e⟩,b,n,g⟩;exact⟨⟨n,b,c,d,e⟩,f,by omega⟩
 by_cases k8:kind=8
 ·subst k8;rw[Bool.eq_iff_iff];have hn:Za9 fo ba=true→(Zai fo nm).2=true→Zap nm=true:=fun h h'=>ZwW h (by rw[←ZgG];exact h')
  simp[ZbN,Zu,ZcF,ht,rtM];constructor
  ·rintro ⟨⟨a,b⟩,f,g,h,i,⟨j,k⟩,l,m⟩;exact⟨⟨f,b⟩,a,h,i,j,l,k,m⟩
  ·rintro ⟨⟨f,b⟩,a,h,i,j,l,k,m⟩;exact⟨⟨a,b⟩,f,hn h j,h,i,⟨j,k⟩,l,m⟩
 ·have e1:¬(kind=2∨kind=3):=by omega
  have e3:¬(kind=1∨kind=5):=by omega
  simp[ZbN,Zu,ZcF,e1,e3,k69,k7,k1,k4,k5,k8]
theorem Zbn (x:Ln) (hx:OkLn x):PL.Pure Tryz.prog 87 [lns x] (.bool (Zu x)):=by
 rw[←ZwE];exact Zm1 x hx
theorem Zm8 (x:Ln):PL.Pure Tryz.prog 136 [lns x] (.bool (Zgs x)):=by
 refine pov Tryz.func136 (by decide) rfl Tryz.ntmps136 Tryz.results136 (by simp) rfl ?_;simp only[go_sem,lns];repeat' (first|(refine ZA (fun h=> ?_) (fun h=> ?_)<;>(try simp only[go_sem,h]))|(refine Zz (fun h=> ?_) (fun h=> ?_)<;>(try simp only[go_sem,h]))|(refine ZN (fun h=> ?_) (fun h=> ?_)<;>(try simp only[go_sem,h]))|((refine Ze (by kernel_rfl) (by kernel_rfl) ?_);(try simp only[go_sem])))
 all_goals simp_all[Zgs]
theorem ZrE (x:Ln) (hx:OkLn x):PL.Pure Tryz.prog 139 [lns x] (.bool (decide (x.fd=default))):=by
 have h:=ZiQ x.fd default (by have:=hx.c;rw[Zd];omega) (Nat.zero_le _);refine pov Tryz.func139 (by decide) rfl Tryz.ntmps139 Tryz.results139 (by simp) rfl ?_;simp only[go_sem,lns];refine Za h ?_ ?_ ?_
 ·simp only[go_sem]
 ·rfl
 ·simp only[go_sem]
theorem Zm6 (x:Ln) (hx:OkLn x):PL.Pure Tryz.prog 102 [lns x] (.bool (Zu x)):=by
 have mf:x.fo.length≤maxLen:=by have:=hx.f;rw[Zd];omega
 have mb:x.ba.length≤maxLen:=by have:=hx.b;rw[Zd];omega
 have hF:=ZoW x.fd (by have:=hx.c;rw[Zd];omega);have hT:=Zm8 x;have hA:=ZiS x.at';have hO:=ZrE x hx;have h1:=ZkC x.fo x.nm mf;have h2:=ZkC x.ba x.ot mb;have h3:=ZiU x.fo x.ba hx.b;have h4:=ZiU x.ba x.fo hx.f;have h5:=Zc0 x.nm;have h6:=Zc0 x.ot;unfold Zu;generalize Zai x.fo x.nm=c at *;generalize Zai x.ba x.ot=d at *;obtain⟨c1,c2⟩:=c;obtain⟨d1,d2⟩:=d;have rd:∀a:Rf,(a.sc==0&&(a.gr== []&&a.nm== []))=decide (a=default):=fun a=>Zt a default
 refine pov Tryz.func102 (by decide) rfl Tryz.ntmps102 Tryz.results102 (by simp) rfl ?_;simp only[go_sem,lns,rd];repeat' (first|(refine ZA (fun h=> ?_) (fun h=> ?_)<;>(try simp only[go_sem,h,ZdP,rd]))|(refine Zz (fun h=> ?_) (fun h=> ?_)<;>(try simp only[go_sem,h,ZdP,rd]))|(refine ZN (fun h=> ?_) (fun h=> ?_)<;>(try simp only[go_sem,h,ZdP,rd]))|((refine Za (hF) ?_ ?_ ?_);(focus simp only[go_sem,lns,fld,ref,prs]);(focus exact rfl);(try simp only[go_sem,ZdP,rd]))|((refine Za (hT) ?_ ?_ ?_);(focus simp only[go_sem,lns,fld,ref,prs]);(focus exact rfl);(try simp only[go_sem,ZdP,rd]))|((refine Za (hA) ?_ ?_ ?_);(focus simp only[go_sem,lns,fld,ref,prs]);(focus exact rfl);(try simp only[go_sem,ZdP,rd]))|((refine Za (hO) ?_ ?_ ?_);(focus simp only[go_sem,lns,fld,ref,prs]);(focus exact rfl);(try simp only[go_sem,ZdP,rd]))|((refine Za (h1) ?_ ?_ ?_);(focus simp only[go_sem,lns,fld,ref,prs]);(focus exact rfl);(try simp only[go_sem,ZdP,rd]))|((refine Za (h2) ?_ ?_ ?_);(focus simp only[go_sem,lns,fld,ref,prs]);(focus exact rfl);(try simp only[go_sem,ZdP,rd]))|((refine Za (h3) ?_ ?_ ?_);(focus simp only[go_sem,lns,fld,ref,prs]);(focus exact rfl);(try simp only[go_sem,ZdP,rd]))|((refine Za (h4) ?_ ?_ ?_);(focus simp only[go_sem,lns,fld,ref,prs]);(focus exact rfl);(try simp only[go_sem,ZdP,rd]))|((refine Za (h5) ?_ ?_ ?_);(focus simp only[go_sem,lns,fld,ref,prs]);(focus exact rfl);(try simp only[go_sem,ZdP,rd]))|((refine Za (h6) ?_ ?_ ?_);(focus simp only[go_sem,lns,fld,ref,prs]);(focus exact rfl);(try simp only[go_sem,ZdP,rd]))|((refine Ze (by kernel_rfl) (by kernel_rfl) ?_);(try simp only[go_sem,ZdP,rd])))
 all_goals (clear hF hT hA hO h1 h2 h3 h4 h5 h6 hx mf mb rd;simp_all)
open Go.PL
theorem Zq1 (r:Rf):(ref r).dids= []:=by simp only[ref,PV.dids,PV.didsL,List.append_nil]
theorem Ztx (l:List Rf):PV.didsL (l.map ref)= []:=by
 induction l with
 |nil=>rfl
 |cons t l ih=>simp only[List.map_cons,PV.didsL,ih,Zq1,List.append_nil]
theorem ZcG (l:List Rf):(refs l).dids= []:=by simp only[refs,PV.dids,Ztx]
def Zv (r:Rf) (s:Str):Rf:=⟨r.sc,r.gr,s⟩
theorem ZeB (r:Rf) (s:Str):PL.Pure Tryz.prog 134 [ref r,.str s] (ref (Zv r s)):=by
 refine pov Tryz.func134 (by decide) rfl Tryz.ntmps134 Tryz.results134 (by simp) (Zq1 _) ?_;simp only[go_sem,ref,Zv]
def Zl (x:Ln):List Rf:=if x.kind=2 then []else if x.kind=3 then [x.fd.at']else if x.kind=9 then [Zv x.at' x.nm,Zv x.at' x.ot]else [x.at']
def Zc (x:Ln):List Rf:=
 if x.kind=1 then [Zv x.at' x.nm]else if x.kind=2 then [x.fd.at']else if x.kind=3 then []else if x.kind=4 then [⟨x.at'.sc,[],x.at'.nm⟩]
 else if x.kind=5 then [⟨x.at'.sc,x.nm,x.at'.nm⟩]else if x.kind=6 then [Zv x.at' x.nm,Zv x.at' x.ot]else [x.at']
def Zil (x:Ln):List Rf:=if Zu x=true then Zl x else []
def ZeX (x:Ln):List Rf:=if Zu x=true then Zc x else []
theorem Ze7 (x:Ln) (hx:OkLn x):PL.Pure Tryz.prog 89 [lns x] (refs (Zil x)):=by
 have hR:=Zbn x hx;have h1:=ZeB x.at' x.nm;have h2:=ZeB x.at' x.ot;unfold Zil;refine pov Tryz.func89 (by decide) rfl Tryz.ntmps89 Tryz.results89 (by simp) (ZcG _) ?_;simp only[go_sem,lns];repeat' (first|(refine ZA (fun h=> ?_) (fun h=> ?_)<;>(try simp only[go_sem,h,ref]))|(refine Zz (fun h=> ?_) (fun h=> ?_)<;>(try simp only[go_sem,h,ref]))|(refine ZN (fun h=> ?_) (fun h=> ?_)<;>(try simp only[go_sem,h,ref]))|((refine Za (hR) ?_ ?_ ?_);(focus simp only[go_sem,lns,ref]);(focus exact rfl);(try simp only[go_sem,ref]))|((refine Za (h1) ?_ ?_ ?_);(focus simp only[go_sem,lns,ref]);(focus exact rfl);(try simp only[go_sem,ref]))|((refine Za (h2) ?_ ?_ ?_);(focus simp only[go_sem,lns,ref]);(focus exact rfl);(try simp only[go_sem,ref]))|((refine Ze (by kernel_rfl) (by kernel_rfl) ?_);(try simp only[go_sem,ref])))
 all_goals (clear hR h1 h2 hx;simp_all[Zl,refs,Zv,ref])
theorem Zd0 (x:Ln) (hx:OkLn x):PL.Pure Tryz.prog 124 [lns x] (refs (ZeX x)):=by
 have hR:=Zbn x hx;have h1:=ZeB x.at' x.nm;have h2:=ZeB x.at' x.ot;unfold ZeX;refine pov Tryz.func124 (by decide) rfl Tryz.ntmps124 Tryz.results124 (by simp) (ZcG _) ?_;simp only[go_sem,lns];repeat' (first|(refine ZA (fun h=> ?_) (fun h=> ?_)<;>(try simp only[go_sem,h,ref]))|(refine Zz (fun h=> ?_) (fun h=> ?_)<;>(try simp only[go_sem,h,ref]))|(refine ZN (fun h=> ?_) (fun h=> ?_)<;>(try simp only[go_sem,h,ref]))|((refine Za (hR) ?_ ?_ ?_);(focus simp only[go_sem,lns,ref]);(focus exact rfl);(try simp only[go_sem,ref]))|((refine Za (h1) ?_ ?_ ?_);(focus simp only[go_sem,lns,ref]);(focus exact rfl);(try simp only[go_sem,ref]))|((refine Za (h2) ?_ ?_ ?_);(focus simp only[go_sem,lns,ref]);(focus exact rfl);(try simp only[go_sem,ref]))|((refine Ze (by kernel_rfl) (by kernel_rfl) ?_);(try simp only[go_sem,ref])))
 all_goals (clear hR h1 h2 hx;simp_all[Zc,refs,Zv,ref])
structure OkFs (l:List Fd):Prop where
 n:l.length≤1000
 c:∀f∈l,f.cases'.length≤1000000
theorem Zpm {α:Type} {l:List α} {k:Nat} {d:α}:l.getD k d∈l∨l.getD k d=d:=by
 by_cases h:k<l.length
 ·exact .inl (ZC h)
 ·right;rw[List.getD_eq_getElem?_getD,List.getElem?_eq_none (by omega)];rfl
theorem ZqT {l:List Fd} (h:OkFs l) (r:Rf):(Zy l r).1.cases'.length≤1000000:=by
 unfold Zy;split
 ·exact Nat.zero_le _
 ·rcases Zpm (l:=l) (k:=(idx (atF r) l).toNat) (d:=default)with h'|h'
  ·exact h.c _ h'
  ·rw[h'];exact Nat.zero_le _
def Zco (l:List Fd) (x:Ln):List Fd×Bool:=
 if(Zy l (Zv x.at' x.nm)).2≠0∨(Zy l (Zv x.at' x.nm)).1.kind≠1 then([],false)
 else if(Zy l (Zv x.at' x.ot)).2≠0∨(Zy l (Zv x.at' x.ot)).1.kind≠1∨(Zy l (Zv x.at' x.ot)).1.worth≠IntKind.i64.wrap ((Zy l (Zv x.at' x.nm)).1.worth*x.fac)then([],false)
 else([⟨x.at',1,[],[],(Zy l (Zv x.at' x.nm)).1.worth⟩],true)
def Zf4 (x:List Fd×Bool):PV:= .tup [Zn x.1,.bool x.2]
theorem Zbd (x:List Fd×Bool):(Zf4 x).dids= []:=by simp only[Zf4,PV.dids,PV.didsL,Zfi,List.append_nil]
theorem Zpx (l:List Fd) (x:Ln) (hl:OkFs l) (hx:OkLn x) (hr:Zu x=true) (h9:x.kind=9):PL.Pure Tryz.prog 132 [Zn l,lns x] (Zf4 (Zco l x)):=by
 have hG:=Ze7 x hx;have hg:Zil x= [Zv x.at' x.nm,Zv x.at' x.ot]:=by simp[Zil,Zl,hr,h9]
 rw[hg]at hG;have f1:=Zd2 l (Zv x.at' x.nm) (by have:=hl.n;omega) hl.c;have f2:=Zd2 l (Zv x.at' x.ot) (by have:=hl.n;omega) hl.c;unfold Zco;generalize Zy l (Zv x.at' x.nm)=a at *;generalize Zy l (Zv x.at' x.ot)=b at *;obtain⟨a,a0⟩:=a;obtain⟨b,b0⟩:=b;have o1:((0:Int)<1+1)=True:=by simp
 refine pov Tryz.func132 (by decide) rfl Tryz.ntmps132 Tryz.results132 (by simp) (Zbd _) ?_;simp only[go_sem,Zn,lns];refine Za (hG) ?_ ?_ ?_;iterate 2 simp only[go_sem,lns]
 simp only[go_sem,refs,ref];refine Za (f1) ?_ ?_ ?_;iterate 2 simp only[go_sem,Zn,ref]
 simp only[go_sem,ZhG,fld];repeat' (first|(refine ZA (fun h=> ?_) (fun h=> ?_)<;>(try simp only[go_sem,h,refs,ref,ZhG,fld,Zn]))|(refine Zz (fun h=> ?_) (fun h=> ?_)<;>(try simp only[go_sem,h,refs,ref,ZhG,fld,Zn]))|(refine ZN (fun h=> ?_) (fun h=> ?_)<;>(try simp only[go_sem,h,refs,ref,ZhG,fld,Zn]))|((refine Za (f2) ?_ ?_ ?_);(focus simp only[go_sem,Zn,ref]);(focus exact rfl);(try simp only[go_sem,refs,ref,ZhG,fld,Zn]))|((refine Ze (by kernel_rfl) (by kernel_rfl) ?_);(try simp only[go_sem,refs,ref,ZhG,fld,Zn])))
 all_goals (clear hG f1 f2 hl hx;simp_all[Zf4,Zn,fld])
open Go.PL
def Zbc (l:List Fd) (x:Ln):List Fd×Bool:=
 if x.kind=2 then([x.fd],true)
 else if x.kind=3 then([],decide ((Zy l x.fd.at').2=0)&&decide ((Zy l x.fd.at').1=x.fd))
 else if x.kind=9 then Zco l x
 else if(Zy l x.at').2≠0 then([],false)
 else if x.kind=6 then([⟨Zv x.at' x.nm,1,[],[],(Zy l x.at').1.worth⟩,⟨Zv x.at' x.ot,1,[],[],IntKind.i64.wrap ((Zy l x.at').1.worth*x.fac)⟩],decide ((Zy l x.at').1.kind=1))
 else if x.kind=7 then([⟨x.at',4,[],[],0⟩],decide ((Zy l x.at').1.kind=2)&&decide ((Zy l x.at').1.df=x.ot))
 else if x.kind=10 then([⟨x.at',2,x.ot,[],0⟩],decide ((Zy l x.at').1.kind=4))
 else if x.kind=8 then([⟨x.at',3,x.ot,Zbi x.ba,0⟩],decide ((Zy l x.at').1=⟨x.at',3,x.nm,Zbi x.fo,0⟩))
 else([⟨(Zc x).getD 0 default,(Zy l x.at').1.kind,(Zy l x.at').1.df,(Zy l x.at').1.cases',(Zy l x.at').1.worth⟩],true)
theorem Zk4 (l:List Pr):(Zbi l).length=l.length:=by simp[Zbi]
theorem ZlZ (l:List Fd) (x:Ln) (hl:OkFs l) (hx:OkLn x) (hr:Zu x=true):PL.Pure Tryz.prog 88 [Zn l,lns x] (Zf4 (Zbc l x)):=by
 have hn:=hl.n;have hO:=Zb2 x.fd hx.c;have okA:=ZqT hl x.at';have okF:=ZqT hl x.fd.at';have f1:=Zd2 l x.fd.at' (by omega) hl.c;have f2:=Zd2 l x.at' (by omega) hl.c;have s1:=Zhn (Zy l x.fd.at').1 x.fd (by rw[Zd];omega) (by have:=hx.c;rw[Zd];omega);have s2:=Zhn (Zy l x.at').1 ⟨x.at',3,x.nm,Zbi x.fo,0⟩ (by rw[Zd];omega) (by have:=hx.f;simp only[Zk4];rw[Zd];omega);have r1:=Zk5 x.fo hx.f;have r2:=Zk5 x.ba hx.b;have hC:=Zd0 x hx;have hc:ZeX x=Zc x:=by simp[ZeX,hr]
 rw[hc]at hC;unfold Zbc
 by_cases k9:x.kind=9
 ·have hM:=Zpx l x hl hx hr k9;rw[if_neg (by omega),if_neg (by omega),if_pos k9];generalize Zco l x=y at *;obtain⟨y,b⟩:=y;have e2:(x.kind==2)=false:=by rw[k9];rfl
  have e3:(x.kind==3)=false:=by rw[k9];rfl
  have e9:(x.kind==9)=true:=by rw[k9];rfl
  refine pov Tryz.func88 (by decide) rfl Tryz.ntmps88 Tryz.results88 (by simp) (Zbd _) ?_;simp only[go_sem,Zn,lns,e2,e3,e9];refine Za (hM) ?_ ?_ ?_;iterate 2 simp only[go_sem,Zn,lns]
  simp only[go_sem,Zf4,Zn]
 have e9:(x.kind==9)=false:=beq_eq_false_iff_ne.2 k9;rw[if_neg k9];generalize Zy l x.fd.at'=a at *;generalize Zy l x.at'=b at *;obtain⟨a,a0⟩:=a;obtain⟨b,b0⟩:=b;simp only at *
 by_cases k2:x.kind=2
 ·have e2:(x.kind==2)=true:=by rw[k2];rfl
  rw[if_pos k2];refine pov Tryz.func88 (by decide) rfl Tryz.ntmps88 Tryz.results88 (by simp) (Zbd _) ?_;simp only[go_sem,Zn,lns,e2];refine Za (hO) ?_ ?_ ?_;iterate 2 simp only[go_sem,fld]
  simp only[go_sem,Zf4,Zn,fld]
 have e2:(x.kind==2)=false:=beq_eq_false_iff_ne.2 k2;rw[if_neg k2]
 by_cases k3:x.kind=3
 ·have e3:(x.kind==3)=true:=by rw[k3];rfl
  rw[if_pos k3];refine pov Tryz.func88 (by decide) rfl Tryz.ntmps88 Tryz.results88 (by simp) (Zbd _) ?_;simp only[go_sem,Zn,lns,e2,e3];refine Za (f1) ?_ ?_ ?_;iterate 2 simp only[go_sem,Zn,ref]
  simp only[go_sem,ZhG,fld];repeat' (first|(refine ZA (fun h=> ?_) (fun h=> ?_)<;>(try simp only[go_sem,h,ZhG,fld,Zn]))|(refine Zz (fun h=> ?_) (fun h=> ?_)<;>(try simp only[go_sem,h,ZhG,fld,Zn]))|(refine ZN (fun h=> ?_) (fun h=> ?_)<;>(try simp only[go_sem,h,ZhG,fld,Zn]))|((refine Za (s1) ?_ ?_ ?_);(focus simp only[go_sem,fld]);(focus exact rfl);(try simp only[go_sem,ZhG,fld,Zn]))|((refine Ze (by kernel_rfl) (by kernel_rfl) ?_);(try simp only[go_sem,ZhG,fld,Zn])))
  all_goals (clear hO f1 f2 s1 s2 r1 r2 hC hl hx okA okF;simp_all[Zf4,Zn,fld])
 have e3:(x.kind==3)=false:=beq_eq_false_iff_ne.2 k3;rw[if_neg k3]
 by_cases hb:b0=0
 ·subst hb;simp only[ne_eq,not_true_eq_false,if_false]
  by_cases k6:x.kind=6
  ·have e6:(x.kind==6)=true:=by rw[k6];rfl
   have hcc:Zc x= [Zv x.at' x.nm,Zv x.at' x.ot]:=by simp[Zc,k6]
   rw[hcc]at hC;rw[if_pos k6];refine pov Tryz.func88 (by decide) rfl Tryz.ntmps88 Tryz.results88 (by simp) (Zbd _) ?_;simp only[go_sem,Zn,lns,e2,e3,e9];refine Za (f2) ?_ ?_ ?_;iterate 2 simp only[go_sem,Zn,ref]
   simp only[go_sem,ZhG,fld];refine Za (hC) ?_ ?_ ?_;iterate 2 simp only[go_sem,lns]
   simp only[go_sem,refs,ref,e6];repeat' (first|(refine ZA (fun h=> ?_) (fun h=> ?_)<;>(try simp only[go_sem,h,refs,ref,fld]))|(refine Zz (fun h=> ?_) (fun h=> ?_)<;>(try simp only[go_sem,h,refs,ref,fld]))|(refine ZN (fun h=> ?_) (fun h=> ?_)<;>(try simp only[go_sem,h,refs,ref,fld]))|((refine Ze (by kernel_rfl) (by kernel_rfl) ?_);(try simp only[go_sem,refs,ref,fld])))
   all_goals (clear hO f1 f2 s1 s2 r1 r2 hC hl hx okA okF;simp_all[Zf4,Zn,fld]<;>(first|rfl|(rw[Bool.eq_iff_iff];simp)))
  have e6:(x.kind==6)=false:=beq_eq_false_iff_ne.2 k6;rw[if_neg k6]
  by_cases k7:x.kind=7
  ·have e7:(x.kind==7)=true:=by rw[k7];rfl
   rw[if_pos k7];refine pov Tryz.func88 (by decide) rfl Tryz.ntmps88 Tryz.results88 (by simp) (Zbd _) ?_;simp only[go_sem,Zn,lns,e2,e3,e9];refine Za (f2) ?_ ?_ ?_;iterate 2 simp only[go_sem,Zn,ref]
   simp only[go_sem,ZhG,fld];refine Za (hC) ?_ ?_ ?_;iterate 2 simp only[go_sem,lns]
   simp only[go_sem,refs,e6,e7];repeat' (first|(refine ZA (fun h=> ?_) (fun h=> ?_)<;>(try simp only[go_sem,h]))|(refine Zz (fun h=> ?_) (fun h=> ?_)<;>(try simp only[go_sem,h]))|(refine ZN (fun h=> ?_) (fun h=> ?_)<;>(try simp only[go_sem,h]))|((refine Ze (by kernel_rfl) (by kernel_rfl) ?_);(try simp only[go_sem])))
   all_goals (clear hO f1 f2 s1 s2 r1 r2 hC hl hx okA okF;simp_all[Zf4,Zn,fld]<;>(first|rfl|(rw[Bool.eq_iff_iff];simp)))
  have e7:(x.kind==7)=false:=beq_eq_false_iff_ne.2 k7;rw[if_neg k7]
  by_cases k10:x.kind=10
  ·have e10:(x.kind==10)=true:=by rw[k10];rfl
   rw[if_pos k10];refine pov Tryz.func88 (by decide) rfl Tryz.ntmps88 Tryz.results88 (by simp) (Zbd _) ?_;simp only[go_sem,Zn,lns,e2,e3,e9];refine Za (f2) ?_ ?_ ?_;iterate 2 simp only[go_sem,Zn,ref]
   simp only[go_sem,ZhG,fld];refine Za (hC) ?_ ?_ ?_;iterate 2 simp only[go_sem,lns]
   simp only[go_sem,refs,e6,e7,e10];repeat' (first|(refine ZA (fun h=> ?_) (fun h=> ?_)<;>(try simp only[go_sem,h]))|(refine Zz (fun h=> ?_) (fun h=> ?_)<;>(try simp only[go_sem,h]))|(refine ZN (fun h=> ?_) (fun h=> ?_)<;>(try simp only[go_sem,h]))|((refine Ze (by kernel_rfl) (by kernel_rfl) ?_);(try simp only[go_sem])))
   all_goals (clear hO f1 f2 s1 s2 r1 r2 hC hl hx okA okF;simp_all[Zf4,Zn,fld]<;>(first|rfl|(rw[Bool.eq_iff_iff];simp)))
  have e10:(x.kind==10)=false:=beq_eq_false_iff_ne.2 k10;rw[if_neg k10]
  by_cases k8:x.kind=8
  ·have e8:(x.kind==8)=true:=by rw[k8];rfl
   rw[if_pos k8];refine pov Tryz.func88 (by decide) rfl Tryz.ntmps88 Tryz.results88 (by simp) (Zbd _) ?_;simp only[go_sem,Zn,lns,e2,e3,e9];refine Za (f2) ?_ ?_ ?_;iterate 2 simp only[go_sem,Zn,ref]
   simp only[go_sem,ZhG,fld];refine Za (hC) ?_ ?_ ?_;iterate 2 simp only[go_sem,lns]
   simp only[go_sem,refs,e6,e7,e10,e8];repeat' (first|(refine ZA (fun h=> ?_) (fun h=> ?_)<;>(try simp only[go_sem,h,ZaM,fld]))|(refine Zz (fun h=> ?_) (fun h=> ?_)<;>(try simp only[go_sem,h,ZaM,fld]))|(refine ZN (fun h=> ?_) (fun h=> ?_)<;>(try simp only[go_sem,h,ZaM,fld]))|((refine Za (r1) ?_ ?_ ?_);(focus simp only[go_sem,prs,fld,ZaM]);(focus exact rfl);(try simp only[go_sem,ZaM,fld]))|((refine Za (r2) ?_ ?_ ?_);(focus simp only[go_sem,prs,fld,ZaM]);(focus exact rfl);(try simp only[go_sem,ZaM,fld]))|((refine Za (s2) ?_ ?_ ?_);(focus simp only[go_sem,prs,fld,ZaM]);(focus exact rfl);(try simp only[go_sem,ZaM,fld]))|((refine Ze (by kernel_rfl) (by kernel_rfl) ?_);(try simp only[go_sem,ZaM,fld])))
   all_goals (clear hO f1 f2 s1 s2 r1 r2 hC hl hx okA okF;simp_all[Zf4,Zn,fld])
  have e8:(x.kind==8)=false:=beq_eq_false_iff_ne.2 k8;rw[if_neg k8];have hk:x.kind=1∨x.kind=4∨x.kind=5:=by
   refine Decidable.byContradiction fun hne=> ?_
   simp[Zu,k2,k3,k6,k7,k8,k9,k10,show ¬x.kind=1 by omega,show ¬x.kind=4 by omega,show ¬x.kind=5 by omega]at hr
  obtain⟨c,hcc⟩:∃c,Zc x= [c]:=by
   rcases hk with h|h|h<;>simp[Zc,h]
  rw[hcc]at hC ⊢;refine pov Tryz.func88 (by decide) rfl Tryz.ntmps88 Tryz.results88 (by simp) (Zbd _) ?_;simp only[go_sem,Zn,lns,e2,e3,e9];refine Za (f2) ?_ ?_ ?_;iterate 2 simp only[go_sem,Zn,ref]
  simp only[go_sem,ZhG,fld];refine Za (hC) ?_ ?_ ?_;iterate 2 simp only[go_sem,lns]
  simp only[go_sem,refs,ref,e6,e7,e10,e8,Zf4,Zn,fld]
 ·have hb':(b0 !=0)=true:=bne_iff_ne.2 hb;rw[if_pos hb];refine pov Tryz.func88 (by decide) rfl Tryz.ntmps88 Tryz.results88 (by simp) (Zbd _) ?_;simp only[go_sem,Zn,lns,e2,e3,e9];refine Za (f2) ?_ ?_ ?_;iterate 2 simp only[go_sem,Zn,ref]
  simp only[go_sem,ZhG,fld,hb',Zf4,Zn]
open Go.PL
def ZgM:List Rf→List Fd→Option (List Fd)
 | [],l=>some l
 |r::rs,l=>if(Zbl l r).2≠0 then none else ZgM rs (Zbl l r).1
def Zb4:List Fd→List Fd→Option (List Fd)
 | [],l=>some l
 |f::fs,l=>if(Zhh l f).2≠0 then none else Zb4 fs (Zhh l f).1
def ZkM (l:List Fd) (x:Ln):Option (List Fd):=if(Zbc l x).2=false then none else(ZgM (Zl x) l).bind (Zb4 (Zbc l x).1)
def Zq (l:List Fd) (x:Ln):List Fd×Int:=
 if ZW l=false∨Zu x=false then([],5)else match ZkM l x with|none=>([],16)|some m=>(m,0)
theorem Zn0 {l:List Fd} (h:OkFs l) (r:Rf):OkFs (Zbl l r).1:=by
 unfold Zbl;split
 ·exact⟨Nat.zero_le _,fun f hf=>by cases hf⟩
 split
 ·exact⟨Nat.zero_le _,fun f hf=>by cases hf⟩
 ·exact⟨Nat.le_trans (List.length_eraseIdx_le _ _) h.n,fun f hf=>h.c f (List.mem_of_mem_eraseIdx hf)⟩
theorem Zx9 {l:List Fd} {f x:Fd} (h:x∈ZnH l f):x∈l∨x=f:=by
 unfold ZnH at h;rcases List.mem_append.1 h with h|h
 ·exact .inl (List.takeWhile_subset _ h)
 ·rcases List.mem_cons.1 h with h|h
  ·exact .inr h
  ·exact .inl (List.dropWhile_subset _ h)
theorem Zxw {l:List Fd} (h:OkFs l) {f:Fd} (hf:f.cases'.length≤1000000):OkFs (Zhh l f).1:=by
 unfold Zhh;split
 ·exact⟨Nat.zero_le _,fun f hf=>by cases hf⟩
 split
 ·exact⟨Nat.zero_le _,fun f hf=>by cases hf⟩
 split
 ·exact⟨Nat.zero_le _,fun f hf=>by cases hf⟩
 ·refine⟨by simp only[Zme];omega,fun g hg=> ?_⟩;rcases Zx9 hg with h'|h'
  ·exact h.c g h'
  ·rw[h'];exact hf
theorem ZzP {l:List Fd} {x:Ln} (hl:OkFs l) (hx:OkLn x):OkFs (Zbc l x).1:=by
 have o1:∀f:Fd,f.cases'.length≤1000000→OkFs [f]:=fun f hf=>⟨by simp,fun g hg=>by rw[List.mem_singleton.1 hg];exact hf⟩
 have o0:OkFs []:=⟨Nat.zero_le _,fun f hf=>by cases hf⟩;unfold Zbc;split
 ·exact o1 _ hx.c
 split
 ·exact o0
 split
 ·unfold Zco;split
  ·exact o0
  split
  ·exact o0
  ·exact o1 _ (Nat.zero_le _)
 split
 ·exact o0
 split
 ·refine⟨by simp,fun f hf=> ?_⟩;simp only[List.mem_cons,List.not_mem_nil,or_false]at hf;rcases hf with rfl|rfl<;>exact Nat.zero_le _
 split
 ·exact o1 _ (Nat.zero_le _)
 split
 ·exact o1 _ (Nat.zero_le _)
 split
 ·exact o1 _ (by simp only[Zk4];exact hx.b)
 ·exact o1 _ (ZqT hl _)
theorem Zhl (l:List Fd) (x:Ln) (hl:OkFs l) (hx:OkLn x):PL.Pure Tryz.prog 48 [Zn l,lns x] (ZaB (Zq l x)):=by
 have hn:=hl.n;have hS:=Zey l (by rw[Zd];omega) (fun f hf=>by have:=hl.c f hf;rw[Zd];omega);have hR:=Zbn x hx;unfold Zq;cases hsr:ZW l
 ·rw[hsr]at hS;refine pov Tryz.func48 (by decide) rfl Tryz.ntmps48 Tryz.results48 (by simp) (Zak _) ?_;simp only[go_sem,Zn,lns];refine Za (hS) ?_ ?_ ?_;iterate 2 simp only[go_sem,Zn]
  simp only[go_sem,true_or,if_true,ZaB,Zn]
 rw[hsr]at hS;cases hlr:Zu x
 ·rw[hlr]at hR;refine pov Tryz.func48 (by decide) rfl Tryz.ntmps48 Tryz.results48 (by simp) (Zak _) ?_;simp only[go_sem,Zn,lns];refine Za (hS) ?_ ?_ ?_;iterate 2 simp only[go_sem,Zn]
  simp only[go_sem];refine Za (hR) ?_ ?_ ?_;iterate 2 simp only[go_sem,lns]
  simp only[go_sem,or_true,if_true,ZaB,Zn]
 rw[hlr]at hR;simp only[Bool.true_eq_false,or_self,if_false];have hA:=ZlZ l x hl hx hlr;have okA:=ZzP hl hx;unfold ZkM;generalize Zbc l x=y at *;obtain⟨come,ok⟩:=y;simp only at okA ⊢;cases ok
 ·simp only[if_true];refine pov Tryz.func48 (by decide) rfl Tryz.ntmps48 Tryz.results48 (by simp) (Zak _) ?_;simp only[go_sem,Zn,lns];refine Za (hS) ?_ ?_ ?_;iterate 2 simp only[go_sem,Zn]
  simp only[go_sem];refine Za (hR) ?_ ?_ ?_;iterate 2 simp only[go_sem,lns]
  simp only[go_sem];refine Za (hA) ?_ ?_ ?_;iterate 2 simp only[go_sem,Zn,lns]
  simp only[go_sem,Zf4,ZaB,Zn]
 simp only[Bool.true_eq_false,if_false];have hO:=Zm9 l (by omega) hl.c;have hG:=Ze7 x hx;have hg:Zil x=Zl x:=by simp[Zil,hlr]
 rw[hg]at hG;have hgl:(Zl x).length≤maxLen:=by
  have:(Zl x).length≤2:=by
   unfold Zl;split
   ·simp
   split
   ·simp
   split<;>simp
  rw[Zd];omega
 generalize Zl x=goes at *;generalize hGo:ZgM goes l=G;refine pov Tryz.func48 (by decide) rfl Tryz.ntmps48 Tryz.results48 (by simp) (Zak _) ?_;simp only[go_sem,Zn,lns];refine Za (hS) ?_ ?_ ?_;iterate 2 simp only[go_sem,Zn]
 simp only[go_sem];refine Za (hR) ?_ ?_ ?_;iterate 2 simp only[go_sem,lns]
 simp only[go_sem];refine Za (hA) ?_ ?_ ?_;iterate 2 simp only[go_sem,Zn,lns]
 simp only[go_sem,Zf4,Zn];refine Za (hO) ?_ ?_ ?_;iterate 2 simp only[go_sem,Zn]
 simp only[go_sem,Zn,lns];refine Za (hG) ?_ ?_ ?_;iterate 2 simp only[go_sem,lns]
 simp only[go_sem,refs];refine ZI (ι:= { x:Nat×(List Fd) // x.1≤(goes).length∧(OkFs x.2∧ZgM (goes.drop x.1) x.2=G) }) 64 (fun x=> [(6,Zn come),(8,Zn x.1.2),(33,refs goes),(34,.int .i64 (goes.length:Int)),(35,.int .i64 (x.1.1:Int))]) (fun x=> []) (fun x=> []) (fun x=>(goes).length-x.1.1) ⟨(0,l),Nat.zero_le _,⟨hl,hGo⟩⟩ ⟨rfl,(Fc5 rfl rfl rfl rfl rfl),fnl,fnl⟩ (fun x=>⟨(Fc5 rfl rfl rfl rfl rfl),fnl⟩) (fun x=> ?_);obtain⟨⟨k,out⟩,hk,hI⟩:=x;simp only at hk hI ⊢;obtain⟨okO,hI⟩:=hI;have hon:=okO.n
 by_cases h:(k:Int)<(goes.length:Int)
 ·(have hka:k<(goes).length:=by omega);(have w1:=Zcd hka (hgl));(have i1:(0:Int)≤(k:Int):=by omega)
  have hW:=Znb out (goes.getD k default) (by omega) okO.c;have okW:=Zn0 okO (goes.getD k default);rw[Zeb hka (d:=default),ZgM]at hI;generalize Zbl out (goes.getD k default)=w at *;obtain⟨w,c⟩:=w;simp only at hI okW
  by_cases hc:c=0
  ·subst hc;simp only[ne_eq,not_true_eq_false,if_false]at hI;simp only[go_sem,refs,h,i1,ZaP hka,ref];refine Za (hW) ?_ ?_ ?_;iterate 2 simp only[go_sem,Zn,ref]
   simp only[go_sem,ZaB,Zn,w1];exact⟨⟨(k+1,w),by(try simp only);omega,⟨okW,hI⟩⟩,by show(goes).length-(k+1)<(goes).length-k;omega,⟨rfl,(Fc5 rfl rfl rfl rfl rfl),fnl,fnl⟩⟩
  ·have hc':(c !=0)=true:=bne_iff_ne.2 hc;simp only[ne_eq,hc,not_false_eq_true,if_true]at hI;subst hI;simp only[go_sem,refs,h,i1,ZaP hka,ref];refine Za (hW) ?_ ?_ ?_;iterate 2 simp only[go_sem,Zn,ref]
   simp only[go_sem,ZaB,Zn,hc',Option.bind_none]
 ·obtain rfl:k=goes.length:=by omega
  rw[List.drop_length,ZgM]at hI;subst hI;have hcl:come.length≤maxLen:=by have:=okA.n;rw[Zd];omega
  simp only[go_sem,h,Zn];refine ZI (ι:= { x:Nat×(List Fd) // x.1≤(come).length∧(OkFs x.2∧Zb4 (come.drop x.1) x.2=Zb4 come out) }) 64 (fun x=> [(8,Zn x.1.2),(48,Zn come),(49,.int .i64 (come.length:Int)),(50,.int .i64 (x.1.1:Int))]) (fun x=> []) (fun x=> []) (fun x=>(come).length-x.1.1) ⟨(0,out),Nat.zero_le _,⟨okO,rfl⟩⟩ ⟨rfl,(Fc4 rfl rfl rfl rfl),fnl,fnl⟩ (fun x=>⟨(Fc4 rfl rfl rfl rfl),fnl⟩) (fun x=> ?_);obtain⟨⟨kb,o2⟩,hkb,hIb⟩:=x;simp only at hkb hIb ⊢;obtain⟨ok2,hIb⟩:=hIb;have hon2:=ok2.n
  by_cases hb:(kb:Int)<(come.length:Int)
  ·(have hkab:kb<(come).length:=by omega);(have w1b:=Zcd hkab (hcl));(have i1b:(0:Int)≤(kb:Int):=by omega)
   have hcf:=okA.c _ (ZC hkab (d:=default));have hW:=Zs9 o2 (come.getD kb default) (by omega) ok2.c hcf;have okW:=Zxw ok2 hcf;rw[Zeb hkab (d:=default),Zb4]at hIb;generalize Zhh o2 (come.getD kb default)=w at *;obtain⟨w,c⟩:=w;simp only at hIb okW
   by_cases hc:c=0
   ·subst hc;simp only[ne_eq,not_true_eq_false,if_false]at hIb;simp only[go_sem,Zn,hb,i1b,ZL hkab,fld];refine Za (hW) ?_ ?_ ?_;iterate 2 simp only[go_sem,Zn,fld]
    simp only[go_sem,ZaB,Zn,w1b];exact⟨⟨(kb+1,w),by(try simp only);omega,⟨okW,hIb⟩⟩,by show(come).length-(kb+1)<(come).length-kb;omega,⟨rfl,(Fc4 rfl rfl rfl rfl),fnl,fnl⟩⟩
   ·have hc':(c !=0)=true:=bne_iff_ne.2 hc;simp only[ne_eq,hc,not_false_eq_true,if_true]at hIb;simp only[go_sem,Zn,hb,i1b,ZL hkab,fld];refine Za (hW) ?_ ?_ ?_;iterate 2 simp only[go_sem,Zn,fld]
    simp only[go_sem,ZaB,Zn,hc',←hIb,Option.bind_some]
  ·obtain rfl:kb=come.length:=by omega
   rw[List.drop_length,Zb4]at hIb;simp only[go_sem,Zn,hb,←hIb,ZaB,Option.bind_some]
end Go.Proofs.YthingdchjkhfbaaGreat
