/- Contracts of functions and laws of this seat, each for every input that it names: lemmas of the proof. -/
import Derived.Test.YthingdchjkhfbaaGreatXBa
import Derived.Test.YthingdchjkhfbaaGreatXBr
namespace Go.Proofs.YthingdchjkhfbaaGreat
set_option maxHeartbeats 64000000
set_option maxRecDepth 20000
set_option linter.unusedVariables false
set_option linter.unusedSimpArgs false
open Go.PL
def Za8 (w:Int):Int:=(4503599627370496:Int).tdiv w
theorem ZjB {w:Int} (h:1≤w):0≤Za8 w∧Za8 w≤4503599627370496∧Za8 w*w≤4503599627370496∧4503599627370496<(Za8 w+1)*w:=by
 unfold Za8;have e:(4503599627370496:Int).tdiv w=(4503599627370496:Int) / w:=Int.tdiv_eq_ediv_of_nonneg (by omega);rw[e];have h1:(4503599627370496:Int) / w*w≤4503599627370496:=Int.ediv_mul_le _ (by omega);have h2:=Int.lt_ediv_add_one_mul_self 4503599627370496 (show 0<w by omega);have h3:0≤(4503599627370496:Int) / w:=Int.ediv_nonneg (by omega) (by omega);have h4:(4503599627370496:Int) / w≤4503599627370496:=Int.ediv_le_self _ (by omega);exact⟨h3,h4,h1,h2⟩
def Zfo (u p f:Int):Int×Int:=
 if ¬(2≤f∧f≤1000)then(0,2)else if p < - Za8 f∨Za8 f<p then(0,3)
 else if ZaU (IntKind.i64.wrap (u+IntKind.i64.wrap (f*p)))=true then(IntKind.i64.wrap (u+IntKind.i64.wrap (f*p)),0)else(0,3)
def Zr4 (x:Int×Int):PV:= .tup [.int .i64 x.1,.int .i64 x.2]
theorem ZfG {n:Int} (h: -9223372036854775808≤n∧n≤9223372036854775807):IntKind.i64.wrap n=n:=w64 (by omega)
theorem Zky (u p f:Int) (hu:Lim u) (hp:Lim p):PL.Pure Tryz.prog 183 [.cpx .f64 (Zcc u) (Zcc p),.int .i64 f] (Zr4 (Zfo u p f)):=by
 have hF:=ZiN f;have hP:=ZfH u p hu hp;have hA:=Zth (IntKind.i64.wrap (u+IntKind.i64.wrap (f*p)));unfold Zfo
 by_cases hf:2≤f∧f≤1000
 ·have e1:(decide (2≤f)&&decide (f≤1000))=true:=by simpa using hf
  rw[e1]at hF;rw[if_neg (fun h=>h hf)];have ms:=ZjB (w:=f) (by omega);have q1:IntKind.i64.wrap ((4503599627370496:Int).tdiv f)=Za8 f:=ZfG (by unfold Za8 at ms;omega);have q2:IntKind.i64.wrap (0-Za8 f)= - Za8 f:=by rw[ZfG (by omega)];omega
  have fz:f≠0:=by omega
  by_cases c1:p < - Za8 f
  ·rw[if_pos (.inl c1)];refine pov Tryz.func183 (by decide) rfl Tryz.ntmps183 Tryz.results183 (by simp) (rfl) ?_;simp only[go_sem];refine Za (hF) ?_ ?_ ?_;iterate 2 simp only[go_sem]
   simp only[go_sem];refine Za (hP) ?_ ?_ ?_;iterate 2 simp only[go_sem]
   simp only[go_sem,q1,q2,fz,c1,Zr4]
  ·by_cases c2:Za8 f<p
   ·rw[if_pos (.inr c2)];refine pov Tryz.func183 (by decide) rfl Tryz.ntmps183 Tryz.results183 (by simp) (rfl) ?_;simp only[go_sem];refine Za (hF) ?_ ?_ ?_;iterate 2 simp only[go_sem]
    simp only[go_sem];refine Za (hP) ?_ ?_ ?_;iterate 2 simp only[go_sem]
    simp only[go_sem,q1,q2,fz,c1,c2,Zr4]
   ·rw[if_neg (by omega)];cases ha:ZaU (IntKind.i64.wrap (u+IntKind.i64.wrap (f*p)))
    ·rw[ha]at hA;simp only[Bool.false_eq_true,if_false];refine pov Tryz.func183 (by decide) rfl Tryz.ntmps183 Tryz.results183 (by simp) (rfl) ?_;simp only[go_sem];refine Za (hF) ?_ ?_ ?_;iterate 2 simp only[go_sem]
     simp only[go_sem];refine Za (hP) ?_ ?_ ?_;iterate 2 simp only[go_sem]
     simp only[go_sem,q1,q2,fz,c1,c2];refine Za (hA) ?_ ?_ ?_;iterate 2 simp only[go_sem]
     simp only[go_sem,Bool.not_false,Zr4]
    ·rw[ha]at hA;simp only[if_true];refine pov Tryz.func183 (by decide) rfl Tryz.ntmps183 Tryz.results183 (by simp) (rfl) ?_;simp only[go_sem];refine Za (hF) ?_ ?_ ?_;iterate 2 simp only[go_sem]
     simp only[go_sem];refine Za (hP) ?_ ?_ ?_;iterate 2 simp only[go_sem]
     simp only[go_sem,q1,q2,fz,c1,c2];refine Za (hA) ?_ ?_ ?_;iterate 2 simp only[go_sem]
     simp only[go_sem,Bool.not_true,Zr4]
 ·have e1:(decide (2≤f)&&decide (f≤1000))=false:=by rw[Bool.eq_false_iff];simpa using hf
  rw[e1]at hF;rw[if_pos hf];refine pov Tryz.func183 (by decide) rfl Tryz.ntmps183 Tryz.results183 (by simp) (rfl) ?_;simp only[go_sem];refine Za (hF) ?_ ?_ ?_;iterate 2 simp only[go_sem]
  simp only[go_sem,Zr4]
structure OkOp (o:Opn):Prop where
 d:o.drops.length≤1000000
theorem ZbK (o:Opn) (ho:OkOp o):PL.Pure Tryz.prog 174 [opv o] (opv o):=by
 have hr:=Za1 ho.d (show 16≤1000 by omega);refine pov Tryz.func174 (by decide) rfl Tryz.ntmps174 Tryz.results174 (by simp) (ZiC _) ?_;simp only[go_sem,opv,ZmB,ZvM,List.length_map,hr]
def ZcD (o:Opn) (i f:Int):Int×Bool:=if o.kind≠3 then(0,false)else if i=0 then(o.delta,true)else if ZaU o.delta=true then((Zfo 0 o.delta f).1,decide ((Zfo 0 o.delta f).2=0))else(0,false)
def Zv7 (x:Int×Bool):PV:= .tup [.int .i64 x.1,.bool x.2]
theorem Zoj (o:Opn) (i f:Int):PL.Pure Tryz.prog 185 [opv o,.int .i64 i,.int .i64 f] (Zv7 (ZcD o i f)):=by
 unfold ZcD
 by_cases k3:o.kind=3
 ·have e3:(o.kind !=3)=false:=by simpa using k3
  rw[if_neg (fun h=>h k3)]
  by_cases i0:i=0
  ·have ei:(i==0)=true:=by simpa using i0
   rw[if_pos i0];refine pov Tryz.func185 (by decide) rfl Tryz.ntmps185 Tryz.results185 (by simp) (rfl) ?_;simp only[go_sem,opv,e3,ei,Zv7]
  ·have ei:(i==0)=false:=by simpa using i0
   rw[if_neg i0];have hO:=ZlQ 0 o.delta;have f0:ZaU 0=true:=by decide
   cases hd:ZaU o.delta
   ·rw[if_neg (by rw[hd];simp)]at hO;simp only[Bool.false_eq_true,if_false];refine pov Tryz.func185 (by decide) rfl Tryz.ntmps185 Tryz.results185 (by simp) (rfl) ?_;simp only[go_sem,opv,e3,ei];refine Za (hO) ?_ ?_ ?_;iterate 2 simp only[go_sem]
    simp only[go_sem,Zv7]
   ·rw[if_pos ⟨f0,hd⟩]at hO;have hJ:=Zky 0 o.delta f (Zab.1 f0) (Zab.1 hd);simp only[if_true];generalize Zfo 0 o.delta f=y at *;obtain⟨n,c⟩:=y;have ec:(c==0)=decide (c=0):=by rw[Bool.eq_iff_iff];simp
    refine pov Tryz.func185 (by decide) rfl Tryz.ntmps185 Tryz.results185 (by simp) (rfl) ?_;simp only[go_sem,opv,e3,ei];refine Za (hO) ?_ ?_ ?_;iterate 2 simp only[go_sem]
    simp only[go_sem];refine Za (hJ) ?_ ?_ ?_;iterate 2 simp only[go_sem]
    simp only[go_sem,Zr4,ec,Zv7]
 ·have e3:(o.kind !=3)=true:=by simpa using k3
  rw[if_pos k3];refine pov Tryz.func185 (by decide) rfl Tryz.ntmps185 Tryz.results185 (by simp) (rfl) ?_;simp only[go_sem,opv,e3,Zv7]
def ZcP (o:Opn) (fo:List Pr):Str×Bool:=if o.kind≠4 then([],false)else if o.has=false then(o.text,true)else Zai fo o.text
theorem Zso (o:Opn) (fo:List Pr) (hf:fo.length≤maxLen):PL.Pure Tryz.prog 186 [opv o,prs fo] (ZdP (ZcP o fo)):=by
 have hC:=Zdb fo o.text hf;unfold ZcP;obtain⟨id,sch,time,cart,kind,item,at',delta,has,text,drops⟩:=o;simp only at hC ⊢
 by_cases k4:kind=4
 ·have e4:(kind !=4)=false:=by simpa using k4
  rw[if_neg (fun h=>h k4)];cases has
  ·refine pov Tryz.func186 (by decide) rfl Tryz.ntmps186 Tryz.results186 (by simp) (rfl) ?_;simp only[go_sem,opv,prs,e4,Bool.not_false,ZdP,if_true]
  ·simp only[Bool.true_eq_false,if_false];generalize Zai fo text=y at *;obtain⟨s,b⟩:=y;refine pov Tryz.func186 (by decide) rfl Tryz.ntmps186 Tryz.results186 (by simp) (rfl) ?_;simp only[go_sem,opv,prs,e4,Bool.not_true];refine Za (hC) ?_ ?_ ?_;iterate 2 simp only[go_sem,prs]
   simp only[go_sem,ZdP]
 ·have e4:(kind !=4)=true:=by simpa using k4
  rw[if_pos k4];refine pov Tryz.func186 (by decide) rfl Tryz.ntmps186 Tryz.results186 (by simp) (rfl) ?_;simp only[go_sem,opv,prs,e4,ZdP]
def Zj (o:Opn) (r:Rf):Opn:=⟨o.id,o.sch,o.time,o.cart,o.kind,o.item,r,o.delta,o.has,o.text,o.drops⟩
def ZK (o:Opn) (d:Int):Opn:=⟨o.id,o.sch,o.time,o.cart,o.kind,o.item,o.at',d,o.has,o.text,o.drops⟩
def ZZ (o:Opn) (s:Str):Opn:=⟨o.id,o.sch,o.time,o.cart,o.kind,o.item,o.at',o.delta,o.has,s,o.drops⟩
def Zh (x:Ln) (o:Opn):Opn×Bool:=
 if x.kind=1∨x.kind=4∨x.kind=5 then(o,true)
 else if x.kind=6 then(o,decide (o.kind=3))
 else if x.kind=9 then(ZK o (ZcD o (ZE (Zl x) o.at') x.fac).1,(ZcD o (ZE (Zl x) o.at') x.fac).2)
 else if x.kind=7∨x.kind=10 then(o,decide (o.kind=4))
 else if x.kind=8 then(ZZ o (ZcP o x.fo).1,(ZcP o x.fo).2)
 else(o,false)
def ZaE (x:Ln) (o:Opn):Opn×Bool:=
 if Zu x=false then(default,false)else if o.kind≠3∧o.kind≠4 then(o,true)else if ZE (Zl x) o.at'<0 then(o,true)
 else if(Zh x o).2=false then(default,false)else(Zj (Zh x o).1 ((Zc x).getD 0 default),true)
theorem Zs0 (x:Ln) (o:Opn) (hx:OkLn x) (ho:OkOp o):PL.Pure Tryz.prog 175 [lns x,opv o] (opb (ZaE x o)):=by
 have hR:=Zbn x hx;have hO:=ZbK o ho;unfold ZaE;cases hlr:Zu x
 ·rw[hlr]at hR;refine pov Tryz.func175 (by decide) rfl Tryz.ntmps175 Tryz.results175 (by simp) (ZH _) ?_;simp only[go_sem,lns,opv];refine Za (hR) ?_ ?_ ?_;iterate 2 simp only[go_sem,lns]
  simp only[go_sem,if_true,opb,ZU]
 have hk:=(ZT hlr).1;rw[hlr]at hR;simp only[Bool.true_eq_false,if_false]
 by_cases hp:o.kind≠3∧o.kind≠4
 ·rw[if_pos hp];have e1:(o.kind !=3)=true:=by simpa using hp.1
  have e2:(o.kind !=4)=true:=by simpa using hp.2
  refine pov Tryz.func175 (by decide) rfl Tryz.ntmps175 Tryz.results175 (by simp) (ZH _) ?_;simp only[go_sem,lns,opv];refine Za (hR) ?_ ?_ ?_;iterate 2 simp only[go_sem,lns]
  simp only[go_sem,e1,e2,opv];refine Za (hO) ?_ ?_ ?_;iterate 2 simp only[go_sem,opv]
  simp only[go_sem,opb,opv]
 rw[if_neg hp];have hG:=Ze7 x hx;have hC:=Zd0 x hx;have hg:Zil x=Zl x:=by simp[Zil,hlr]
 have hc:ZeX x=Zc x:=by simp[ZeX,hlr]
 rw[hg]at hG;rw[hc]at hC;have hI:PL.Pure Tryz.prog 125 [refs (Zl x),ref o.at'] (.int .i64 (ZE (Zl x) o.at')):=Zex (Zl x) o.at' (by have:=ZgN x;rw[Zd];omega);have pl:((o.kind !=3)=true∧(o.kind !=4)=false)∨(o.kind !=3)=false:=by
  by_cases k3:o.kind=3
  ·right;simpa using k3
  ·left;refine⟨by simpa using k3,?_⟩;simp only[bne_eq_false_iff_eq];exact Decidable.byContradiction fun h=>hp ⟨k3,h⟩
 by_cases hi:ZE (Zl x) o.at'<0
 ·rw[if_pos hi];rcases pl with ⟨e1,e2⟩|e1
  ·refine pov Tryz.func175 (by decide) rfl Tryz.ntmps175 Tryz.results175 (by simp) (ZH _) ?_;simp only[go_sem,lns,opv];refine Za (hR) ?_ ?_ ?_;iterate 2 simp only[go_sem,lns]
   simp only[go_sem,e1,e2,lns];refine Ze (by kernel_rfl) (by kernel_rfl) ?_;simp only[go_sem,lns,opv];refine Za (hG) ?_ ?_ ?_;iterate 2 simp only[go_sem,lns]
   simp only[go_sem,refs];refine Za (hI) ?_ ?_ ?_;iterate 2 simp only[go_sem,refs,ref]
   simp only[go_sem,hi,opv];refine Za (hO) ?_ ?_ ?_;iterate 2 simp only[go_sem,opv]
   simp only[go_sem,opb,opv]
  ·refine pov Tryz.func175 (by decide) rfl Tryz.ntmps175 Tryz.results175 (by simp) (ZH _) ?_;simp only[go_sem,lns,opv];refine Za (hR) ?_ ?_ ?_;iterate 2 simp only[go_sem,lns]
   simp only[go_sem,e1,lns];refine Ze (by kernel_rfl) (by kernel_rfl) ?_;simp only[go_sem,lns,opv];refine Za (hG) ?_ ?_ ?_;iterate 2 simp only[go_sem,lns]
   simp only[go_sem,refs];refine Za (hI) ?_ ?_ ?_;iterate 2 simp only[go_sem,refs,ref]
   simp only[go_sem,hi,opv];refine Za (hO) ?_ ?_ ?_;iterate 2 simp only[go_sem,opv]
   simp only[go_sem,opb,opv]
 rw[if_neg hi];have hM:=Zoj o (ZE (Zl x) o.at') x.fac;have hV:=Zso o x.fo (by have:=hx.f;rw[Zd];omega);obtain⟨kind,at',nm,ot,fac,fd,fo,ba⟩:=x;simp only at hk hM hV;rcases hk with rfl|rfl|rfl|rfl|rfl|rfl|rfl|rfl|rfl|rfl
 ·have hne:(Zc ⟨1,at',nm,ot,fac,fd,fo,ba⟩).length≠0:=by unfold Zc;simp
  have hc0:0<(Zc ⟨1,at',nm,ot,fac,fd,fo,ba⟩).length:=by omega
  have hc1:(0:Int)<((Zc ⟨1,at',nm,ot,fac,fd,fo,ba⟩).length:Int):=by omega
  have hc2:(((Zc ⟨1,at',nm,ot,fac,fd,fo,ba⟩).map ref).getD 0 .any)=ref ((Zc ⟨1,at',nm,ot,fac,fd,fo,ba⟩).getD 0 default):=ZaP hc0;generalize Zc ⟨1,at',nm,ot,fac,fd,fo,ba⟩=comes at *;have hb:Zh ⟨1,at',nm,ot,fac,fd,fo,ba⟩ o=(o,true):=by simp[Zh]
  rw[hb];simp only[Bool.true_eq_false,if_false];have hO2:=ZbK (Zj o (comes.getD 0 default)) ⟨ho.d⟩;rcases pl with ⟨e1,e2⟩|e1
  ·refine pov Tryz.func175 (by decide) rfl Tryz.ntmps175 Tryz.results175 (by simp) (ZH _) ?_;simp only[go_sem,lns,opv];refine Za (hR) ?_ ?_ ?_;iterate 2 simp only[go_sem,lns]
   simp only[go_sem,e1,e2,lns];refine Ze (by kernel_rfl) (by kernel_rfl) ?_;simp only[go_sem,lns,opv];refine Za (hG) ?_ ?_ ?_;iterate 2 simp only[go_sem,lns]
   simp only[go_sem,refs];refine Za (hI) ?_ ?_ ?_;iterate 2 simp only[go_sem,refs,ref]
   simp only[go_sem,hi,opv,lns,Bool.not_true];refine Za (hC) ?_ ?_ ?_;iterate 2 simp only[go_sem,lns]
   simp only[go_sem,refs,hc1,List.length_map,hc2,ref,opv,Zj,ZK,ZZ];refine Za (hO2) ?_ ?_ ?_;iterate 2 simp only[go_sem,opv,Zj,ZK,ZZ]
   simp only[go_sem,opb,opv,Zj,ZK,ZZ]
  ·refine pov Tryz.func175 (by decide) rfl Tryz.ntmps175 Tryz.results175 (by simp) (ZH _) ?_;simp only[go_sem,lns,opv];refine Za (hR) ?_ ?_ ?_;iterate 2 simp only[go_sem,lns]
   simp only[go_sem,e1,lns];refine Ze (by kernel_rfl) (by kernel_rfl) ?_;simp only[go_sem,lns,opv];refine Za (hG) ?_ ?_ ?_;iterate 2 simp only[go_sem,lns]
   simp only[go_sem,refs];refine Za (hI) ?_ ?_ ?_;iterate 2 simp only[go_sem,refs,ref]
   simp only[go_sem,hi,opv,lns,Bool.not_true];refine Za (hC) ?_ ?_ ?_;iterate 2 simp only[go_sem,lns]
   simp only[go_sem,refs,hc1,List.length_map,hc2,ref,opv,Zj,ZK,ZZ];refine Za (hO2) ?_ ?_ ?_;iterate 2 simp only[go_sem,opv,Zj,ZK,ZZ]
   simp only[go_sem,opb,opv,Zj,ZK,ZZ]
 ·exfalso;have:Zl ⟨2,at',nm,ot,fac,fd,fo,ba⟩= []:=by simp[Zl]
  rw[this]at hi;exact hi (by show(-1:Int)<0;omega)
 ·have hb:Zh ⟨3,at',nm,ot,fac,fd,fo,ba⟩ o=(o,false):=by simp[Zh]
  rw[hb];simp only[if_true];rcases pl with ⟨e1,e2⟩|e1
  ·refine pov Tryz.func175 (by decide) rfl Tryz.ntmps175 Tryz.results175 (by simp) (ZH _) ?_;simp only[go_sem,lns,opv];refine Za (hR) ?_ ?_ ?_;iterate 2 simp only[go_sem,lns]
   simp only[go_sem,e1,e2,lns];refine Ze (by kernel_rfl) (by kernel_rfl) ?_;simp only[go_sem,lns,opv];refine Za (hG) ?_ ?_ ?_;iterate 2 simp only[go_sem,lns]
   simp only[go_sem,refs];refine Za (hI) ?_ ?_ ?_;iterate 2 simp only[go_sem,refs,ref]
   simp only[go_sem,hi,opv,lns,Bool.not_false]
   (try simp only[go_sem,opb,ZU])
  ·refine pov Tryz.func175 (by decide) rfl Tryz.ntmps175 Tryz.results175 (by simp) (ZH _) ?_;simp only[go_sem,lns,opv];refine Za (hR) ?_ ?_ ?_;iterate 2 simp only[go_sem,lns]
   simp only[go_sem,e1,lns];refine Ze (by kernel_rfl) (by kernel_rfl) ?_;simp only[go_sem,lns,opv];refine Za (hG) ?_ ?_ ?_;iterate 2 simp only[go_sem,lns]
   simp only[go_sem,refs];refine Za (hI) ?_ ?_ ?_;iterate 2 simp only[go_sem,refs,ref]
   simp only[go_sem,hi,opv,lns,Bool.not_false]
   (try simp only[go_sem,opb,ZU])
 ·have hne:(Zc ⟨4,at',nm,ot,fac,fd,fo,ba⟩).length≠0:=by unfold Zc;simp
  have hc0:0<(Zc ⟨4,at',nm,ot,fac,fd,fo,ba⟩).length:=by omega
  have hc1:(0:Int)<((Zc ⟨4,at',nm,ot,fac,fd,fo,ba⟩).length:Int):=by omega
  have hc2:(((Zc ⟨4,at',nm,ot,fac,fd,fo,ba⟩).map ref).getD 0 .any)=ref ((Zc ⟨4,at',nm,ot,fac,fd,fo,ba⟩).getD 0 default):=ZaP hc0;generalize Zc ⟨4,at',nm,ot,fac,fd,fo,ba⟩=comes at *;have hb:Zh ⟨4,at',nm,ot,fac,fd,fo,ba⟩ o=(o,true):=by simp[Zh]
  rw[hb];simp only[Bool.true_eq_false,if_false];have hO2:=ZbK (Zj o (comes.getD 0 default)) ⟨ho.d⟩;rcases pl with ⟨e1,e2⟩|e1
  ·refine pov Tryz.func175 (by decide) rfl Tryz.ntmps175 Tryz.results175 (by simp) (ZH _) ?_;simp only[go_sem,lns,opv];refine Za (hR) ?_ ?_ ?_;iterate 2 simp only[go_sem,lns]
   simp only[go_sem,e1,e2,lns];refine Ze (by kernel_rfl) (by kernel_rfl) ?_;simp only[go_sem,lns,opv];refine Za (hG) ?_ ?_ ?_;iterate 2 simp only[go_sem,lns]
   simp only[go_sem,refs];refine Za (hI) ?_ ?_ ?_;iterate 2 simp only[go_sem,refs,ref]
   simp only[go_sem,hi,opv,lns,Bool.not_true];refine Za (hC) ?_ ?_ ?_;iterate 2 simp only[go_sem,lns]
   simp only[go_sem,refs,hc1,List.length_map,hc2,ref,opv,Zj,ZK,ZZ];refine Za (hO2) ?_ ?_ ?_;iterate 2 simp only[go_sem,opv,Zj,ZK,ZZ]
   simp only[go_sem,opb,opv,Zj,ZK,ZZ]
  ·refine pov Tryz.func175 (by decide) rfl Tryz.ntmps175 Tryz.results175 (by simp) (ZH _) ?_;simp only[go_sem,lns,opv];refine Za (hR) ?_ ?_ ?_;iterate 2 simp only[go_sem,lns]
   simp only[go_sem,e1,lns];refine Ze (by kernel_rfl) (by kernel_rfl) ?_;simp only[go_sem,lns,opv];refine Za (hG) ?_ ?_ ?_;iterate 2 simp only[go_sem,lns]
   simp only[go_sem,refs];refine Za (hI) ?_ ?_ ?_;iterate 2 simp only[go_sem,refs,ref]
   simp only[go_sem,hi,opv,lns,Bool.not_true];refine Za (hC) ?_ ?_ ?_;iterate 2 simp only[go_sem,lns]
   simp only[go_sem,refs,hc1,List.length_map,hc2,ref,opv,Zj,ZK,ZZ];refine Za (hO2) ?_ ?_ ?_;iterate 2 simp only[go_sem,opv,Zj,ZK,ZZ]
   simp only[go_sem,opb,opv,Zj,ZK,ZZ]
 ·have hne:(Zc ⟨5,at',nm,ot,fac,fd,fo,ba⟩).length≠0:=by unfold Zc;simp
  have hc0:0<(Zc ⟨5,at',nm,ot,fac,fd,fo,ba⟩).length:=by omega
  have hc1:(0:Int)<((Zc ⟨5,at',nm,ot,fac,fd,fo,ba⟩).length:Int):=by omega
  have hc2:(((Zc ⟨5,at',nm,ot,fac,fd,fo,ba⟩).map ref).getD 0 .any)=ref ((Zc ⟨5,at',nm,ot,fac,fd,fo,ba⟩).getD 0 default):=ZaP hc0;generalize Zc ⟨5,at',nm,ot,fac,fd,fo,ba⟩=comes at *;have hb:Zh ⟨5,at',nm,ot,fac,fd,fo,ba⟩ o=(o,true):=by simp[Zh]
  rw[hb];simp only[Bool.true_eq_false,if_false];have hO2:=ZbK (Zj o (comes.getD 0 default)) ⟨ho.d⟩;rcases pl with ⟨e1,e2⟩|e1
  ·refine pov Tryz.func175 (by decide) rfl Tryz.ntmps175 Tryz.results175 (by simp) (ZH _) ?_;simp only[go_sem,lns,opv];refine Za (hR) ?_ ?_ ?_;iterate 2 simp only[go_sem,lns]
   simp only[go_sem,e1,e2,lns];refine Ze (by kernel_rfl) (by kernel_rfl) ?_;simp only[go_sem,lns,opv];refine Za (hG) ?_ ?_ ?_;iterate 2 simp only[go_sem,lns]
   simp only[go_sem,refs];refine Za (hI) ?_ ?_ ?_;iterate 2 simp only[go_sem,refs,ref]
   simp only[go_sem,hi,opv,lns,Bool.not_true];refine Za (hC) ?_ ?_ ?_;iterate 2 simp only[go_sem,lns]
   simp only[go_sem,refs,hc1,List.length_map,hc2,ref,opv,Zj,ZK,ZZ];refine Za (hO2) ?_ ?_ ?_;iterate 2 simp only[go_sem,opv,Zj,ZK,ZZ]
   simp only[go_sem,opb,opv,Zj,ZK,ZZ]
  ·refine pov Tryz.func175 (by decide) rfl Tryz.ntmps175 Tryz.results175 (by simp) (ZH _) ?_;simp only[go_sem,lns,opv];refine Za (hR) ?_ ?_ ?_;iterate 2 simp only[go_sem,lns]
   simp only[go_sem,e1,lns];refine Ze (by kernel_rfl) (by kernel_rfl) ?_;simp only[go_sem,lns,opv];refine Za (hG) ?_ ?_ ?_;iterate 2 simp only[go_sem,lns]
   simp only[go_sem,refs];refine Za (hI) ?_ ?_ ?_;iterate 2 simp only[go_sem,refs,ref]
   simp only[go_sem,hi,opv,lns,Bool.not_true];refine Za (hC) ?_ ?_ ?_;iterate 2 simp only[go_sem,lns]
   simp only[go_sem,refs,hc1,List.length_map,hc2,ref,opv,Zj,ZK,ZZ];refine Za (hO2) ?_ ?_ ?_;iterate 2 simp only[go_sem,opv,Zj,ZK,ZZ]
   simp only[go_sem,opb,opv,Zj,ZK,ZZ]
 ·have hne:(Zc ⟨6,at',nm,ot,fac,fd,fo,ba⟩).length≠0:=by unfold Zc;simp
  have hc0:0<(Zc ⟨6,at',nm,ot,fac,fd,fo,ba⟩).length:=by omega
  have hc1:(0:Int)<((Zc ⟨6,at',nm,ot,fac,fd,fo,ba⟩).length:Int):=by omega
  have hc2:(((Zc ⟨6,at',nm,ot,fac,fd,fo,ba⟩).map ref).getD 0 .any)=ref ((Zc ⟨6,at',nm,ot,fac,fd,fo,ba⟩).getD 0 default):=ZaP hc0;generalize Zc ⟨6,at',nm,ot,fac,fd,fo,ba⟩=comes at *;have hb:Zh ⟨6,at',nm,ot,fac,fd,fo,ba⟩ o=(o,decide (o.kind=3)):=by simp[Zh]
  rw[hb]
  by_cases kk:o.kind=3
  ·have e3:(o.kind==3)=true:=by simpa using kk
   simp only[kk,decide_true,Bool.true_eq_false,if_false];have hO2:=ZbK (Zj o (comes.getD 0 default)) ⟨ho.d⟩;rcases pl with ⟨e1,e2⟩|e1
   ·refine pov Tryz.func175 (by decide) rfl Tryz.ntmps175 Tryz.results175 (by simp) (ZH _) ?_;simp only[go_sem,lns,opv];refine Za (hR) ?_ ?_ ?_;iterate 2 simp only[go_sem,lns]
    simp only[go_sem,e1,e2,lns];refine Ze (by kernel_rfl) (by kernel_rfl) ?_;simp only[go_sem,lns,opv];refine Za (hG) ?_ ?_ ?_;iterate 2 simp only[go_sem,lns]
    simp only[go_sem,refs];refine Za (hI) ?_ ?_ ?_;iterate 2 simp only[go_sem,refs,ref]
    simp only[go_sem,hi,opv,lns,e3,Bool.not_true];refine Za (hC) ?_ ?_ ?_;iterate 2 simp only[go_sem,lns]
    simp only[go_sem,refs,hc1,List.length_map,hc2,ref,opv,Zj,ZK,ZZ];refine Za (hO2) ?_ ?_ ?_;iterate 2 simp only[go_sem,opv,Zj,ZK,ZZ]
    simp only[go_sem,opb,opv,kk,Zj,ZK,ZZ]
   ·refine pov Tryz.func175 (by decide) rfl Tryz.ntmps175 Tryz.results175 (by simp) (ZH _) ?_;simp only[go_sem,lns,opv];refine Za (hR) ?_ ?_ ?_;iterate 2 simp only[go_sem,lns]
    simp only[go_sem,e1,lns];refine Ze (by kernel_rfl) (by kernel_rfl) ?_;simp only[go_sem,lns,opv];refine Za (hG) ?_ ?_ ?_;iterate 2 simp only[go_sem,lns]
    simp only[go_sem,refs];refine Za (hI) ?_ ?_ ?_;iterate 2 simp only[go_sem,refs,ref]
    simp only[go_sem,hi,opv,lns,e3,Bool.not_true];refine Za (hC) ?_ ?_ ?_;iterate 2 simp only[go_sem,lns]
    simp only[go_sem,refs,hc1,List.length_map,hc2,ref,opv,Zj,ZK,ZZ];refine Za (hO2) ?_ ?_ ?_;iterate 2 simp only[go_sem,opv,Zj,ZK,ZZ]
    simp only[go_sem,opb,opv,kk,Zj,ZK,ZZ]
  ·have e3:(o.kind==3)=false:=by simpa using kk
   simp only[kk,decide_false,if_true];rcases pl with ⟨e1,e2⟩|e1
   ·refine pov Tryz.func175 (by decide) rfl Tryz.ntmps175 Tryz.results175 (by simp) (ZH _) ?_;simp only[go_sem,lns,opv];refine Za (hR) ?_ ?_ ?_;iterate 2 simp only[go_sem,lns]
    simp only[go_sem,e1,e2,lns];refine Ze (by kernel_rfl) (by kernel_rfl) ?_;simp only[go_sem,lns,opv];refine Za (hG) ?_ ?_ ?_;iterate 2 simp only[go_sem,lns]
    simp only[go_sem,refs];refine Za (hI) ?_ ?_ ?_;iterate 2 simp only[go_sem,refs,ref]
    simp only[go_sem,hi,opv,lns,e3,Bool.not_false]
    (try simp only[go_sem,opb,ZU])
   ·refine pov Tryz.func175 (by decide) rfl Tryz.ntmps175 Tryz.results175 (by simp) (ZH _) ?_;simp only[go_sem,lns,opv];refine Za (hR) ?_ ?_ ?_;iterate 2 simp only[go_sem,lns]
    simp only[go_sem,e1,lns];refine Ze (by kernel_rfl) (by kernel_rfl) ?_;simp only[go_sem,lns,opv];refine Za (hG) ?_ ?_ ?_;iterate 2 simp only[go_sem,lns]
    simp only[go_sem,refs];refine Za (hI) ?_ ?_ ?_;iterate 2 simp only[go_sem,refs,ref]
    simp only[go_sem,hi,opv,lns,e3,Bool.not_false]
    (try simp only[go_sem,opb,ZU])
 ·have hne:(Zc ⟨7,at',nm,ot,fac,fd,fo,ba⟩).length≠0:=by unfold Zc;simp
  have hc0:0<(Zc ⟨7,at',nm,ot,fac,fd,fo,ba⟩).length:=by omega
  have hc1:(0:Int)<((Zc ⟨7,at',nm,ot,fac,fd,fo,ba⟩).length:Int):=by omega
  have hc2:(((Zc ⟨7,at',nm,ot,fac,fd,fo,ba⟩).map ref).getD 0 .any)=ref ((Zc ⟨7,at',nm,ot,fac,fd,fo,ba⟩).getD 0 default):=ZaP hc0;generalize Zc ⟨7,at',nm,ot,fac,fd,fo,ba⟩=comes at *;have hb:Zh ⟨7,at',nm,ot,fac,fd,fo,ba⟩ o=(o,decide (o.kind=4)):=by simp[Zh]
  rw[hb]
  by_cases kk:o.kind=4
  ·have e3:(o.kind==4)=true:=by simpa using kk
   simp only[kk,decide_true,Bool.true_eq_false,if_false];have hO2:=ZbK (Zj o (comes.getD 0 default)) ⟨ho.d⟩;rcases pl with ⟨e1,e2⟩|e1
   ·refine pov Tryz.func175 (by decide) rfl Tryz.ntmps175 Tryz.results175 (by simp) (ZH _) ?_;simp only[go_sem,lns,opv];refine Za (hR) ?_ ?_ ?_;iterate 2 simp only[go_sem,lns]
    simp only[go_sem,e1,e2,lns];refine Ze (by kernel_rfl) (by kernel_rfl) ?_;simp only[go_sem,lns,opv];refine Za (hG) ?_ ?_ ?_;iterate 2 simp only[go_sem,lns]
    simp only[go_sem,refs];refine Za (hI) ?_ ?_ ?_;iterate 2 simp only[go_sem,refs,ref]
    simp only[go_sem,hi,opv,lns,e3,Bool.not_true];refine Za (hC) ?_ ?_ ?_;iterate 2 simp only[go_sem,lns]
    simp only[go_sem,refs,hc1,List.length_map,hc2,ref,opv,Zj,ZK,ZZ];refine Za (hO2) ?_ ?_ ?_;iterate 2 simp only[go_sem,opv,Zj,ZK,ZZ]
    simp only[go_sem,opb,opv,kk,Zj,ZK,ZZ]
   ·refine pov Tryz.func175 (by decide) rfl Tryz.ntmps175 Tryz.results175 (by simp) (ZH _) ?_;simp only[go_sem,lns,opv];refine Za (hR) ?_ ?_ ?_;iterate 2 simp only[go_sem,lns]
    simp only[go_sem,e1,lns];refine Ze (by kernel_rfl) (by kernel_rfl) ?_;simp only[go_sem,lns,opv];refine Za (hG) ?_ ?_ ?_;iterate 2 simp only[go_sem,lns]
    simp only[go_sem,refs];refine Za (hI) ?_ ?_ ?_;iterate 2 simp only[go_sem,refs,ref]
    simp only[go_sem,hi,opv,lns,e3,Bool.not_true];refine Za (hC) ?_ ?_ ?_;iterate 2 simp only[go_sem,lns]
    simp only[go_sem,refs,hc1,List.length_map,hc2,ref,opv,Zj,ZK,ZZ];refine Za (hO2) ?_ ?_ ?_;iterate 2 simp only[go_sem,opv,Zj,ZK,ZZ]
    simp only[go_sem,opb,opv,kk,Zj,ZK,ZZ]
  ·have e3:(o.kind==4)=false:=by simpa using kk
   simp only[kk,decide_false,if_true];rcases pl with ⟨e1,e2⟩|e1
   ·refine pov Tryz.func175 (by decide) rfl Tryz.ntmps175 Tryz.results175 (by simp) (ZH _) ?_;simp only[go_sem,lns,opv];refine Za (hR) ?_ ?_ ?_;iterate 2 simp only[go_sem,lns]
    simp only[go_sem,e1,e2,lns];refine Ze (by kernel_rfl) (by kernel_rfl) ?_;simp only[go_sem,lns,opv];refine Za (hG) ?_ ?_ ?_;iterate 2 simp only[go_sem,lns]
    simp only[go_sem,refs];refine Za (hI) ?_ ?_ ?_;iterate 2 simp only[go_sem,refs,ref]
    simp only[go_sem,hi,opv,lns,e3,Bool.not_false]
    (try simp only[go_sem,opb,ZU])
   ·refine pov Tryz.func175 (by decide) rfl Tryz.ntmps175 Tryz.results175 (by simp) (ZH _) ?_;simp only[go_sem,lns,opv];refine Za (hR) ?_ ?_ ?_;iterate 2 simp only[go_sem,lns]
    simp only[go_sem,e1,lns];refine Ze (by kernel_rfl) (by kernel_rfl) ?_;simp only[go_sem,lns,opv];refine Za (hG) ?_ ?_ ?_;iterate 2 simp only[go_sem,lns]
    simp only[go_sem,refs];refine Za (hI) ?_ ?_ ?_;iterate 2 simp only[go_sem,refs,ref]
    simp only[go_sem,hi,opv,lns,e3,Bool.not_false]
    (try simp only[go_sem,opb,ZU])
 ·have hne:(Zc ⟨8,at',nm,ot,fac,fd,fo,ba⟩).length≠0:=by unfold Zc;simp
  have hc0:0<(Zc ⟨8,at',nm,ot,fac,fd,fo,ba⟩).length:=by omega
  have hc1:(0:Int)<((Zc ⟨8,at',nm,ot,fac,fd,fo,ba⟩).length:Int):=by omega
  have hc2:(((Zc ⟨8,at',nm,ot,fac,fd,fo,ba⟩).map ref).getD 0 .any)=ref ((Zc ⟨8,at',nm,ot,fac,fd,fo,ba⟩).getD 0 default):=ZaP hc0;generalize Zc ⟨8,at',nm,ot,fac,fd,fo,ba⟩=comes at *;have hb:Zh ⟨8,at',nm,ot,fac,fd,fo,ba⟩ o=(ZZ o (ZcP o fo).1,(ZcP o fo).2):=by simp[Zh]
  rw[hb];generalize ZcP o fo=y at *;obtain⟨d,b⟩:=y;cases b
  ·simp only[if_true];rcases pl with ⟨e1,e2⟩|e1
   ·refine pov Tryz.func175 (by decide) rfl Tryz.ntmps175 Tryz.results175 (by simp) (ZH _) ?_;simp only[go_sem,lns,opv];refine Za (hR) ?_ ?_ ?_;iterate 2 simp only[go_sem,lns]
    simp only[go_sem,e1,e2,lns];refine Ze (by kernel_rfl) (by kernel_rfl) ?_;simp only[go_sem,lns,opv];refine Za (hG) ?_ ?_ ?_;iterate 2 simp only[go_sem,lns]
    simp only[go_sem,refs];refine Za (hI) ?_ ?_ ?_;iterate 2 simp only[go_sem,refs,ref]
    simp only[go_sem,hi,opv,lns,Bool.not_true];refine Za (hV) ?_ ?_ ?_;iterate 2 simp only[go_sem,opv,prs]
    simp only[go_sem,ZdP,Bool.not_false,opb,ZU]
   ·refine pov Tryz.func175 (by decide) rfl Tryz.ntmps175 Tryz.results175 (by simp) (ZH _) ?_;simp only[go_sem,lns,opv];refine Za (hR) ?_ ?_ ?_;iterate 2 simp only[go_sem,lns]
    simp only[go_sem,e1,lns];refine Ze (by kernel_rfl) (by kernel_rfl) ?_;simp only[go_sem,lns,opv];refine Za (hG) ?_ ?_ ?_;iterate 2 simp only[go_sem,lns]
    simp only[go_sem,refs];refine Za (hI) ?_ ?_ ?_;iterate 2 simp only[go_sem,refs,ref]
    simp only[go_sem,hi,opv,lns,Bool.not_true];refine Za (hV) ?_ ?_ ?_;iterate 2 simp only[go_sem,opv,prs]
    simp only[go_sem,ZdP,Bool.not_false,opb,ZU]
  ·simp only[Bool.true_eq_false,if_false];have hO2:=ZbK (Zj (ZZ o d) (comes.getD 0 default)) ⟨ho.d⟩;rcases pl with ⟨e1,e2⟩|e1
   ·refine pov Tryz.func175 (by decide) rfl Tryz.ntmps175 Tryz.results175 (by simp) (ZH _) ?_;simp only[go_sem,lns,opv];refine Za (hR) ?_ ?_ ?_;iterate 2 simp only[go_sem,lns]
    simp only[go_sem,e1,e2,lns];refine Ze (by kernel_rfl) (by kernel_rfl) ?_;simp only[go_sem,lns,opv];refine Za (hG) ?_ ?_ ?_;iterate 2 simp only[go_sem,lns]
    simp only[go_sem,refs];refine Za (hI) ?_ ?_ ?_;iterate 2 simp only[go_sem,refs,ref]
    simp only[go_sem,hi,opv,lns,Bool.not_true];refine Za (hV) ?_ ?_ ?_;iterate 2 simp only[go_sem,opv,prs]
    simp only[go_sem,ZdP,Bool.not_true,lns];refine Za (hC) ?_ ?_ ?_;iterate 2 simp only[go_sem,lns]
    simp only[go_sem,refs,hc1,List.length_map,hc2,ref,opv,Zj,ZK,ZZ];refine Za (hO2) ?_ ?_ ?_;iterate 2 simp only[go_sem,opv,Zj,ZK,ZZ]
    simp only[go_sem,opb,opv,Zj,ZK,ZZ]
   ·refine pov Tryz.func175 (by decide) rfl Tryz.ntmps175 Tryz.results175 (by simp) (ZH _) ?_;simp only[go_sem,lns,opv];refine Za (hR) ?_ ?_ ?_;iterate 2 simp only[go_sem,lns]
    simp only[go_sem,e1,lns];refine Ze (by kernel_rfl) (by kernel_rfl) ?_;simp only[go_sem,lns,opv];refine Za (hG) ?_ ?_ ?_;iterate 2 simp only[go_sem,lns]
    simp only[go_sem,refs];refine Za (hI) ?_ ?_ ?_;iterate 2 simp only[go_sem,refs,ref]
    simp only[go_sem,hi,opv,lns,Bool.not_true];refine Za (hV) ?_ ?_ ?_;iterate 2 simp only[go_sem,opv,prs]
    simp only[go_sem,ZdP,Bool.not_true,lns];refine Za (hC) ?_ ?_ ?_;iterate 2 simp only[go_sem,lns]
    simp only[go_sem,refs,hc1,List.length_map,hc2,ref,opv,Zj,ZK,ZZ];refine Za (hO2) ?_ ?_ ?_;iterate 2 simp only[go_sem,opv,Zj,ZK,ZZ]
    simp only[go_sem,opb,opv,Zj,ZK,ZZ]
 ·have hne:(Zc ⟨9,at',nm,ot,fac,fd,fo,ba⟩).length≠0:=by unfold Zc;simp
  have hc0:0<(Zc ⟨9,at',nm,ot,fac,fd,fo,ba⟩).length:=by omega
  have hc1:(0:Int)<((Zc ⟨9,at',nm,ot,fac,fd,fo,ba⟩).length:Int):=by omega
  have hc2:(((Zc ⟨9,at',nm,ot,fac,fd,fo,ba⟩).map ref).getD 0 .any)=ref ((Zc ⟨9,at',nm,ot,fac,fd,fo,ba⟩).getD 0 default):=ZaP hc0;generalize Zc ⟨9,at',nm,ot,fac,fd,fo,ba⟩=comes at *;have hb:Zh ⟨9,at',nm,ot,fac,fd,fo,ba⟩ o=(ZK o (ZcD o (ZE (Zl ⟨9,at',nm,ot,fac,fd,fo,ba⟩) o.at') fac).1,(ZcD o (ZE (Zl ⟨9,at',nm,ot,fac,fd,fo,ba⟩) o.at') fac).2):=by simp[Zh]
  rw[hb];generalize ZcD o (ZE (Zl ⟨9,at',nm,ot,fac,fd,fo,ba⟩) o.at') fac=y at *;obtain⟨d,b⟩:=y;cases b
  ·simp only[if_true];rcases pl with ⟨e1,e2⟩|e1
   ·refine pov Tryz.func175 (by decide) rfl Tryz.ntmps175 Tryz.results175 (by simp) (ZH _) ?_;simp only[go_sem,lns,opv];refine Za (hR) ?_ ?_ ?_;iterate 2 simp only[go_sem,lns]
    simp only[go_sem,e1,e2,lns];refine Ze (by kernel_rfl) (by kernel_rfl) ?_;simp only[go_sem,lns,opv];refine Za (hG) ?_ ?_ ?_;iterate 2 simp only[go_sem,lns]
    simp only[go_sem,refs];refine Za (hI) ?_ ?_ ?_;iterate 2 simp only[go_sem,refs,ref]
    simp only[go_sem,hi,opv,lns,Bool.not_true];refine Za (hM) ?_ ?_ ?_;iterate 2 simp only[go_sem,opv]
    simp only[go_sem,Zv7,Bool.not_false,opb,ZU]
   ·refine pov Tryz.func175 (by decide) rfl Tryz.ntmps175 Tryz.results175 (by simp) (ZH _) ?_;simp only[go_sem,lns,opv];refine Za (hR) ?_ ?_ ?_;iterate 2 simp only[go_sem,lns]
    simp only[go_sem,e1,lns];refine Ze (by kernel_rfl) (by kernel_rfl) ?_;simp only[go_sem,lns,opv];refine Za (hG) ?_ ?_ ?_;iterate 2 simp only[go_sem,lns]
    simp only[go_sem,refs];refine Za (hI) ?_ ?_ ?_;iterate 2 simp only[go_sem,refs,ref]
    simp only[go_sem,hi,opv,lns,Bool.not_true];refine Za (hM) ?_ ?_ ?_;iterate 2 simp only[go_sem,opv]
    simp only[go_sem,Zv7,Bool.not_false,opb,ZU]
  ·simp only[Bool.true_eq_false,if_false];have hO2:=ZbK (Zj (ZK o d) (comes.getD 0 default)) ⟨ho.d⟩;rcases pl with ⟨e1,e2⟩|e1
   ·refine pov Tryz.func175 (by decide) rfl Tryz.ntmps175 Tryz.results175 (by simp) (ZH _) ?_;simp only[go_sem,lns,opv];refine Za (hR) ?_ ?_ ?_;iterate 2 simp only[go_sem,lns]
    simp only[go_sem,e1,e2,lns];refine Ze (by kernel_rfl) (by kernel_rfl) ?_;simp only[go_sem,lns,opv];refine Za (hG) ?_ ?_ ?_;iterate 2 simp only[go_sem,lns]
    simp only[go_sem,refs];refine Za (hI) ?_ ?_ ?_;iterate 2 simp only[go_sem,refs,ref]
    simp only[go_sem,hi,opv,lns,Bool.not_true];refine Za (hM) ?_ ?_ ?_;iterate 2 simp only[go_sem,opv]
    simp only[go_sem,Zv7,Bool.not_true,lns];refine Za (hC) ?_ ?_ ?_;iterate 2 simp only[go_sem,lns]
    simp only[go_sem,refs,hc1,List.length_map,hc2,ref,opv,Zj,ZK,ZZ];refine Za (hO2) ?_ ?_ ?_;iterate 2 simp only[go_sem,opv,Zj,ZK,ZZ]
    simp only[go_sem,opb,opv,Zj,ZK,ZZ]
   ·refine pov Tryz.func175 (by decide) rfl Tryz.ntmps175 Tryz.results175 (by simp) (ZH _) ?_;simp only[go_sem,lns,opv];refine Za (hR) ?_ ?_ ?_;iterate 2 simp only[go_sem,lns]
    simp only[go_sem,e1,lns];refine Ze (by kernel_rfl) (by kernel_rfl) ?_;simp only[go_sem,lns,opv];refine Za (hG) ?_ ?_ ?_;iterate 2 simp only[go_sem,lns]
    simp only[go_sem,refs];refine Za (hI) ?_ ?_ ?_;iterate 2 simp only[go_sem,refs,ref]
    simp only[go_sem,hi,opv,lns,Bool.not_true];refine Za (hM) ?_ ?_ ?_;iterate 2 simp only[go_sem,opv]
    simp only[go_sem,Zv7,Bool.not_true,lns];refine Za (hC) ?_ ?_ ?_;iterate 2 simp only[go_sem,lns]
    simp only[go_sem,refs,hc1,List.length_map,hc2,ref,opv,Zj,ZK,ZZ];refine Za (hO2) ?_ ?_ ?_;iterate 2 simp only[go_sem,opv,Zj,ZK,ZZ]
    simp only[go_sem,opb,opv,Zj,ZK,ZZ]
 ·have hne:(Zc ⟨10,at',nm,ot,fac,fd,fo,ba⟩).length≠0:=by unfold Zc;simp
  have hc0:0<(Zc ⟨10,at',nm,ot,fac,fd,fo,ba⟩).length:=by omega
  have hc1:(0:Int)<((Zc ⟨10,at',nm,ot,fac,fd,fo,ba⟩).length:Int):=by omega
  have hc2:(((Zc ⟨10,at',nm,ot,fac,fd,fo,ba⟩).map ref).getD 0 .any)=ref ((Zc ⟨10,at',nm,ot,fac,fd,fo,ba⟩).getD 0 default):=ZaP hc0;generalize Zc ⟨10,at',nm,ot,fac,fd,fo,ba⟩=comes at *;have hb:Zh ⟨10,at',nm,ot,fac,fd,fo,ba⟩ o=(o,decide (o.kind=4)):=by simp[Zh]
  rw[hb]
  by_cases kk:o.kind=4
  ·have e3:(o.kind==4)=true:=by simpa using kk
   simp only[kk,decide_true,Bool.true_eq_false,if_false];have hO2:=ZbK (Zj o (comes.getD 0 default)) ⟨ho.d⟩;rcases pl with ⟨e1,e2⟩|e1
   ·refine pov Tryz.func175 (by decide) rfl Tryz.ntmps175 Tryz.results175 (by simp) (ZH _) ?_;simp only[go_sem,lns,opv];refine Za (hR) ?_ ?_ ?_;iterate 2 simp only[go_sem,lns]
    simp only[go_sem,e1,e2,lns];refine Ze (by kernel_rfl) (by kernel_rfl) ?_;simp only[go_sem,lns,opv];refine Za (hG) ?_ ?_ ?_;iterate 2 simp only[go_sem,lns]
    simp only[go_sem,refs];refine Za (hI) ?_ ?_ ?_;iterate 2 simp only[go_sem,refs,ref]
    simp only[go_sem,hi,opv,lns,e3,Bool.not_true];refine Za (hC) ?_ ?_ ?_;iterate 2 simp only[go_sem,lns]
    simp only[go_sem,refs,hc1,List.length_map,hc2,ref,opv,Zj,ZK,ZZ];refine Za (hO2) ?_ ?_ ?_;iterate 2 simp only[go_sem,opv,Zj,ZK,ZZ]
    simp only[go_sem,opb,opv,kk,Zj,ZK,ZZ]
   ·refine pov Tryz.func175 (by decide) rfl Tryz.ntmps175 Tryz.results175 (by simp) (ZH _) ?_;simp only[go_sem,lns,opv];refine Za (hR) ?_ ?_ ?_;iterate 2 simp only[go_sem,lns]
    simp only[go_sem,e1,lns];refine Ze (by kernel_rfl) (by kernel_rfl) ?_;simp only[go_sem,lns,opv];refine Za (hG) ?_ ?_ ?_;iterate 2 simp only[go_sem,lns]
    simp only[go_sem,refs];refine Za (hI) ?_ ?_ ?_;iterate 2 simp only[go_sem,refs,ref]
    simp only[go_sem,hi,opv,lns,e3,Bool.not_true];refine Za (hC) ?_ ?_ ?_;iterate 2 simp only[go_sem,lns]
    simp only[go_sem,refs,hc1,List.length_map,hc2,ref,opv,Zj,ZK,ZZ];refine Za (hO2) ?_ ?_ ?_;iterate 2 simp only[go_sem,opv,Zj,ZK,ZZ]
    simp only[go_sem,opb,opv,kk,Zj,ZK,ZZ]
  ·have e3:(o.kind==4)=false:=by simpa using kk
   simp only[kk,decide_false,if_true];rcases pl with ⟨e1,e2⟩|e1
   ·refine pov Tryz.func175 (by decide) rfl Tryz.ntmps175 Tryz.results175 (by simp) (ZH _) ?_;simp only[go_sem,lns,opv];refine Za (hR) ?_ ?_ ?_;iterate 2 simp only[go_sem,lns]
    simp only[go_sem,e1,e2,lns];refine Ze (by kernel_rfl) (by kernel_rfl) ?_;simp only[go_sem,lns,opv];refine Za (hG) ?_ ?_ ?_;iterate 2 simp only[go_sem,lns]
    simp only[go_sem,refs];refine Za (hI) ?_ ?_ ?_;iterate 2 simp only[go_sem,refs,ref]
    simp only[go_sem,hi,opv,lns,e3,Bool.not_false]
    (try simp only[go_sem,opb,ZU])
   ·refine pov Tryz.func175 (by decide) rfl Tryz.ntmps175 Tryz.results175 (by simp) (ZH _) ?_;simp only[go_sem,lns,opv];refine Za (hR) ?_ ?_ ?_;iterate 2 simp only[go_sem,lns]
    simp only[go_sem,e1,lns];refine Ze (by kernel_rfl) (by kernel_rfl) ?_;simp only[go_sem,lns,opv];refine Za (hG) ?_ ?_ ?_;iterate 2 simp only[go_sem,lns]
    simp only[go_sem,refs];refine Za (hI) ?_ ?_ ?_;iterate 2 simp only[go_sem,refs,ref]
    simp only[go_sem,hi,opv,lns,e3,Bool.not_false]
    (try simp only[go_sem,opb,ZU])
end Go.Proofs.YthingdchjkhfbaaGreat
