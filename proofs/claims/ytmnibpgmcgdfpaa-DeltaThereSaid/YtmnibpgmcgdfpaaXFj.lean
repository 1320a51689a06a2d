/- Contracts of functions and laws of this seat, each for every input that it names: lemmas of the proof. -/
import Derived.Test.YtmnibpgmcgdfpaaPlM
import Derived.Test.YtmnibpgmcgdfpaaXAa
import Derived.Test.YtmnibpgmcgdfpaaXAc
import Derived.Test.YtmnibpgmcgdfpaaXAd
import Derived.Test.YtmnibpgmcgdfpaaXBl
import Derived.Test.YtmnibpgmcgdfpaaXCb
import Derived.Test.YtmnibpgmcgdfpaaXCc
import Derived.Test.YtmnibpgmcgdfpaaXDd
import Derived.Test.YtmnibpgmcgdfpaaXDf
import Derived.Test.YtmnibpgmcgdfpaaXDr
import Derived.Test.YtmnibpgmcgdfpaaXEd
import Derived.Test.YtmnibpgmcgdfpaaXFb
namespace Go.Proofs.Ytmnibpgmcgdfpaa
set_option maxHeartbeats 64000000
set_option maxRecDepth 20000
set_option linter.unusedVariables false
set_option linter.unusedSimpArgs false
open Go.PL Go.RowKit
theorem ZmM {l:List Fd} {d d':Dc} {cs:List Cg} {n:Int} (h:YI l d cs=(d',n,0)):WH (YI l d cs)= .tup [doc d',.int .i64 n,.int .i64 0]:=by rw[h];rfl
theorem ZjI {l:List Fd} {d:Dc} {cs:List Cg} (h:(YI l d cs).2.2=14):WH (YI l d cs)= .tup [doc default,.int .i64 (YI l d cs).2.1,.int .i64 14]:=by
 unfold WH;rw[h,ZaM (by rw[h];decide)]
set_option maxRecDepth 100000 in
theorem Zhz (l:List Fd) (a b:Dc) (cs:List Cg) (X Y:Int) (hl:l.length≤maxLen) (hl':∀f∈l,f.cases'.length≤maxLen) (ha:Vk a) (hb:Vk b) (sa:SmallD a) (sb:SmallD b) (c1:PL.Pure Try.prog 16 [Zj l] (.bool false)) (ra:Zl l a=true) (rb:Zl l b=true) (g2:YE a=false) (g3:YE b=false)
  (hD:PL.Pure Try.prog 19 [Zj l,doc a,doc b] (.tup [Ym cs,.int .i64 0])) (hB:PL.Pure Try.prog 11 [Ym cs] (Ym (Vs cs)))
  (hX:PL.Pure Try.prog 35 [Zj l,doc a,Ym cs] (.tup [doc b,.int .i64 (cs.length:Int),.int .i64 0])) (hY:PL.Pure Try.prog 35 [Zj l,doc b,Ym (Vs cs)] (.tup [doc a,.int .i64 (cs.length:Int),.int .i64 0])) (hz:((cs.length:Int)==0)=decide (a=b)):
  PL.Pure Try.prog 8 [Zj l,doc a,doc b] (.bool true):=by
 have c2:=Yh a ha;have c3:=Yh b hb;have c4:=ZH l a hl hl' ha;have c5:=ZH l b hl hl' hb;rw[g2]at c2;rw[g3]at c3;rw[ra]at c4;rw[rb]at c5;have s1:=ZT b b hb hb;have s2:=ZT a a ha ha;rw[decide_eq_true rfl]at s1 s2;have s3:=ZT a b ha hb;have hw:IntKind.i64.wrap ((a.rows.length:Int)+(b.rows.length:Int))=(a.rows.length:Int)+(b.rows.length:Int):=w64 (by have:=sa.r;have:=sb.r;omega);generalize decide (a=b)=z at *
 by_cases h4:(400:Int)<(a.rows.length:Int)+(b.rows.length:Int)
 ·refine ZO Try.func8 rfl Try.ntmps8 Try.results8 ?_;simp only[go_sem,Zj,doc];refine vc1 (YL) ?_;simp only[go_sem];refine vc2 (c1) ?_;simp only[go_sem];refine vc1 (c2) ?_;simp only[go_sem];refine vc1 (c3) ?_;simp only[go_sem];refine vc2 (c4) ?_;simp only[go_sem];refine vc2 (c5) ?_;simp only[go_sem];refine vc2 (hD) ?_;simp only[go_sem,Ym];refine vc8 (hX) ?_;simp only[go_sem,doc];refine vc1 (s1) ?_;simp only[go_sem];refine vDq ?_;simp only[go_sem,Ym];refine vc8 (hB) ?_;simp only[go_sem];refine vc8 (hY) ?_;simp only[go_sem,doc,Ym];refine vc1 (s2) ?_;simp only[go_sem,hz];refine vc1 (s3) ?_;simp only[go_sem,hw,hz,h4]
 ·refine ZO Try.func8 rfl Try.ntmps8 Try.results8 ?_;simp only[go_sem,Zj,doc];refine vc1 (YL) ?_;simp only[go_sem];refine vc2 (c1) ?_;simp only[go_sem];refine vc1 (c2) ?_;simp only[go_sem];refine vc1 (c3) ?_;simp only[go_sem];refine vc2 (c4) ?_;simp only[go_sem];refine vc2 (c5) ?_;simp only[go_sem];refine vc2 (hD) ?_;simp only[go_sem,Ym];refine vc8 (hX) ?_;simp only[go_sem,doc];refine vc1 (s1) ?_;simp only[go_sem];refine vDq ?_;simp only[go_sem,Ym];refine vc8 (hB) ?_;simp only[go_sem];refine vc8 (hY) ?_;simp only[go_sem,doc,Ym];refine vc1 (s2) ?_;simp only[go_sem,hz];refine vc1 (s3) ?_;simp only[go_sem,hw,hz,h4]
set_option maxRecDepth 100000 in
theorem ZhB (l:List Fd) (a b:Dc) (cs:List Cg) (X Y:Int) (hl:l.length≤maxLen) (hl':∀f∈l,f.cases'.length≤maxLen) (ha:Vk a) (hb:Vk b) (sa:SmallD a) (sb:SmallD b) (c1:PL.Pure Try.prog 16 [Zj l] (.bool false)) (ra:Zl l a=true) (rb:Zl l b=true) (g2:YE a=false) (g3:YE b=false)
  (hD:PL.Pure Try.prog 19 [Zj l,doc a,doc b] (.tup [Ym cs,.int .i64 0])) (hB:PL.Pure Try.prog 11 [Ym cs] (Ym (Vs cs)))
  (hX:PL.Pure Try.prog 35 [Zj l,doc a,Ym cs] (.tup [doc default,.int .i64 X,.int .i64 14])) (hY:PL.Pure Try.prog 35 [Zj l,doc b,Ym (Vs cs)] (.tup [doc a,.int .i64 (cs.length:Int),.int .i64 0])) (hz:((cs.length:Int)==0)=decide (a=b)) (h4:400<a.rows.length+b.rows.length):
  PL.Pure Try.prog 8 [Zj l,doc a,doc b] (.bool true):=by
 have c2:=Yh a ha;have c3:=Yh b hb;have c4:=ZH l a hl hl' ha;have c5:=ZH l b hl hl' hb;rw[g2]at c2;rw[g3]at c3;rw[ra]at c4;rw[rb]at c5;have s1:=ZT b b hb hb;have s2:=ZT a a ha ha;rw[decide_eq_true rfl]at s1 s2;have s3:=ZT a b ha hb;have hw:IntKind.i64.wrap ((a.rows.length:Int)+(b.rows.length:Int))=(a.rows.length:Int)+(b.rows.length:Int):=w64 (by have:=sa.r;have:=sb.r;omega);generalize decide (a=b)=z at *;have h4:(400:Int)<(a.rows.length:Int)+(b.rows.length:Int):=by omega
 refine ZO Try.func8 rfl Try.ntmps8 Try.results8 ?_;simp only[go_sem,Zj,doc];refine vc1 (YL) ?_;simp only[go_sem];refine vc2 (c1) ?_;simp only[go_sem];refine vc1 (c2) ?_;simp only[go_sem];refine vc1 (c3) ?_;simp only[go_sem];refine vc2 (c4) ?_;simp only[go_sem];refine vc2 (c5) ?_;simp only[go_sem];refine vc2 (hD) ?_;simp only[go_sem,Ym];refine vc8 (hX) ?_;simp only[go_sem,doc];refine vDq ?_;simp only[go_sem,Ym];refine vc8 (hB) ?_;simp only[go_sem];refine vc8 (hY) ?_;simp only[go_sem,doc,Ym];refine vc1 (s2) ?_;try simp only[go_sem,hz]
 refine vc1 (s3) ?_;simp only[go_sem,hw,hz,h4]
set_option maxRecDepth 100000 in
theorem ZhA (l:List Fd) (a b:Dc) (cs:List Cg) (X Y:Int) (hl:l.length≤maxLen) (hl':∀f∈l,f.cases'.length≤maxLen) (ha:Vk a) (hb:Vk b) (sa:SmallD a) (sb:SmallD b) (c1:PL.Pure Try.prog 16 [Zj l] (.bool false)) (ra:Zl l a=true) (rb:Zl l b=true) (g2:YE a=false) (g3:YE b=false)
  (hD:PL.Pure Try.prog 19 [Zj l,doc a,doc b] (.tup [Ym cs,.int .i64 0])) (hB:PL.Pure Try.prog 11 [Ym cs] (Ym (Vs cs)))
  (hX:PL.Pure Try.prog 35 [Zj l,doc a,Ym cs] (.tup [doc b,.int .i64 (cs.length:Int),.int .i64 0])) (hY:PL.Pure Try.prog 35 [Zj l,doc b,Ym (Vs cs)] (.tup [doc default,.int .i64 Y,.int .i64 14])) (hz:((cs.length:Int)==0)=decide (a=b)) (h4:400<a.rows.length+b.rows.length):
  PL.Pure Try.prog 8 [Zj l,doc a,doc b] (.bool true):=by
 have c2:=Yh a ha;have c3:=Yh b hb;have c4:=ZH l a hl hl' ha;have c5:=ZH l b hl hl' hb;rw[g2]at c2;rw[g3]at c3;rw[ra]at c4;rw[rb]at c5;have s1:=ZT b b hb hb;have s2:=ZT a a ha ha;rw[decide_eq_true rfl]at s1 s2;have s3:=ZT a b ha hb;have hw:IntKind.i64.wrap ((a.rows.length:Int)+(b.rows.length:Int))=(a.rows.length:Int)+(b.rows.length:Int):=w64 (by have:=sa.r;have:=sb.r;omega);generalize decide (a=b)=z at *;have h4:(400:Int)<(a.rows.length:Int)+(b.rows.length:Int):=by omega
 refine ZO Try.func8 rfl Try.ntmps8 Try.results8 ?_;simp only[go_sem,Zj,doc];refine vc1 (YL) ?_;simp only[go_sem];refine vc2 (c1) ?_;simp only[go_sem];refine vc1 (c2) ?_;simp only[go_sem];refine vc1 (c3) ?_;simp only[go_sem];refine vc2 (c4) ?_;simp only[go_sem];refine vc2 (c5) ?_;simp only[go_sem];refine vc2 (hD) ?_;simp only[go_sem,Ym];refine vc8 (hX) ?_;simp only[go_sem,doc];refine vc1 (s1) ?_;simp only[go_sem];refine vDq ?_;simp only[go_sem,Ym];refine vc8 (hB) ?_;simp only[go_sem];refine vc8 (hY) ?_;simp only[go_sem,doc,Ym];try simp only[go_sem,hz]
 refine vc1 (s3) ?_;simp only[go_sem,hw,hz,h4]
set_option maxRecDepth 100000 in
theorem ZhC (l:List Fd) (a b:Dc) (cs:List Cg) (X Y:Int) (hl:l.length≤maxLen) (hl':∀f∈l,f.cases'.length≤maxLen) (ha:Vk a) (hb:Vk b) (sa:SmallD a) (sb:SmallD b) (c1:PL.Pure Try.prog 16 [Zj l] (.bool false)) (ra:Zl l a=true) (rb:Zl l b=true) (g2:YE a=false) (g3:YE b=false)
  (hD:PL.Pure Try.prog 19 [Zj l,doc a,doc b] (.tup [Ym cs,.int .i64 0])) (hB:PL.Pure Try.prog 11 [Ym cs] (Ym (Vs cs)))
  (hX:PL.Pure Try.prog 35 [Zj l,doc a,Ym cs] (.tup [doc default,.int .i64 X,.int .i64 14])) (hY:PL.Pure Try.prog 35 [Zj l,doc b,Ym (Vs cs)] (.tup [doc default,.int .i64 Y,.int .i64 14])) (hz:((cs.length:Int)==0)=decide (a=b)) (h4:400<a.rows.length+b.rows.length):
  PL.Pure Try.prog 8 [Zj l,doc a,doc b] (.bool true):=by
 have c2:=Yh a ha;have c3:=Yh b hb;have c4:=ZH l a hl hl' ha;have c5:=ZH l b hl hl' hb;rw[g2]at c2;rw[g3]at c3;rw[ra]at c4;rw[rb]at c5;have s1:=ZT b b hb hb;have s2:=ZT a a ha ha;rw[decide_eq_true rfl]at s1 s2;have s3:=ZT a b ha hb;have hw:IntKind.i64.wrap ((a.rows.length:Int)+(b.rows.length:Int))=(a.rows.length:Int)+(b.rows.length:Int):=w64 (by have:=sa.r;have:=sb.r;omega);generalize decide (a=b)=z at *;have h4:(400:Int)<(a.rows.length:Int)+(b.rows.length:Int):=by omega
 refine ZO Try.func8 rfl Try.ntmps8 Try.results8 ?_;simp only[go_sem,Zj,doc];refine vc1 (YL) ?_;simp only[go_sem];refine vc2 (c1) ?_;simp only[go_sem];refine vc1 (c2) ?_;simp only[go_sem];refine vc1 (c3) ?_;simp only[go_sem];refine vc2 (c4) ?_;simp only[go_sem];refine vc2 (c5) ?_;simp only[go_sem];refine vc2 (hD) ?_;simp only[go_sem,Ym];refine vc8 (hX) ?_;simp only[go_sem,doc];refine vDq ?_;simp only[go_sem,Ym];refine vc8 (hB) ?_;simp only[go_sem];refine vc8 (hY) ?_;simp only[go_sem,doc,Ym];try simp only[go_sem,hz]
 refine vc1 (s3) ?_;simp only[go_sem,hw,hz,h4]
open Go.PL Go.RowKit
set_option maxRecDepth 100000 in
theorem Gv (l:List Fd) (a b:Dc) (hl:l.length≤maxLen) (hl':∀f∈l,f.cases'.length≤maxLen) (ha:Vk a) (hb:Vk b):PL.Pure Try.prog 8 [Zj l,doc a,doc b] (.bool true):=by
 have hW:=YL;have c1:=SP l hl hl';have c2:=Yh a ha;have c3:=Yh b hb;have c4:=ZH l a hl hl' ha;have c5:=ZH l b hl hl' hb;cases g1:ST l
 ·rw[g1]at c1;cases g2:YE a
  ·rw[g2]at c2;cases g3:YE b
   ·rw[g3]at c3;cases ra:Zl l a
    ·rw[ra]at c4;refine ZO Try.func8 rfl Try.ntmps8 Try.results8 ?_;simp only[go_sem,Zj,doc];refine vc1 (hW) ?_;simp only[go_sem];refine vc2 (c1) ?_;simp only[go_sem];refine vc1 (c2) ?_;simp only[go_sem];refine vc1 (c3) ?_;simp only[go_sem];refine vc2 (c4) ?_;simp only[go_sem]
    ·rw[ra]at c4;cases rb:Zl l b
     ·rw[rb]at c5;refine ZO Try.func8 rfl Try.ntmps8 Try.results8 ?_;simp only[go_sem,Zj,doc];refine vc1 (hW) ?_;simp only[go_sem];refine vc2 (c1) ?_;simp only[go_sem];refine vc1 (c2) ?_;simp only[go_sem];refine vc1 (c3) ?_;simp only[go_sem];refine vc2 (c4) ?_;simp only[go_sem];refine vc2 (c5) ?_;simp only[go_sem]
     ·obtain⟨l1,l2⟩:=SU g1;have sa:=ZgJ g2;have sb:=ZgJ g3;obtain⟨cs,hM,hlen,hX,hY,hz⟩:=Zl8 ra rb;have hD:=D1 l a b hl l2 sa.ok sb.ok;obtain⟨k1,k2⟩:=Zcn (l:=l) sa sb;rw[hM]at hD k1 k2;have hB:=ZdZ cs k1 k2;have k3:=Zet k2;have A1:=Sf l a cs l1 l2 sa.ok hlen (fun c h=>(k2 c h).okC);have A2:=Sf l b (Vs cs) l1 l2 sb.ok (by rw[ZaS];exact hlen) (fun c h=>(k3 c h).okC);rcases hX with e|⟨h4,e⟩
      ·rw[ZmM e]at A1;rcases hY with e'|⟨h4,e'⟩
       ·rw[ZmM e']at A2;exact Zhz l a b cs 0 0 hl hl' ha hb sa sb c1 ra rb g2 g3 hD hB A1 A2 hz
       ·rw[ZjI e']at A2;exact ZhA l a b cs 0 _ hl hl' ha hb sa sb c1 ra rb g2 g3 hD hB A1 A2 hz h4
      ·rw[ZjI e]at A1;rcases hY with e'|⟨h4,e'⟩
       ·rw[ZmM e']at A2;exact ZhB l a b cs _ 0 hl hl' ha hb sa sb c1 ra rb g2 g3 hD hB A1 A2 hz h4
       ·rw[ZjI e']at A2;exact ZhC l a b cs _ _ hl hl' ha hb sa sb c1 ra rb g2 g3 hD hB A1 A2 hz h4
   ·rw[g3]at c3;refine ZO Try.func8 rfl Try.ntmps8 Try.results8 ?_;simp only[go_sem,Zj,doc];refine vc1 (hW) ?_;simp only[go_sem];refine vc2 (c1) ?_;simp only[go_sem];refine vc1 (c2) ?_;simp only[go_sem];refine vc1 (c3) ?_;simp only[go_sem]
  ·rw[g2]at c2;refine ZO Try.func8 rfl Try.ntmps8 Try.results8 ?_;simp only[go_sem,Zj,doc];refine vc1 (hW) ?_;simp only[go_sem];refine vc2 (c1) ?_;simp only[go_sem];refine vc1 (c2) ?_;simp only[go_sem]
 ·rw[g1]at c1;refine ZO Try.func8 rfl Try.ntmps8 Try.results8 ?_;simp only[go_sem,Zj,doc];refine vc1 (hW) ?_;simp only[go_sem];refine vc2 (c1) ?_;simp only[go_sem]
end Go.Proofs.Ytmnibpgmcgdfpaa
