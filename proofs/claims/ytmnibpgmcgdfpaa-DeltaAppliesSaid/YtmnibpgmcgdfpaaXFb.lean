/- Contracts of functions and laws of this seat, each for every input that it names: lemmas of the proof. -/
import Derived.Test.YtmnibpgmcgdfpaaPlM
import Derived.Test.YtmnibpgmcgdfpaaXAa
import Derived.Test.YtmnibpgmcgdfpaaXAc
import Derived.Test.YtmnibpgmcgdfpaaXAd
import Derived.Test.YtmnibpgmcgdfpaaXBl
import Derived.Test.YtmnibpgmcgdfpaaXCb
import Derived.Test.YtmnibpgmcgdfpaaXCc
import Derived.Test.YtmnibpgmcgdfpaaXDd
import Derived.Test.YtmnibpgmcgdfpaaXDf
import Derived.Test.YtmnibpgmcgdfpaaXDr
import Derived.Test.YtmnibpgmcgdfpaaXEd
namespace Go.Proofs.Ytmnibpgmcgdfpaa
set_option maxHeartbeats 64000000
set_option maxRecDepth 20000
set_option linter.unusedVariables false
set_option linter.unusedSimpArgs false
open Go.PL Go.RowKit
theorem FineB.okC {c:Cg} (h:FineB c):OkCg c:=⟨by have:=h.w;omega,by have:=h.n;omega,by have:=h.l;omega,fun e he=>by have:=h.e e he;omega⟩
theorem ZaM {l:List Fd} {d:Dc} {cs:List Cg} (h:(YI l d cs).2.2≠0):(YI l d cs).1=default:=by
 unfold YI at h ⊢;split
 ·rename_i hr;rw[if_pos hr]at h;exact Zcw h
 ·rfl
theorem ZhQ {l:List Fd} {d:Dc} {cs:List Cg} (hL:l.length≤40):OkDd (YI l d cs).1:=by
 by_cases h:(YI l d cs).2.2=0
 ·exact UW (GG h) hL
 ·rw[ZaM h];exact Zbs
set_option maxRecDepth 100000 in
theorem Sh (l:List Fd) (d:Dc) (cs:List Cg) (hl:l.length≤maxLen) (hl':∀f∈l,f.cases'.length≤maxLen) (hd:Vk d) (hcl:cs.length≤maxLen) (hc:∀c∈cs,FineC c):
  PL.Pure Try.prog 7 [Zj l,doc d,Ym cs] (.bool true):=by
 have hW:=YL;have c1:=SP l hl hl';have c2:=Yh d hd;have c3:=ZaF cs hcl hc;cases g1:ST l
 ·rw[g1]at c1;cases g2:YE d
  ·rw[g2]at c2;cases g3:Zad cs
   ·rw[g3]at c3;obtain⟨l1,l2⟩:=SU g1;have od:=(ZgJ g2).ok;simp only[Zad,Bool.or_eq_false_iff,decide_eq_false_iff_not,List.any_eq_false]at g3;have hlen:cs.length≤6900:=by omega
    have hf:∀c∈cs,OkCg c:=fun c hm=>(Zik (by have:=g3.2 c hm;simpa using this)).okC
    have p1:=Zfg d od.h od.r od.e od.s;have p2:=Sf l d cs l1 l2 od hlen hf;have p3:=Zb7 l d cs l1 l2 od hlen hf;have ox:=ZhQ (l:=l) (d:=d) (cs:=cs) l1;have rx:=GG (l:=l) (d:=d) (cs:=cs);unfold WH at p2 p3;generalize YI l d cs=X at *;have p4:=ZT X.1 X.1 ox.fine ox.fine;have p5:=ZT d d hd hd;rw[decide_eq_true rfl]at p4 p5;have p6:=XE l X.1 hl l2 ox.fine;have e1:(X.2.2==X.2.2)=true:=by simp
    have e2:(X.2.1==X.2.1)=true:=by simp
    cases hz:X.2.2 !=0
    ·rw[rx (by simpa using hz)]at p6;refine ZO Try.func7 rfl Try.ntmps7 Try.results7 ?_;simp only[go_sem,Zj,doc,Ym];refine vc1 (hW) ?_;simp only[go_sem];refine vc2 (c1) ?_;simp only[go_sem];refine vc1 (c2) ?_;simp only[go_sem];refine vc8 (c3) ?_;simp only[go_sem];refine vc1 (p1) ?_;simp only[go_sem,doc];refine vc8 (p2) ?_;simp only[go_sem,doc];refine vc8 (p3) ?_;simp only[go_sem,doc,e1,e2];refine vc1 (p4) ?_;simp only[go_sem];refine vc1 (p5) ?_;simp only[go_sem,hz];refine vc2 (p6) ?_;simp only[go_sem]
    ·refine ZO Try.func7 rfl Try.ntmps7 Try.results7 ?_;simp only[go_sem,Zj,doc,Ym];refine vc1 (hW) ?_;simp only[go_sem];refine vc2 (c1) ?_;simp only[go_sem];refine vc1 (c2) ?_;simp only[go_sem];refine vc8 (c3) ?_;simp only[go_sem];refine vc1 (p1) ?_;simp only[go_sem,doc];refine vc8 (p2) ?_;simp only[go_sem,doc];refine vc8 (p3) ?_;simp only[go_sem,doc,e1,e2];refine vc1 (p4) ?_;simp only[go_sem];refine vc1 (p5) ?_;simp only[go_sem,hz]
   ·rw[g3]at c3;refine ZO Try.func7 rfl Try.ntmps7 Try.results7 ?_;simp only[go_sem,Zj,doc,Ym];refine vc1 (hW) ?_;simp only[go_sem];refine vc2 (c1) ?_;simp only[go_sem];refine vc1 (c2) ?_;simp only[go_sem];refine vc8 (c3) ?_;simp only[go_sem]
  ·rw[g2]at c2;refine ZO Try.func7 rfl Try.ntmps7 Try.results7 ?_;simp only[go_sem,Zj,doc,Ym];refine vc1 (hW) ?_;simp only[go_sem];refine vc2 (c1) ?_;simp only[go_sem];refine vc1 (c2) ?_;simp only[go_sem]
 ·rw[g1]at c1;refine ZO Try.func7 rfl Try.ntmps7 Try.results7 ?_;simp only[go_sem,Zj,doc,Ym];refine vc1 (hW) ?_;simp only[go_sem];refine vc2 (c1) ?_;simp only[go_sem]
end Go.Proofs.Ytmnibpgmcgdfpaa
