/- Contracts of functions and laws of this seat, each for every input that it names: lemmas of the proof. -/
import Derived.Test.YthingdchjkhfbaaGreatVXBv
import Derived.Test.YthingdchjkhfbaaGreatVXBo
import Derived.Test.YthingdchjkhfbaaGreatVXBx
import Derived.Test.YthingdchjkhfbaaGreatVXAa
import Derived.Test.YthingdchjkhfbaaGreatVPlI
set_option linter.unusedSimpArgs false
set_option linter.unusedVariables false
set_option linter.unusedSimpArgs false
set_option linter.unusedVariables false
namespace Go.Proofs.YthingdchjkhfbaaGreat
open Go.PL
structure ChT where
 l : List Fd
 n : Nat
 c : Int
def chainA : List Fd → List Ln → Nat → ChT
 | fs, [], i => ⟨fs, i, 0⟩
 | fs, x :: xs, i => if (applyM fs x).2 ≠ 0 then ⟨[], i, (applyM fs x).2⟩ else chainA (applyM fs x).1 xs (i + 1)
structure ChS (l : List Fd) (row : List Ln) where
 k : Nat
 fs : List Fd
 hk : k ≤ row.length
 ok : OkFs fs
 h : chainA fs (row.drop k) k = chainA l row 0
theorem drop_ln {row : List Ln} {k : Nat} (hk : k < row.length) : row.drop k = row.getD k default :: row.drop (k + 1) := by
 rw [getD_lt hk, List.drop_eq_getElem_cons hk]
end Go.Proofs.YthingdchjkhfbaaGreat
set_option linter.unusedSimpArgs false
set_option linter.unusedVariables false
set_option linter.unusedSimpArgs false
set_option linter.unusedVariables false
namespace Go.Proofs.YthingdchjkhfbaaGreat
open Go.PL
end Go.Proofs.YthingdchjkhfbaaGreat
set_option linter.unusedSimpArgs false
set_option linter.unusedVariables false
set_option linter.unusedSimpArgs false
set_option linter.unusedVariables false
namespace Go.Proofs.YthingdchjkhfbaaGreat
open Go.PL
def keptL : List Ln → Rf → Bool
 | [], r => true
 | x :: xs, r => if keptM x r = false then false else if (traceM x r).2 = false then false else keptL xs (traceM x r).1
structure TrS (row : List Ln) (f : List Ln → Rf → Rf × Bool) (r0 : Rf) where
 k : Nat
 r : Rf
 hk : k ≤ row.length
 h : f (row.drop k) r = f row r0
structure KpS (row : List Ln) (r0 : Rf) where
 k : Nat
 r : Rf
 hk : k ≤ row.length
 h : keptL (row.drop k) r = keptL row r0
theorem row_ok {m : List Eg} {a b : Tg} (hm : OkM m) : (rowM m a b).1.length ≤ 1000 ∧ ∀ x ∈ (rowM m a b).1, OkLn x := by
 unfold rowM
 split
 ·simp
 ·rename_i h
  have hl := legs_len m a b hm
  unfold pathM at hl
  rw [if_neg h] at hl
  refine ⟨by simp only at hl; simp [lenses]; omega, fun x hx => ?_⟩
  obtain ⟨y, _, rfl⟩ := List.mem_map.1 hx
  exact okLens hm y
end Go.Proofs.YthingdchjkhfbaaGreat
set_option linter.unusedSimpArgs false
set_option linter.unusedVariables false
set_option linter.unusedSimpArgs false
set_option linter.unusedVariables false
namespace Go.Proofs.YthingdchjkhfbaaGreat
open Go.PL
structure Pair (l m : List Fd) (x y : Ln) : Prop where
 a : applyM l x = (m, 0)
 b : applyM m y = (l, 0)
 g : goesR y = comesR x
 c : comesR y = goesR x
inductive Pairs : List Fd → List Fd → List Ln → List Ln → Prop
 | nil (l : List Fd) : Pairs l l [] []
 | cons {l m n : List Fd} {x y : Ln} {xs ys : List Ln} (h : Pair l m x y) (hs : Pairs m n xs ys) : Pairs l n (x :: xs) (ys ++ [y])
theorem Pairs.append {l m n : List Fd} {xs ys us vs : List Ln} (h1 : Pairs l m xs ys) (h2 : Pairs m n us vs) : Pairs l n (xs ++ us) (vs ++ ys) := by
 induction h1 with
 | nil => simpa using h2
 | cons h hs ih => rw [← List.append_assoc]; exact .cons h (ih h2)
end Go.Proofs.YthingdchjkhfbaaGreat
set_option linter.unusedSimpArgs false
set_option linter.unusedVariables false
set_option linter.unusedSimpArgs false
set_option linter.unusedVariables false
namespace Go.Proofs.YthingdchjkhfbaaGreat
open Go.PL
theorem right_kinds {f : Fd} (h : rightF f = true) : f.kind = 1 ∨ f.kind = 2 ∨ f.kind = 3 ∨ f.kind = 4 := by
 simp only [rightF, Bool.and_eq_true] at h
 have h := h.2
 by_cases k1 : f.kind = 1
 ·exact .inl k1
 ·rw [if_neg k1] at h
  by_cases k3 : f.kind = 3
  ·exact .inr (.inr (.inl k3))
  ·simp only [if_neg k3, Bool.and_eq_true] at h
   have h := h.2
   simp [tail2] at h
   omega
set_option maxRecDepth 20000 in
set_option maxHeartbeats 8000000 in
theorem FFits_pure (f : Fd) (s : Str) (hf : f.cases'.length ≤ maxLen) : PL.Pure Tryz.prog 80 [fld f, .str s] (.bool (fitsF f s)) := by
 have hR := Right_pure f hf
 have hT := Text_pure s
 have hC := ConStr_pure f.cases' s hf
 unfold fitsF
 cases hr : rightF f
 ·rw [hr] at hR
  refine PL.Pure.of_v Tryz.func80 (by decide) rfl Tryz.ntmps80 Tryz.results80 (by simp) rfl ?_
  simp only [go_sem, fld]
  refine vCall_of (hR) ?_ ?_ ?_; iterate 2 simp only [go_sem, fld]
  simp only [go_sem, Bool.false_and]
 ·have hk := right_kinds hr
  rw [hr] at hR
  have e41 : decide ((s.length : Int) ≤ 40) = decide ((s.length : Int) < 41) := by rw [Bool.eq_iff_iff]; simp; omega
  rw [e41] at hT
  obtain ⟨a, kind, d, c, w⟩ := f
  simp only at hk hR hT hC ⊢
  rcases hk with rfl | rfl | rfl | rfl
  ·refine PL.Pure.of_v Tryz.func80 (by decide) rfl Tryz.ntmps80 Tryz.results80 (by simp) rfl ?_
   simp only [go_sem, fld]
   refine vCall_of (hR) ?_ ?_ ?_; iterate 2 simp only [go_sem, fld]
   simp only [go_sem]
   rfl
  ·refine PL.Pure.of_v Tryz.func80 (by decide) rfl Tryz.ntmps80 Tryz.results80 (by simp) rfl ?_
   simp only [go_sem, fld]
   refine vCall_of (hR) ?_ ?_ ?_; iterate 2 simp only [go_sem, fld]
   simp only [go_sem]
   refine vCall_of (hT) ?_ ?_ ?_; iterate 2 simp only [go_sem]
   simp only [go_sem]
   simp
  ·refine PL.Pure.of_v Tryz.func80 (by decide) rfl Tryz.ntmps80 Tryz.results80 (by simp) rfl ?_
   simp only [go_sem, fld]
   refine vCall_of (hR) ?_ ?_ ?_; iterate 2 simp only [go_sem, fld]
   simp only [go_sem]
   refine vCall_of (hC) ?_ ?_ ?_; iterate 2 simp only [go_sem, strs]
   simp only [go_sem]
   simp
  ·refine PL.Pure.of_v Tryz.func80 (by decide) rfl Tryz.ntmps80 Tryz.results80 (by simp) rfl ?_
   simp only [go_sem, fld]
   refine vCall_of (hR) ?_ ?_ ?_; iterate 2 simp only [go_sem, fld]
   simp only [go_sem]
   refine vCall_of (hT) ?_ ?_ ?_; iterate 2 simp only [go_sem]
   simp only [go_sem]
   simp
def fitsO (l : List Fd) (o : Opn) : Bool :=
 rightO o && (if placedB o = false then true else decide ((findF l o.at').2 = 0) && (if o.kind = 3 then decide ((findF l o.at').1.kind = 1) else if o.has = true then fitsF (findF l o.at').1 o.text else decide ((findF l o.at').1.kind = 4)))
set_option maxRecDepth 20000 in
set_option maxHeartbeats 8000000 in
theorem OFits_pure (l : List Fd) (o : Opn) (hl : OkFs l) (ho : o.drops.length ≤ maxLen) : PL.Pure Tryz.prog 41 [flds l, opv o] (.bool (fitsO l o)) := by
 have hR := ORight_pure o ho
 have hP := placed_pure o
 have hF := SFind_pure l o.at' (by have := hl.n; omega) hl.c
 have okf := okFind hl o.at'
 have hT := FFits_pure (findF l o.at').1 o.text (by rw [maxLen_eq]; omega)
 unfold fitsO
 cases hr : rightO o
 ·rw [hr] at hR
  refine PL.Pure.of_v Tryz.func41 (by decide) rfl Tryz.ntmps41 Tryz.results41 (by simp) rfl ?_
  simp only [go_sem, flds, opv]
  refine vCall_of (hR) ?_ ?_ ?_; iterate 2 simp only [go_sem, opv]
  simp only [go_sem, Bool.false_and]
 rw [hr] at hR
 cases hp : placedB o
 ·rw [hp] at hP
  refine PL.Pure.of_v Tryz.func41 (by decide) rfl Tryz.ntmps41 Tryz.results41 (by simp) rfl ?_
  simp only [go_sem, flds, opv]
  refine vCall_of (hR) ?_ ?_ ?_; iterate 2 simp only [go_sem, opv]
  simp only [go_sem, opv]
  refine vCall_of (hP) ?_ ?_ ?_; iterate 2 simp only [go_sem, opv]
  simp only [go_sem, Bool.true_and, if_true]
 rw [hp] at hP
 simp only [Bool.true_and, Bool.true_eq_false, if_false]
 generalize findF l o.at' = y at *
 obtain ⟨f, c⟩ := y
 simp only at hT okf ⊢
 by_cases hc : c = 0
 ·have ec : (c != 0) = false := by simpa using hc
  simp only [hc, decide_true, Bool.true_and]
  by_cases k3 : o.kind = 3
  ·have e3 : (o.kind == 3) = true := by simpa using k3
   have ek : (f.kind == 1) = decide (f.kind = 1) := by rw [Bool.eq_iff_iff]; simp
   rw [if_pos k3]
   refine PL.Pure.of_v Tryz.func41 (by decide) rfl Tryz.ntmps41 Tryz.results41 (by simp) rfl ?_
   simp only [go_sem, flds, opv]
   refine vCall_of (hR) ?_ ?_ ?_; iterate 2 simp only [go_sem, opv]
   simp only [go_sem, opv]
   refine vCall_of (hP) ?_ ?_ ?_; iterate 2 simp only [go_sem, opv]
   simp only [go_sem]
   refine vCall_of (hF) ?_ ?_ ?_; iterate 2 simp only [go_sem, flds, ref]
   simp only [go_sem, fldc, fld, ec, e3, ek]
  ·have e3 : (o.kind == 3) = false := by simpa using k3
   rw [if_neg k3]
   have ek : (f.kind == 4) = decide (f.kind = 4) := by rw [Bool.eq_iff_iff]; simp
   cases hh : o.has
   ·refine PL.Pure.of_v Tryz.func41 (by decide) rfl Tryz.ntmps41 Tryz.results41 (by simp) rfl ?_
    simp only [go_sem, flds, opv, hh]
    refine vCall_of hR ?_ ?_ ?_
    ·simp only [go_sem, opv]
    ·simp only [go_sem, opv, hh]
    simp only [go_sem, opv]
    refine vCall_of hP ?_ ?_ ?_
    ·simp only [go_sem, opv]
    ·simp only [go_sem, opv, hh]
    simp only [go_sem]
    refine vCall_of (hF) ?_ ?_ ?_; iterate 2 simp only [go_sem, flds, ref]
    simp only [go_sem, fldc, fld, ec, e3, ek, Bool.false_eq_true, if_false]
   ·refine PL.Pure.of_v Tryz.func41 (by decide) rfl Tryz.ntmps41 Tryz.results41 (by simp) rfl ?_
    simp only [go_sem, flds, opv, hh]
    refine vCall_of hR ?_ ?_ ?_
    ·simp only [go_sem, opv]
    ·simp only [go_sem, opv, hh]
    simp only [go_sem, opv]
    refine vCall_of hP ?_ ?_ ?_
    ·simp only [go_sem, opv]
    ·simp only [go_sem, opv, hh]
    simp only [go_sem]
    refine vCall_of (hF) ?_ ?_ ?_; iterate 2 simp only [go_sem, flds, ref]
    simp only [go_sem, fldc, fld, ec, e3]
    refine vCall_of (hT) ?_ ?_ ?_; iterate 2 simp only [go_sem, fld]
    simp only [go_sem, if_true]
 ·have ec : (c != 0) = true := by simpa using hc
  refine PL.Pure.of_v Tryz.func41 (by decide) rfl Tryz.ntmps41 Tryz.results41 (by simp) rfl ?_
  simp only [go_sem, flds, opv]
  refine vCall_of (hR) ?_ ?_ ?_; iterate 2 simp only [go_sem, opv]
  simp only [go_sem, opv]
  refine vCall_of (hP) ?_ ?_ ?_; iterate 2 simp only [go_sem, opv]
  simp only [go_sem]
  refine vCall_of (hF) ?_ ?_ ?_; iterate 2 simp only [go_sem, flds, ref]
  simp only [go_sem, fldc, fld, ec, hc, decide_false, Bool.false_and]
end Go.Proofs.YthingdchjkhfbaaGreat
set_option linter.unusedSimpArgs false
set_option linter.unusedVariables false
set_option linter.unusedSimpArgs false
set_option linter.unusedVariables false
namespace Go.Proofs.YthingdchjkhfbaaGreat
open Go.PL
theorem over_okD {x : Ln} {o : Opn} (h : OkOp o) : OkOp (overM x o).1 := by
 have hd := h.d
 refine ⟨?_⟩
 unfold overM becomeM
 repeat' split
 all_goals first | exact hd | exact Nat.zero_le _
end Go.Proofs.YthingdchjkhfbaaGreat
set_option linter.unusedSimpArgs false
set_option linter.unusedVariables false
set_option linter.unusedSimpArgs false
set_option linter.unusedVariables false
namespace Go.Proofs.YthingdchjkhfbaaGreat
open Go.PL
def alongO : List Ln → Opn → Opn × Bool
 | [], o => (o, true)
 | x :: xs, o => if (overM x o).2 = false then (default, false) else alongO xs (overM x o).1
theorem alongO_cons (x : Ln) (xs : List Ln) (o : Opn) : alongO (x :: xs) o = if (overM x o).2 = false then (default, false) else alongO xs (overM x o).1 := rfl
structure Worth (l : List Fd) (o : Opn) (w : Int) : Prop where
 k : o.kind = 3
 f : ∃ f, findF l o.at' = (f, 0) ∧ f.kind = 1 ∧ 1 ≤ f.worth ∧ f.worth ≤ 1048576 ∧ o.delta * f.worth = w
 b : -1099511627776 ≤ w ∧ w ≤ 1099511627776
end Go.Proofs.YthingdchjkhfbaaGreat
set_option linter.unusedSimpArgs false
set_option linter.unusedVariables false
set_option linter.unusedSimpArgs false
set_option linter.unusedVariables false
namespace Go.Proofs.YthingdchjkhfbaaGreat
open Go.PL
end Go.Proofs.YthingdchjkhfbaaGreat
set_option linter.unusedSimpArgs false
set_option linter.unusedVariables false
set_option linter.unusedSimpArgs false
set_option linter.unusedVariables false
namespace Go.Proofs.YthingdchjkhfbaaGreat
open Go.PL
def schO (o : Opn) (t : Tg) : Opn := ⟨o.id, t, o.time, o.cart, o.kind, o.item, o.at', o.delta, o.has, o.text, o.drops⟩
def wayO (m : List Eg) (a b : Tg) (o : Opn) : Opn × Bool :=
 if pathC m a b ≠ 0 then (default, false) else if (alongO (rowM m a b).1 o).2 = false then (default, false) else (schO (alongO (rowM m a b).1 o).1 b, true)
def checkO (m : List Eg) (o : Opn) (b : Tg) : Int :=
 if rightO o = false then 5 else if upC m o.sch ≠ 0 then upC m o.sch else if upC m b ≠ 0 then upC m b else if fitsO (schM (treeOf m) o.sch).1 o = false then 16 else 0
structure SeenT where
 o : Opn
 ok : Bool
 c : Int
 deriving DecidableEq, Inhabited
def toT (m : List Eg) (o : Opn) (b : Tg) : SeenT := if checkO m o b ≠ 0 then ⟨default, false, checkO m o b⟩ else ⟨(wayO m o.sch b o).1, (wayO m o.sch b o).2, 0⟩
def readO (m : List Eg) (o : Opn) : Bool := rightO o && (decide (upC m o.sch = 0) && fitsO (schM (treeOf m) o.sch).1 o)
end Go.Proofs.YthingdchjkhfbaaGreat
set_option linter.unusedSimpArgs false
set_option linter.unusedVariables false
set_option linter.unusedSimpArgs false
set_option linter.unusedVariables false
namespace Go.Proofs.YthingdchjkhfbaaGreat
open Go.PL
end Go.Proofs.YthingdchjkhfbaaGreat
set_option linter.unusedSimpArgs false
set_option linter.unusedVariables false
set_option linter.unusedSimpArgs false
set_option linter.unusedVariables false
namespace Go.Proofs.YthingdchjkhfbaaGreat
open Go.PL
structure AoS (row : List Ln) (o0 : Opn) where
 k : Nat
 o : Opn
 hk : k ≤ row.length
 ok : OkOp o
 h : alongO (row.drop k) o = alongO row o0
def zcells : List PV := [.int .i64 0, .int .i64 0, .int .i64 0, .int .i64 0, .int .i64 0, .str [], .int .i64 0, .str [], .int .i64 0, .str [], .str [], .int .i64 0, .bool false, .str [], .sl .nil []]
set_option maxRecDepth 20000 in
set_option maxHeartbeats 16000000 in
theorem SAlong_pure (row : List Ln) (o : Opn) (hl : row.length ≤ 1000) (hx : ∀ x ∈ row, OkLn x) (ho : OkOp o) : PL.Pure Tryz.prog 148 [lnss row, opv o] (opb (alongO row o)) := by
 have hW := sown_pure o ho
 refine PL.Pure.of_v Tryz.func148 (by decide) rfl Tryz.ntmps148 Tryz.results148 (by simp) (opb_dids _) ?_
 simp only [go_sem, lnss, opv]
 refine vScopeM (ι := AoS row o) 31 (fun x => [(0, lnss row), (3, .ptr 3 0), (4, .ptr 4 0), (6, .int .i64 (x.k : Int))]) (fun x => [(3, ocells x.o, false), (4, zcells, false)]) (fun x => []) (fun x => row.length - x.k) 0 _ (by exact rfl) (fun x => ⟨(fcs rfl (fcs rfl (fcs rfl (fcs rfl fnl)))), fcs rfl (fcs rfl fnl)⟩) (fun x => ?_) (fun cut => ?_)
 ·obtain ⟨k, p, hk, ok, h⟩ := x
  simp only
  by_cases he : k = row.length
  ·have hb : ((k : Int) == (row.length : Int)) = true := by simp [he]
   have hd : alongO row o = (p, true) := by rw [← h, he, List.drop_length]; rfl
   simp only [go_sem, lnss, List.length_map, hb, hd, opb, opv, ocells, zcells]
  ·have hb : ((k : Int) == (row.length : Int)) = false := by simp; omega
   have hka : k < row.length := by omega
   have i0 : (0 : Int) ≤ (k : Int) := by omega
   have i1 : (k : Int) < (row.length : Int) := by omega
   have w1 : IntKind.i64.wrap ((k : Int) + 1) = ((k + 1 : Nat) : Int) := by rw [w64 (by omega)]; rfl
   have hT := Over_pure (row.getD k default) p (hx _ (getD_mem (d := default) hka)) ok
   have okn := over_okD (x := row.getD k default) ok
   rw [drop_ln hka, alongO_cons] at h
   cases hz : (overM (row.getD k default) p).2
   ·rw [if_pos hz] at h
    simp only [go_sem, lnss, List.length_map, hb]
    refine vDrawQ (by kernel_rfl) (by kernel_rfl) ?_
    simp only [go_sem, getD_ln hka, lns, i0, i1, ocells, opv]
    refine vCall_of (hT) ?_ ?_ ?_; iterate 2 simp only [go_sem, lns, opv]
    simp only [go_sem, opb, opv, hz, ← h, zcells]
    try rfl
   ·rw [if_neg (by rw [hz]; simp)] at h
    simp only [go_sem, lnss, List.length_map, hb]
    refine vDrawQ (by kernel_rfl) (by kernel_rfl) ?_
    simp only [go_sem, getD_ln hka, lns, i0, i1, ocells, opv]
    refine vCall_of (hT) ?_ ?_ ?_; iterate 2 simp only [go_sem, lns, opv]
    simp only [go_sem, opb, opv, hz, w1, zcells]
    exact ⟨⟨k + 1, (overM (row.getD k default) p).1, by omega, okn, h⟩, by show row.length - (k + 1) < row.length - k; omega, ⟨rfl, (fcs rfl (fcs rfl (fcs rfl (fcs rfl fnl)))), fcs ⟨rfl, rfl⟩ (fcs ⟨rfl, rfl⟩ fnl), fnl⟩⟩
 ·simp only [go_sem]
  refine vCall_of (hW) ?_ ?_ ?_; iterate 2 simp only [go_sem, opv]
  simp only [go_sem, opv]
  exact awp_label_seq (cut ⟨0, o, Nat.zero_le _, ho, rfl⟩ _ ⟨rfl, (fcs rfl (fcs rfl (fcs rfl (fcs rfl fnl)))), fcs ⟨rfl, rfl⟩ (fcs ⟨rfl, rfl⟩ fnl), fnl⟩)
theorem OkOp.len {o : Opn} (h : OkOp o) : o.drops.length ≤ maxLen := by have := h.d; rw [maxLen_eq]; omega
set_option maxRecDepth 20000 in
set_option maxHeartbeats 16000000 in
theorem talong_pure (m : List Eg) (o : Opn) (a b : Tg) (hm : OkM m) (hr : RightM m) (ho : OkOp o) : PL.Pure Tryz.prog 108 [tr (treeOf m), opv o, tg a, tg b] (opb (wayO m a b o)) := by
 have hR := Row_pure m a b hm hr
 obtain ⟨hrl, hro⟩ := row_ok (a := a) (b := b) hm
 have hA := SAlong_pure (rowM m a b).1 o hrl hro ho
 have hc2 : (rowM m a b).2 = pathC m a b := by unfold rowM; split <;> simp_all
 unfold wayO
 by_cases hc : pathC m a b = 0
 ·rw [if_neg (fun h => h hc)]
  rw [hc] at hc2
  generalize rowM m a b = rw0 at *
  obtain ⟨row, c0⟩ := rw0
  simp only at hc2 hrl hro hA ⊢
  subst hc2
  cases hz : (alongO row o).2
  ·simp only [if_true]
   refine PL.Pure.of_v Tryz.func108 (by decide) rfl Tryz.ntmps108 Tryz.results108 (by simp) (opb_dids _) ?_
   simp only [go_sem, tr, tg, opv]
   refine vCall_of (hR) ?_ ?_ ?_; iterate 2 simp only [go_sem, tr, tg]
   simp only [go_sem, lnsc, lnss]
   refine vCall_of (hA) ?_ ?_ ?_; iterate 2 simp only [go_sem, lnss, opv]
   simp only [go_sem, opb, opv, hz]
   try rfl
  ·simp only [Bool.true_eq_false, if_false]
   refine PL.Pure.of_v Tryz.func108 (by decide) rfl Tryz.ntmps108 Tryz.results108 (by simp) (opb_dids _) ?_
   simp only [go_sem, tr, tg, opv]
   refine vCall_of (hR) ?_ ?_ ?_; iterate 2 simp only [go_sem, tr, tg]
   simp only [go_sem, lnsc, lnss]
   refine vCall_of (hA) ?_ ?_ ?_; iterate 2 simp only [go_sem, lnss, opv]
   simp only [go_sem, opb, opv, hz, schO]
 ·have hc' : (pathC m a b != 0) = true := by simpa using hc
  rw [if_pos hc]
  refine PL.Pure.of_v Tryz.func108 (by decide) rfl Tryz.ntmps108 Tryz.results108 (by simp) (opb_dids _) ?_
  simp only [go_sem, tr, tg, opv]
  refine vCall_of (hR) ?_ ?_ ?_; iterate 2 simp only [go_sem, tr, tg]
  simp only [go_sem, lnsc, lnss, hc2, hc', opb, opv_default]
  try rfl
def seenv (x : SeenT) : PV := .tup [opv x.o, .bool x.ok, .int .i64 x.c]
theorem seenv_dids (x : SeenT) : (seenv x).dids = [] := by simp only [seenv, PV.dids, PV.didsL, opv_dids, List.append_nil]
theorem okSchO {m : List Eg} {a : Tg} (hm : OkM m) (hu : upC m a = 0) : OkFs (schM (treeOf m) a).1 := by
 obtain ⟨wa, fa, _⟩ := live_way hu
 exact okFold _ (fun e he => hm.l e (wa.mem e he)) okRoot fa
set_option maxRecDepth 20000 in
set_option maxHeartbeats 16000000 in
theorem TrTo_pure (m : List Eg) (o : Opn) (b : Tg) (hm : OkM m) (hr : RightM m) (ho : OkOp o) : PL.Pure Tryz.prog 66 [tr (treeOf m), opv o, tg b] (seenv (toT m o b)) := by
 have hR := ORight_pure o ho.len
 have hSa := Schema_pure m o.sch hm
 have hSb := Schema_pure m b hm
 have hA := talong_pure m o o.sch b hm hr ho
 cases h1 : rightO o
 ·rw [h1] at hR
  have ht : toT m o b = ⟨default, false, 5⟩ := by simp [toT, checkO, h1]
  rw [ht]
  refine PL.Pure.of_v Tryz.func66 (by decide) rfl Tryz.ntmps66 Tryz.results66 (by simp) (seenv_dids _) ?_
  simp only [go_sem, tr, tg, opv]
  refine vCall_of (hR) ?_ ?_ ?_; iterate 2 simp only [go_sem, opv]
  simp only [go_sem, seenv, opv_default]
  try rfl
 rw [h1] at hR
 by_cases h2 : upC m o.sch = 0
 ·have okA := okSchO hm h2
  have hF := OFits_pure (schM (treeOf m) o.sch).1 o okA ho.len
  have v2 : (schM (treeOf m) o.sch).2 = 0 := h2
  by_cases h3 : upC m b = 0
  ·have v3 : (schM (treeOf m) b).2 = 0 := h3
   cases h4 : fitsO (schM (treeOf m) o.sch).1 o
   ·rw [h4] at hF
    have ht : toT m o b = ⟨default, false, 16⟩ := by simp [toT, checkO, h1, h2, h3, h4]
    rw [ht]
    clear ht h4 h2 h3 okA hA
    generalize schM (treeOf m) o.sch = ya at *
    obtain ⟨A, ca⟩ := ya
    generalize schM (treeOf m) b = yb at *
    obtain ⟨B, cb⟩ := yb
    simp only at v2 v3 hF
    subst v2 v3
    refine PL.Pure.of_v Tryz.func66 (by decide) rfl Tryz.ntmps66 Tryz.results66 (by simp) (seenv_dids _) ?_
    simp only [go_sem, tr, tg, opv]
    refine vCall_of (hR) ?_ ?_ ?_; iterate 2 simp only [go_sem, opv]
    simp only [go_sem]
    refine vCall_of (hSa) ?_ ?_ ?_; iterate 2 simp only [go_sem, tr, tg]
    simp only [go_sem, fldsc, flds]
    refine vCall_of (hSb) ?_ ?_ ?_; iterate 2 simp only [go_sem, tr, tg]
    simp only [go_sem, fldsc, flds]
    refine vCall_of (hF) ?_ ?_ ?_; iterate 2 simp only [go_sem, flds, opv]
    simp only [go_sem, seenv, opv_default]
    try rfl
   ·rw [h4] at hF
    have ht : toT m o b = ⟨(wayO m o.sch b o).1, (wayO m o.sch b o).2, 0⟩ := by simp [toT, checkO, h1, h2, h3, h4]
    rw [ht]
    clear ht h4 h2 h3 okA
    generalize wayO m o.sch b o = yw at *
    obtain ⟨wq, wk⟩ := yw
    generalize schM (treeOf m) o.sch = ya at *
    obtain ⟨A, ca⟩ := ya
    generalize schM (treeOf m) b = yb at *
    obtain ⟨B, cb⟩ := yb
    simp only at v2 v3 hF
    subst v2 v3
    refine PL.Pure.of_v Tryz.func66 (by decide) rfl Tryz.ntmps66 Tryz.results66 (by simp) (seenv_dids _) ?_
    simp only [go_sem, tr, tg, opv]
    refine vCall_of (hR) ?_ ?_ ?_; iterate 2 simp only [go_sem, opv]
    simp only [go_sem]
    refine vCall_of (hSa) ?_ ?_ ?_; iterate 2 simp only [go_sem, tr, tg]
    simp only [go_sem, fldsc, flds]
    refine vCall_of (hSb) ?_ ?_ ?_; iterate 2 simp only [go_sem, tr, tg]
    simp only [go_sem, fldsc, flds]
    refine vCall_of (hF) ?_ ?_ ?_; iterate 2 simp only [go_sem, flds, opv]
    simp only [go_sem]
    refine vCall_of (hA) ?_ ?_ ?_; iterate 2 simp only [go_sem, tr, opv, tg]
    simp only [go_sem, opb, opv, seenv]
  ·have v3 : ((schM (treeOf m) b).2 != 0) = true := by have h' : (schM (treeOf m) b).2 ≠ 0 := h3; simpa using h'
   have ht : toT m o b = ⟨default, false, (schM (treeOf m) b).2⟩ := by
    have e : upC m b = (schM (treeOf m) b).2 := rfl
    rw [← e]; simp [toT, checkO, h1, h2, h3]
   rw [ht]
   clear ht h2 h3 okA hA
   generalize schM (treeOf m) o.sch = ya at *
   obtain ⟨A, ca⟩ := ya
   generalize schM (treeOf m) b = yb at *
   obtain ⟨B, cb⟩ := yb
   simp only at v2 v3 hF
   subst v2
   refine PL.Pure.of_v Tryz.func66 (by decide) rfl Tryz.ntmps66 Tryz.results66 (by simp) (seenv_dids _) ?_
   simp only [go_sem, tr, tg, opv]
   refine vCall_of (hR) ?_ ?_ ?_; iterate 2 simp only [go_sem, opv]
   simp only [go_sem]
   refine vCall_of (hSa) ?_ ?_ ?_; iterate 2 simp only [go_sem, tr, tg]
   simp only [go_sem, fldsc, flds]
   refine vCall_of (hSb) ?_ ?_ ?_; iterate 2 simp only [go_sem, tr, tg]
   simp only [go_sem, fldsc, flds, v3, seenv, opv_default]
   try rfl
 ·have v2 : ((schM (treeOf m) o.sch).2 != 0) = true := by have h' : (schM (treeOf m) o.sch).2 ≠ 0 := h2; simpa using h'
  have ht : toT m o b = ⟨default, false, (schM (treeOf m) o.sch).2⟩ := by
   have e : upC m o.sch = (schM (treeOf m) o.sch).2 := rfl
   rw [← e]; simp [toT, checkO, h1, h2]
  rw [ht]
  clear ht h2 hA
  generalize schM (treeOf m) o.sch = ya at *
  obtain ⟨A, ca⟩ := ya
  simp only at v2
  refine PL.Pure.of_v Tryz.func66 (by decide) rfl Tryz.ntmps66 Tryz.results66 (by simp) (seenv_dids _) ?_
  simp only [go_sem, tr, tg, opv]
  refine vCall_of (hR) ?_ ?_ ?_; iterate 2 simp only [go_sem, opv]
  simp only [go_sem]
  refine vCall_of (hSa) ?_ ?_ ?_; iterate 2 simp only [go_sem, tr, tg]
  simp only [go_sem, fldsc, flds, v2, seenv, opv_default]
  try rfl
set_option maxRecDepth 20000 in
set_option maxHeartbeats 16000000 in
theorem TrRead_pure (m : List Eg) (o : Opn) (hm : OkM m) (ho : OkOp o) : PL.Pure Tryz.prog 16 [tr (treeOf m), opv o] (.bool (readO m o)) := by
 have hR := ORight_pure o ho.len
 have hSa := Schema_pure m o.sch hm
 unfold readO
 cases h1 : rightO o
 ·rw [h1] at hR
  refine PL.Pure.of_v Tryz.func16 (by decide) rfl Tryz.ntmps16 Tryz.results16 (by simp) rfl ?_
  simp only [go_sem, tr, opv]
  refine vCall_of (hR) ?_ ?_ ?_; iterate 2 simp only [go_sem, opv]
  simp only [go_sem, Bool.false_and]
 rw [h1] at hR
 by_cases h2 : upC m o.sch = 0
 ·have hF := OFits_pure (schM (treeOf m) o.sch).1 o (okSchO hm h2) ho.len
  rw [decide_eq_true h2]
  have v2 : (schM (treeOf m) o.sch).2 = 0 := h2
  generalize schM (treeOf m) o.sch = ya at *
  obtain ⟨A, ca⟩ := ya
  simp only at v2 hF
  subst v2
  refine PL.Pure.of_v Tryz.func16 (by decide) rfl Tryz.ntmps16 Tryz.results16 (by simp) rfl ?_
  simp only [go_sem, tr, opv]
  refine vCall_of (hR) ?_ ?_ ?_; iterate 2 simp only [go_sem, opv]
  simp only [go_sem, tg]
  refine vCall_of (hSa) ?_ ?_ ?_; iterate 2 simp only [go_sem, tr, tg]
  simp only [go_sem, fldsc, flds]
  refine vCall_of (hF) ?_ ?_ ?_; iterate 2 simp only [go_sem, flds, opv]
  simp only [go_sem, Bool.true_and]
 ·have v2 : ((schM (treeOf m) o.sch).2 == 0) = false := by have h' : (schM (treeOf m) o.sch).2 ≠ 0 := h2; simpa using h'
  rw [decide_eq_false h2]
  refine PL.Pure.of_v Tryz.func16 (by decide) rfl Tryz.ntmps16 Tryz.results16 (by simp) rfl ?_
  simp only [go_sem, tr, opv]
  refine vCall_of (hR) ?_ ?_ ?_; iterate 2 simp only [go_sem, opv]
  simp only [go_sem, tg]
  refine vCall_of (hSa) ?_ ?_ ?_; iterate 2 simp only [go_sem, tr, tg]
  simp only [go_sem, fldsc, flds, v2, Bool.false_and, Bool.and_false]
end Go.Proofs.YthingdchjkhfbaaGreat
set_option linter.unusedSimpArgs false
set_option linter.unusedVariables false
set_option linter.unusedSimpArgs false
set_option linter.unusedVariables false
namespace Go.Proofs.YthingdchjkhfbaaGreat
open Go.PL
end Go.Proofs.YthingdchjkhfbaaGreat
set_option linter.unusedSimpArgs false
set_option linter.unusedVariables false
set_option linter.unusedSimpArgs false
set_option linter.unusedVariables false
namespace Go.Proofs.YthingdchjkhfbaaGreat
open Go.PL
theorem sized_row (l : List Rw) : Sized 2 (l.map row) := fun e he => by
 obtain ⟨x, _, rfl⟩ := List.mem_map.1 he; rfl
end Go.Proofs.YthingdchjkhfbaaGreat
set_option linter.unusedSimpArgs false
set_option linter.unusedVariables false
set_option linter.unusedSimpArgs false
set_option linter.unusedVariables false
namespace Go.Proofs.YthingdchjkhfbaaGreat
open Go.PL
theorem atoms_row (l : List Rw) : Atoms (l.map row) := fun e he => by
 obtain ⟨t, _, rfl⟩ := List.mem_map.1 he
 rfl
theorem row_dids (r : Rw) : (row r).dids = [] := by simp only [row, PV.dids, PV.didsL, didsL_ent, List.append_nil]
theorem didsL_row (l : List Rw) : PV.didsL (l.map row) = [] := by
 induction l with
 | nil => rfl
 | cons t l ih => simp only [List.map_cons, PV.didsL, ih, row_dids, List.append_nil]
theorem doc_dids (d : Dc) : (doc d).dids = [] := by simp only [doc, PV.dids, PV.didsL, didsL_ent, didsL_row, List.append_nil]
def gatC (i : Nat) (l : List Rw) : Nat → PV
 | 0 => .sl .nil []
 | k + 1 => .sl (.row i) ((l.take (k + 1)).map row)
def gatR (i : Nat) : Nat → List (Nat × Row)
 | 0 => []
 | k + 1 => [(i, .live (k + 1) 2 91)]
end Go.Proofs.YthingdchjkhfbaaGreat
set_option linter.unusedSimpArgs false
set_option linter.unusedVariables false
set_option linter.unusedSimpArgs false
set_option linter.unusedVariables false
namespace Go.Proofs.YthingdchjkhfbaaGreat
open Go.PL Go.PL.Srt
structure SortK {α : Type} (pv : α → PV) (g : FuncId) (lt : α → α → Bool) (cv : α → α → Int) : Prop where
 len : ∀ a, (pv a).cells.length = 15
 atom : ∀ a, (pv a).cells.all PV.atom = true
 ids : ∀ a, (pv a).ids = []
 known : ∀ a, (pv a).known = true
 give : ∀ a m, (pv a).give m = pv a
 givable : ∀ a m, (pv a).givable m
 part : ∀ a, partPV true 15 (pv a).cells 0 = pv a
 cmp : ∀ a b, PL.Pure Tryz.prog g [pv a, pv b] (.int .i64 (cv a b))
 cv : ∀ a b, decide (cv a b < 0) = lt a b
 good : Srt.Good lt
theorem w64n {x : Int} (h0 : 0 ≤ x) (h1 : x ≤ 9223372036854775807) : IntKind.i64.wrap x = x := w64 (by omega)
section
variable {α : Type} [Inhabited α] {pv : α → PV} {g : FuncId} {lt : α → α → Bool} {cv : α → α → Int}
set_option maxHeartbeats 4000000 in
theorem insertion_eff (K : SortK pv g lt cv) (e : TypeId) (n : Nat) (X L Y : List α) (hU : Unl lt L) (hn : X.length + L.length + Y.length = n) (hm : n ≤ 1000000000000) (r : List PV) (hr : r = (X ++ (srt lt L ++ Y)).map pv) :
  Eff Tryz.prog 146 [.vsl 1000 n 15, .int .i64 (X.length : Int), .int .i64 ((X.length + L.length : Nat) : Int), .fn g []] (oneV n 15 e ((X ++ (L ++ Y)).map pv)) (.tup []) (oneV n 15 e r) := by
 subst hr
 have hc : ∀ l : List α, ∀ p ∈ l.map pv, p.ids = [] := fun l => ids_mapV K.ids l
 refine Eff.vw [] Tryz.func146 (by decide) rfl Tryz.ntmps146 Tryz.results146 (by simp) (hc _) (hc _) (by simp [PV.ids, PV.idsL]) (by simp [PV.ids, PV.idsL]) fun q => ?_
 have w1 : IntKind.i64.wrap ((X.length : Int) + 1) = ((X.length + 1 : Nat) : Int) := by rw [w64n (by omega) (by omega)]; rfl
 have klen := K.len
 have kpart := K.part
 have katom := K.atom
 have kknown := K.known
 simp only [go_sem] at klen kpart katom kknown
 have one : ∀ l : List α, srt lt (l.take 1) = l.take 1 := fun l => by cases l <;> rfl
 simp only [go_sem, w1]
 refine vLoopX (ι := { k : Nat // 1 ≤ k ∧ (k ≤ L.length ∨ k = 1) }) 53 (fun x => [(0, .vsl 1000 n 15), (1, .int .i64 (X.length : Int)), (2, .int .i64 ((X.length + L.length : Nat) : Int)), (3, .fn g []), (8, .int .i64 ((X.length + x.1 : Nat) : Int))]) (fun _ => []) (fun _ => [(1000, .vec n 15 e)]) (fun _ => []) (fun _ => []) (fun x => [(1000, (X ++ (srt lt (L.take x.1) ++ (L.drop x.1 ++ Y))).map pv)]) (fun _ => []) [] [(1000, q)] [] (fun x => L.length - x.1) ⟨1, by omega, .inr rfl⟩
  (hasX_v rfl (fcs rfl (fcs rfl (fcs rfl (fcs rfl (fcs rfl fnl))))) rfl (by rw [one, ← List.append_assoc (List.take 1 L), List.take_append_drop]; rfl) rfl) (fun x => wholeX_v (by simp [PV.ids, PV.idsL, refInM]) (idsL_mapV K.ids _)) (fun x => ?_)
 obtain ⟨k, hk1, hk2⟩ := x
 simp only
 by_cases hk : k < L.length
 ·have c1 : ((X.length + k : Nat) : Int) < ((X.length + L.length : Nat) : Int) := by omega
  have eD : L.drop k = L.getD k default :: L.drop (k + 1) := by rw [List.drop_eq_getElem_cons hk, getD_lt hk]
  have eT : L.take (k + 1) = L.take k ++ [L.getD k default] := by rw [List.take_succ_eq_append_getElem hk, getD_lt hk]
  have hUk : Unl lt (L.take k ++ [L.getD k default]) := by rw [← eT]; exact List.Pairwise.sublist (List.take_sublist _ _) hU
  have hUt := (Unl.append.1 hUk).1
  have hinc := srt_inc K.good hUt
  have hlenT : (L.take k).length = k := by rw [List.length_take]; omega
  generalize hx : L.getD k default = x at *
  generalize hD : L.drop (k + 1) = D at *
  generalize hs : srt lt (L.take k) = sk at *
  have hsl : sk.length = k := by rw [← hs, srt_length]; omega
  rw [eD]
  simp only [go_sem, c1]
  refine vLoopX (ι := { pq : List α × List α // pq.1 ++ pq.2 = sk ∧ ∀ y ∈ pq.2, lt x y = true }) 53 (fun y => [(0, .vsl 1000 n 15), (1, .int .i64 (X.length : Int)), (2, .int .i64 ((X.length + L.length : Nat) : Int)), (3, .fn g []), (8, .int .i64 ((X.length + k : Nat) : Int)), (9, .int .i64 ((X.length + y.1.1.length : Nat) : Int))]) (fun _ => []) (fun _ => [(1000, .vec n 15 e)]) (fun _ => []) (fun _ => []) (fun y => [(1000, (X ++ (y.1.1 ++ x :: (y.1.2 ++ (D ++ Y)))).map pv)]) (fun _ => []) [] [(1000, q)] [] (fun y => y.1.1.length) ⟨(sk, []), by simp, by simp⟩
   (hasX_v rfl (by rw [show (⟨(sk, []), by simp, by simp⟩ : { pq : List α × List α // pq.1 ++ pq.2 = sk ∧ ∀ y ∈ pq.2, lt x y = true }).1.1.length = k from hsl]; exact (fcs rfl (fcs rfl (fcs rfl (fcs rfl (fcs rfl (fcs rfl fnl))))))) rfl (by show some _ = some _; simp) rfl) (fun y => wholeX_v (by simp [PV.ids, PV.idsL, refInM]) (idsL_mapV K.ids _)) (fun y => ?_)
  obtain ⟨⟨A, C⟩, hAC, hC⟩ := y
  simp only
  have w2 : IntKind.i64.wrap (((X.length + k : Nat) : Int) + 1) = ((X.length + (k + 1) : Nat) : Int) := by rw [w64n (by omega) (by omega)]; omega
  have hLD : L.length = k + 1 + D.length := by rw [← hD, List.length_drop]; omega
  have hACl : A.length + C.length = k := by rw [← hsl, ← hAC]; simp
  have next : ∀ M : List α, srt lt (L.take (k + 1)) = M → (X ++ (M ++ (D ++ Y))) = (X ++ (srt lt (L.take (k + 1)) ++ (L.drop (k + 1) ++ Y))) := fun M h => by rw [h, hD]
  have hCx : ∀ c ∈ C, lt x c = true := hC
  have fin : (∀ p ∈ A, lt p x = true) → srt lt (L.take (k + 1)) = A ++ x :: C := fun hp => by
   refine srt_put K.good (by rw [hAC]; exact hinc) hp hCx ?_
   rw [eT]
   have p1 : (A ++ x :: C).Perm (x :: (A ++ C)) := List.perm_middle
   refine p1.trans ?_
   rw [hAC, ← hs]
   exact ((srt_perm (L.take k)).cons x).trans (List.perm_append_comm (l₁ := [x]))
  rcases List.eq_nil_or_concat A with hA | ⟨A', y, hA⟩
  ·subst hA
   have fin := fin (by simp)
   have e9 : X.length + ([] : List α).length = X.length := by simp
   rw [e9]
   have d1 : ¬ ((X.length : Int) < (X.length : Int)) := by omega
   simp only [go_sem, d1]
   refine vDrawQ (by kernel_rfl) (by kernel_rfl) ?_
   simp only [go_sem, d1, w2]
   refine ⟨⟨k + 1, by omega, by omega⟩, by show L.length - (k + 1) < L.length - k; omega, hasX_v rfl (fcs rfl (fcs rfl (fcs rfl (fcs rfl (fcs rfl fnl))))) rfl ?_ rfl⟩
   show some _ = some _
   rw [← next _ fin]
   simp
  ·have hA : A = A' ++ [y] := by simpa using hA
   subst hA
   obtain ⟨j, hj⟩ : ∃ j, j = X.length + A'.length := ⟨_, rfl⟩
   have e9 : X.length + (A' ++ [y]).length = j + 1 := by simp; omega
   simp only [List.length_append, List.length_singleton] at hACl
   rw [e9]
   have el : X ++ ((A' ++ [y]) ++ x :: (C ++ (D ++ Y))) = (X ++ A') ++ y :: ([] ++ x :: (C ++ (D ++ Y))) := by simp
   rw [el]
   generalize hl : (X ++ A') ++ y :: ([] ++ x :: (C ++ (D ++ Y))) = l
   have hln : l.length = n := by rw [← hl]; simp; omega
   have g0 : (l.map pv).getD j .any = pv y := by rw [getD_mapV (by omega), ← hl, getD_at _ _ _ (by simp; omega)]
   have g1 : (l.map pv).getD (j + 1) .any = pv x := by
    rw [getD_mapV (by omega), ← hl, show (X ++ A') ++ y :: ([] ++ x :: (C ++ (D ++ Y))) = (X ++ A' ++ [y]) ++ x :: (C ++ (D ++ Y)) by simp, getD_at _ _ _ (by simp; omega)]
   have w3 : IntKind.i64.wrap (((j + 1 : Nat) : Int) - 1) = (j : Int) := by rw [w64n (by omega) (by omega)]; omega
   have d1 : (X.length : Int) < ((j + 1 : Nat) : Int) := by omega
   have b1 : 0 ≤ ((j + 1 : Nat) : Int) ∧ ((j + 1 : Nat) : Int) < (n : Int) := by omega
   have b0 : 0 ≤ (j : Int) ∧ (j : Int) < (n : Int) := by omega
   have hv := K.cv x y
   simp only [go_sem, d1]
   refine vDrawQ (by kernel_rfl) (by kernel_rfl) ?_
   simp only [go_sem, d1, w3, b1.1, b1.2, b0.1, b0.2, Int.toNat_natCast, g0, g1, klen, kpart, List.length_map, hln]
   refine vCall_of (K.cmp x y) ?_ ?_ ?_
   ·simp only [go_sem, K.give, K.givable]
   ·simp only [go_sem, K.give, K.givable]
   by_cases hxy : lt x y = true
   ·rw [hxy] at hv
    have g2 : ((l.set (j + 1) y).map pv).getD j .any = pv y := by
     rw [getD_mapV (by simp; omega), ← getD_mapV (pv := pv) (by simp; omega), ← set_mapV, getD_setN (by omega), g0]
    have es : (l.set (j + 1) y).set j x = X ++ (A' ++ x :: ((y :: C) ++ (D ++ Y))) := by
     have h := swap_at (X ++ A') [] (C ++ (D ++ Y)) y x (i := j) (j := j + 1) (by simp; omega) (by simp; omega)
     rw [hl, swap_comm _ _ _ (by omega) (by omega)] at h
     have d0 : l.getD j default = y := by rw [← hl]; exact getD_at _ _ _ (by simp; omega)
     have d1 : l.getD (j + 1) default = x := by
      rw [← hl, show (X ++ A') ++ y :: ([] ++ x :: (C ++ (D ++ Y))) = (X ++ A' ++ [y]) ++ x :: (C ++ (D ++ Y)) by simp, getD_at _ _ _ (by simp; omega)]
     unfold swap at h
     rw [d0, d1] at h
     rw [h]; simp
    simp only [go_sem, hv, of_decide_eq_true hv]
    refine vDrawQ (by kernel_rfl) (by kernel_rfl) ?_
    simp only [go_sem, w3, b1.1, b1.2, b0.1, b0.2, Int.toNat_natCast, g0, g1, klen, kpart, katom, kknown, List.length_map, hln, set_mapV, g2, List.length_set, es, and_self]
    subst hj
    exact ⟨⟨(A', y :: C), by simpa using hAC, fun z hz => by
     rcases List.mem_cons.1 hz with rfl | hz
     ·exact hxy
     ·exact hCx z hz⟩, by show A'.length < (A' ++ [y]).length; simp, hasX_v rfl (fcs rfl (fcs rfl (fcs rfl (fcs rfl (fcs rfl (fcs rfl fnl)))))) rfl rfl rfl⟩
   ·have hv' : ¬ cv x y < 0 := by
     have : lt x y = false := by simpa using hxy
     rw [this] at hv; simpa using hv
    have hy : y ∈ L.take k := by rw [← srt_mem (lt := lt), hs, ← hAC]; simp
    have hyx : lt y x = true := ((Unl.append.1 hUk).2.2 y hy x (by simp)).resolve_right hxy
    have hA2 : ∀ p ∈ A', lt p y = true := fun p hp => by
     rw [← hAC] at hinc
     exact (Inc.append.1 (Inc.append.1 hinc).1).2.2 p hp y (by simp)
    have fin := fin fun p hp => by
     rcases List.mem_append.1 hp with hp | hp
     ·exact K.good.trans _ _ _ (hA2 p hp) hyx
     ·simp only [List.mem_singleton] at hp; subst hp; exact hyx
    simp only [go_sem, hv', w2]
    refine ⟨⟨k + 1, by omega, by omega⟩, by show L.length - (k + 1) < L.length - k; omega, hasX_v rfl (fcs rfl (fcs rfl (fcs rfl (fcs rfl (fcs rfl fnl))))) rfl ?_ rfl⟩
    show some _ = some _
    rw [← next _ fin, ← hl]
    simp
 ·have c1 : ¬ ((X.length + k : Nat) : Int) < ((X.length + L.length : Nat) : Int) := by omega
  have e1 : L.take k = L := List.take_of_length_le (by omega)
  have e2 : L.drop k = [] := List.drop_eq_nil_of_le (by omega)
  simp only [go_sem, c1]
  refine eret_vw (r0 := .tup []) (hc _) rfl (.clean rfl) rfl ?_ rfl
  show some _ = some _
  rw [e1, e2]
  simp
end
end Go.Proofs.YthingdchjkhfbaaGreat
