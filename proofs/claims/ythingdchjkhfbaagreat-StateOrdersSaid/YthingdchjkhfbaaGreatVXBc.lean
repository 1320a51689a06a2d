/- Contracts of functions and laws of this seat, each for every input that it names: lemmas of the proof. -/
import Derived.Test.YthingdchjkhfbaaGreatVXAw
import Derived.Test.YthingdchjkhfbaaGreatVXBb
set_option linter.unusedSimpArgs false
set_option linter.unusedVariables false
set_option linter.unusedSimpArgs false
set_option linter.unusedVariables false
namespace Go.Proofs.YthingdchjkhfbaaGreat
open Go.PL
structure Opn where
 id : Tg
 sch : Tg
 time : Int
 cart : Str
 kind : Int
 item : Str
 at' : Rf
 delta : Int
 has : Bool
 text : Str
 drops : List Tg
 deriving DecidableEq, Inhabited
def opv (o : Opn) : PV := .agg [.int .i64 o.id.r, .int .i64 o.id.n, .int .i64 o.sch.r, .int .i64 o.sch.n, .int .i64 o.time, .str o.cart, .int .i64 o.kind, .str o.item, .int .i64 o.at'.sc, .str o.at'.gr, .str o.at'.nm, .int .i64 o.delta, .bool o.has, .str o.text, .sl .no (o.drops.map tg)]
theorem opv_dids (o : Opn) : (opv o).dids = [] := by simp only [opv, PV.dids, PV.didsL, didsL_tg, List.append_nil]
theorem opv_default : opv default = .agg [.int .i64 0, .int .i64 0, .int .i64 0, .int .i64 0, .int .i64 0, .str [], .int .i64 0, .str [], .int .i64 0, .str [], .str [], .int .i64 0, .bool false, .str [], .sl .no []] := rfl
set_option maxRecDepth 20000 in
set_option maxHeartbeats 8000000 in
theorem OSame_pure (a b : Opn) (ha : a.drops.length ≤ maxLen) (hb : b.drops.length ≤ maxLen) : PL.Pure Tryz.prog 73 [opv a, opv b] (.bool (decide (a = b))) := by
 have hE := EqTg_pure a.drops b.drops ha hb
 refine PL.Pure.of_v Tryz.func73 (by decide) rfl Tryz.ntmps73 Tryz.results73 (by simp) rfl ?_
 simp only [go_sem, opv, ref_fold, tg_fold, List.append_eq, List.cons_append]
 repeat' (first | (refine vGuard_t (fun h => ?_) (fun h => ?_) <;> (try simp only [go_sem, h, ref_fold, tg_fold])) | (refine vGuard_f (fun h => ?_) (fun h => ?_) <;> (try simp only [go_sem, h, ref_fold, tg_fold])) | (refine vCond_b (fun h => ?_) (fun h => ?_) <;> (try simp only [go_sem, h, ref_fold, tg_fold])) | ((refine vCall_of (hE) ?_ ?_ ?_); (focus simp only [go_sem, tgs]); (focus exact rfl); (try simp only [go_sem, ref_fold, tg_fold])) | ((refine vDrawQ (by kernel_rfl) (by kernel_rfl) ?_); (try simp only [go_sem, ref_fold, tg_fold])))
 all_goals (clear hE ha hb; (cases a; cases b; simp_all) <;> rfl)
set_option maxRecDepth 20000 in
set_option maxHeartbeats 8000000 in
theorem ROSame_pure (a b : Opn) (ha : a.drops.length ≤ maxLen) (hb : b.drops.length ≤ maxLen) : PL.Pure Tryz.prog 20 [opv a, opv b] (.bool (decide (a = b))) := by
 have hE := REqTg_pure a.drops b.drops ha hb
 refine PL.Pure.of_v Tryz.func20 (by decide) rfl Tryz.ntmps20 Tryz.results20 (by simp) rfl ?_
 simp only [go_sem, opv, ref_fold, tg_fold, List.append_eq, List.cons_append]
 repeat' (first | (refine vGuard_t (fun h => ?_) (fun h => ?_) <;> (try simp only [go_sem, h, ref_fold, tg_fold])) | (refine vGuard_f (fun h => ?_) (fun h => ?_) <;> (try simp only [go_sem, h, ref_fold, tg_fold])) | (refine vCond_b (fun h => ?_) (fun h => ?_) <;> (try simp only [go_sem, h, ref_fold, tg_fold])) | ((refine vCall_of (hE) ?_ ?_ ?_); (focus simp only [go_sem, tgs]); (focus exact rfl); (try simp only [go_sem, ref_fold, tg_fold])) | ((refine vDrawQ (by kernel_rfl) (by kernel_rfl) ?_); (try simp only [go_sem, ref_fold, tg_fold])))
 all_goals (clear hE ha hb; (cases a; cases b; simp_all) <;> rfl)
def heavyO (o : Opn) : Bool := longB 200 o.cart || (longB 200 o.item || (longB 200 o.at'.gr || (longB 200 o.at'.nm || (longB 200 o.text || decide (200 < (o.drops.length : Int))))))
set_option maxHeartbeats 4000000 in
theorem RHeavyO_pure (o : Opn) : PL.Pure Tryz.prog 19 [opv o] (.bool (heavyO o)) := by
 refine PL.Pure.of_v Tryz.func19 (by decide) rfl Tryz.ntmps19 Tryz.results19 (by simp) rfl ?_
 simp only [go_sem, opv]
 repeat' (first | (refine vGuard_t (fun h => ?_) (fun h => ?_) <;> (try simp only [go_sem, h])) | (refine vGuard_f (fun h => ?_) (fun h => ?_) <;> (try simp only [go_sem, h])) | (refine vCond_b (fun h => ?_) (fun h => ?_) <;> (try simp only [go_sem, h])) | ((refine vDrawQ (by kernel_rfl) (by kernel_rfl) ?_); (try simp only [go_sem])))
 all_goals (first | (simp_all [heavyO, longB]; done) | (rw [Bool.eq_iff_iff]; simp [heavyO, longB] at *; omega))
def placedB (o : Opn) : Bool := (o.kind == 3) || (o.kind == 4)
set_option maxHeartbeats 4000000 in
theorem placed_pure (o : Opn) : PL.Pure Tryz.prog 75 [opv o] (.bool (placedB o)) := by
 refine PL.Pure.of_v Tryz.func75 (by decide) rfl Tryz.ntmps75 Tryz.results75 (by simp) rfl ?_
 simp only [go_sem, opv]
 repeat' (first | (refine vGuard_t (fun h => ?_) (fun h => ?_) <;> (try simp only [go_sem, h])) | (refine vGuard_f (fun h => ?_) (fun h => ?_) <;> (try simp only [go_sem, h])) | (refine vCond_b (fun h => ?_) (fun h => ?_) <;> (try simp only [go_sem, h])) | ((refine vDrawQ (by kernel_rfl) (by kernel_rfl) ?_); (try simp only [go_sem])))
 all_goals simp_all [placedB]
def dropOk (o : Opn) (i : Nat) : Bool := tagB (o.drops.getD i default) && (!(decide (o.drops.getD i default = o.id)) && (decide (i = 0) || tlessB (o.drops.getD (i - 1) default) (o.drops.getD i default)))
def dropsB (o : Opn) : Bool := !decide (60 < (o.drops.length : Int)) && (List.range o.drops.length).all (dropOk o)
def ocells (o : Opn) : List PV := [.int .i64 o.id.r, .int .i64 o.id.n, .int .i64 o.sch.r, .int .i64 o.sch.n, .int .i64 o.time, .str o.cart, .int .i64 o.kind, .str o.item, .int .i64 o.at'.sc, .str o.at'.gr, .str o.at'.nm, .int .i64 o.delta, .bool o.has, .str o.text, .sl .no (o.drops.map tg)]
set_option maxRecDepth 20000 in
set_option maxHeartbeats 8000000 in
theorem rightDrops_pure (o : Opn) : PL.Pure Tryz.prog 78 [opv o] (.bool (dropsB o)) := by
 by_cases h60 : 60 < (o.drops.length : Int)
 ·refine PL.Pure.of_v Tryz.func78 (by decide) rfl Tryz.ntmps78 Tryz.results78 (by simp) rfl ?_
  simp only [go_sem, opv, h60, dropsB, Bool.false_and]
 ·have hm : o.drops.length ≤ maxLen := by rw [maxLen_eq]; omega
  have hx : dropsB o = (List.range o.drops.length).all (dropOk o) := by simp only [dropsB, h60, decide_false, Bool.not_false, Bool.true_and]
  rw [hx]
  refine PL.Pure.of_v Tryz.func78 (by decide) rfl Tryz.ntmps78 Tryz.results78 (by simp) rfl ?_
  simp only [go_sem, opv, h60]
  refine vLoopM (ι := { x : Nat // x ≤ (o.drops).length ∧ (∀ j, j < x → dropOk o j = true) }) 40 (fun x => [(1, .ptr 1 0), (10, .sl .no (o.drops.map tg)), (11, .int .i64 (o.drops.length : Int)), (12, .int .i64 (x.1 : Int))]) (fun x => [(1, ocells o, false)]) (fun x => []) (fun x => (o.drops).length - x.1) ⟨0, Nat.zero_le _, fun j hj => absurd hj (Nat.not_lt_zero j)⟩ ⟨rfl, (fcs rfl (fcs rfl (fcs rfl (fcs rfl fnl)))), (fcs ⟨rfl, rfl⟩ fnl), fnl⟩ (fun x => ⟨(fcs rfl (fcs rfl (fcs rfl (fcs rfl fnl)))), (fcs rfl fnl)⟩) (fun x => ?_); obtain ⟨k, hk, hI⟩ := x; simp only at hk hI ⊢
  by_cases h : (k : Int) < (o.drops.length : Int)
  ·(have hka : k < (o.drops).length := by omega); (have w1 := w64s hka (hm)); (have i1 : (0 : Int) ≤ (k : Int) := by omega)
   have hT := Tag_pure (o.drops.getD k default)
   cases ht : tagB (o.drops.getD k default)
   ·rw [ht] at hT
    have hz := rall_false (p := dropOk o) hka (by simp only [dropOk, ht, Bool.false_and])
    simp only [go_sem, ocells, h, getD_tg hka, tg, i1]
    refine vCall_of (hT) ?_ ?_ ?_; iterate 2 simp only [go_sem, tg]
    simp only [go_sem, hz]
   ·rw [ht] at hT
    cases he : decide (o.drops.getD k default = o.id)
    ·by_cases h0 : 0 < (k : Int)
     ·have hk1 : k - 1 < o.drops.length := by omega
      have w2 : IntKind.i64.wrap ((k : Int) - 1) = ((k - 1 : Nat) : Int) := by rw [w64 (by omega)]; omega
      have j1 : (0 : Int) ≤ ((k - 1 : Nat) : Int) := by omega
      have j2 : ((k - 1 : Nat) : Int) < (o.drops.length : Int) := by omega
      have hL := TLess_pure (o.drops.getD (k - 1) default) (o.drops.getD k default)
      cases hb : tlessB (o.drops.getD (k - 1) default) (o.drops.getD k default)
      ·rw [hb] at hL
       have hz := rall_false (p := dropOk o) hka (by simp only [dropOk, hb, decide_eq_false (show ¬ k = 0 by omega), Bool.or_self, Bool.and_false])
       simp only [go_sem, ocells, h, getD_tg hka, tg, i1]
       refine vCall_of (hT) ?_ ?_ ?_; iterate 2 simp only [go_sem, tg]
       simp only [go_sem, tg_fold, he]
       refine vDrawQ (by kernel_rfl) (by kernel_rfl) ?_
       simp only [go_sem, h0, w2, getD_tg hk1, getD_tg hka, tg, h, i1, j1, j2]
       refine vCall_of (hL) ?_ ?_ ?_; iterate 2 simp only [go_sem, tg]
       simp only [go_sem, hz]
      ·rw [hb] at hL
       have ok : dropOk o k = true := by simp only [dropOk, ht, he, hb, Bool.or_true, Bool.not_false, Bool.and_self]
       simp only [go_sem, ocells, h, getD_tg hka, tg, i1]
       refine vCall_of (hT) ?_ ?_ ?_; iterate 2 simp only [go_sem, tg]
       simp only [go_sem, tg_fold, he]
       refine vDrawQ (by kernel_rfl) (by kernel_rfl) ?_
       simp only [go_sem, h0, w2, getD_tg hk1, getD_tg hka, tg, h, i1, j1, j2]
       refine vCall_of (hL) ?_ ?_ ?_; iterate 2 simp only [go_sem, tg]
       simp only [go_sem, w1]
       exact ⟨⟨k + 1, by (try simp only); omega, below_succ hI ok⟩, by show (o.drops).length - (k + 1) < (o.drops).length - k; omega, ⟨rfl, (fcs rfl (fcs rfl (fcs rfl (fcs rfl fnl)))), (fcs ⟨rfl, rfl⟩ fnl), fnl⟩⟩
     ·have ok : dropOk o k = true := by simp only [dropOk, ht, he, decide_eq_true (show k = 0 by omega), Bool.true_or, Bool.not_false, Bool.and_self]
      simp only [go_sem, ocells, h, getD_tg hka, tg, i1]
      refine vCall_of (hT) ?_ ?_ ?_; iterate 2 simp only [go_sem, tg]
      simp only [go_sem, tg_fold, he]
      refine vDrawQ (by kernel_rfl) (by kernel_rfl) ?_
      simp only [go_sem, h0, w1]
      exact ⟨⟨k + 1, by (try simp only); omega, below_succ hI ok⟩, by show (o.drops).length - (k + 1) < (o.drops).length - k; omega, ⟨rfl, (fcs rfl (fcs rfl (fcs rfl (fcs rfl fnl)))), (fcs ⟨rfl, rfl⟩ fnl), fnl⟩⟩
    ·have hz := rall_false (p := dropOk o) hka (by simp only [dropOk, he, Bool.not_true, Bool.false_and, Bool.and_false])
     simp only [go_sem, ocells, h, getD_tg hka, tg, i1]
     refine vCall_of (hT) ?_ ?_ ?_; iterate 2 simp only [go_sem, tg]
     simp only [go_sem, tg_fold, he, hz]
  ·have hz := rall_true (p := dropOk o) (n := o.drops.length) (fun j hj => hI j (by omega))
   simp only [go_sem, h, hz]
def opParts (o : Opn) : Opn × Bool :=
 if o.kind = 1 then (⟨o.id, o.sch, o.time, o.cart, o.kind, o.item, default, 0, false, [], []⟩, true)
 else if o.kind = 2 then (⟨o.id, o.sch, o.time, o.cart, o.kind, o.item, default, 0, false, [], o.drops⟩, true)
 else if o.kind = 3 then (⟨o.id, o.sch, o.time, o.cart, o.kind, if o.at'.sc = 1 then o.item else [], o.at', o.delta, false, [], []⟩, true)
 else if o.kind = 4 then (⟨o.id, o.sch, o.time, o.cart, o.kind, if o.at'.sc = 1 then o.item else [], o.at', 0, o.has, if o.has = true then o.text else [], o.drops⟩, true)
 else if o.kind = 5 then (⟨o.id, o.sch, o.time, o.cart, o.kind, [], default, 0, false, [], o.drops⟩, true)
 else (default, false)
def opb (x : Opn × Bool) : PV := .tup [opv x.1, .bool x.2]
theorem opb_dids (x : Opn × Bool) : (opb x).dids = [] := by simp only [opb, PV.dids, PV.didsL, opv_dids, List.append_nil]
set_option maxRecDepth 20000 in
set_option maxHeartbeats 8000000 in
theorem opParts_pure (o : Opn) : PL.Pure Tryz.prog 72 [opv o] (opb (opParts o)) := by
 have hP := placed_pure o
 unfold placedB at hP
 obtain ⟨id, sch, time, cart, kind, item, at', delta, has, text, drops⟩ := o
 cases has
 all_goals
  refine PL.Pure.of_v Tryz.func72 (by decide) rfl Tryz.ntmps72 Tryz.results72 (by simp) (opb_dids _) ?_
  simp only [go_sem, opv]
  repeat' (first | (refine vGuard_t (fun h => ?_) (fun h => ?_) <;> (try simp only [go_sem, h])) | (refine vGuard_f (fun h => ?_) (fun h => ?_) <;> (try simp only [go_sem, h])) | (refine vCond_b (fun h => ?_) (fun h => ?_) <;> (try simp only [go_sem, h])) | ((refine vCall_of (hP) ?_ ?_ ?_); (focus simp only [go_sem, opv]); (focus exact rfl); (try simp only [go_sem])) | ((refine vDrawS [(1, 4)] (by kernel_rfl) (by kernel_rfl) (by exact rfl) ?_); (try simp only [go_sem])) | ((refine vDrawQ (by kernel_rfl) (by kernel_rfl) ?_); (try simp only [go_sem])))
  all_goals (simp only [beq_iff_eq, beq_eq_false_iff_ne, ne_eq] at *; clear hP; simp_all [opParts, opb, opv]; try decide)
end Go.Proofs.YthingdchjkhfbaaGreat
