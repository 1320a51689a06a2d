/- Contracts of functions and laws of this seat, each for every input that it names: lemmas of the proof. -/
import Derived.Test.YthingdchjkhfbaaGreatXAw
import Derived.Test.YthingdchjkhfbaaGreatXAf
import Derived.Test.YthingdchjkhfbaaGreatPlH
import Derived.Laws.LoneSync
set_option linter.unusedSimpArgs false
set_option linter.unusedVariables false
set_option linter.unusedSimpArgs false
set_option linter.unusedVariables false
namespace Go.Proofs.YthingdchjkhfbaaGreat
open Go.PL
theorem didsL_tg (l : List Tg) : PV.didsL (l.map tg) = [] := by
 induction l with
 | nil => rfl
 | cons t l ih => simp only [List.map_cons, PV.didsL, ih, tg, PV.dids, List.append_nil]
theorem sized_tg (l : List Tg) : Sized 2 (l.map tg) := fun e he => by
 obtain ⟨x, _, rfl⟩ := List.mem_map.1 he; rfl
theorem atoms_tg (l : List Tg) : Atoms (l.map tg) := fun e he => by
 obtain ⟨x, _, rfl⟩ := List.mem_map.1 he; rfl
def tagB (t : Tg) : Bool := decide (1 ≤ t.r) && (decide (t.r ≤ 6) && (decide (1 ≤ t.n) && decide (t.n ≤ 1099511627776)))
set_option maxHeartbeats 1000000 in
theorem Tag_pure (t : Tg) : PL.Pure Tryz.prog 74 [tg t] (.bool (tagB t)) := by
 refine PL.Pure.of_v Tryz.func74 (by decide) rfl Tryz.ntmps74 Tryz.results74 (by simp) rfl ?_
 simp only [go_sem, tg]
 repeat' (first | (refine vGuard_t (fun h => ?_) (fun h => ?_) <;> (try simp only [go_sem, h])) | (refine vGuard_f (fun h => ?_) (fun h => ?_) <;> (try simp only [go_sem, h])) | (refine vCond_b (fun h => ?_) (fun h => ?_) <;> (try simp only [go_sem, h])) | ((refine vDrawQ (by kernel_rfl) (by kernel_rfl) ?_); (try simp only [go_sem])))
 all_goals (simp_all [tagB] <;> (intros; omega))
def tlessB (a b : Tg) : Bool := if a.r = b.r then decide (a.n < b.n) else decide (a.r < b.r)
set_option maxHeartbeats 1000000 in
theorem TLess_pure (a b : Tg) : PL.Pure Tryz.prog 115 [tg a, tg b] (.bool (tlessB a b)) := by
 refine PL.Pure.of_v Tryz.func115 (by decide) rfl Tryz.ntmps115 Tryz.results115 (by simp) rfl ?_
 simp only [go_sem, tg]
 repeat' (first | (refine vGuard_t (fun h => ?_) (fun h => ?_) <;> (try simp only [go_sem, h])) | (refine vGuard_f (fun h => ?_) (fun h => ?_) <;> (try simp only [go_sem, h])) | (refine vCond_b (fun h => ?_) (fun h => ?_) <;> (try simp only [go_sem, h])) | ((refine vDrawQ (by kernel_rfl) (by kernel_rfl) ?_); (try simp only [go_sem])))
 all_goals simp_all [tlessB]
end Go.Proofs.YthingdchjkhfbaaGreat
set_option linter.unusedSimpArgs false
set_option linter.unusedVariables false
set_option linter.unusedSimpArgs false
set_option linter.unusedVariables false
namespace Go.Proofs.YthingdchjkhfbaaGreat
open Go.PL
structure Opn where
 id : Tg
 sch : Tg
 time : Int
 cart : Str
 kind : Int
 item : Str
 at' : Rf
 delta : Int
 has : Bool
 text : Str
 drops : List Tg
 deriving DecidableEq, Inhabited
def opv (o : Opn) : PV := .agg [.int .i64 o.id.r, .int .i64 o.id.n, .int .i64 o.sch.r, .int .i64 o.sch.n, .int .i64 o.time, .str o.cart, .int .i64 o.kind, .str o.item, .int .i64 o.at'.sc, .str o.at'.gr, .str o.at'.nm, .int .i64 o.delta, .bool o.has, .str o.text, .sl .no (o.drops.map tg)]
theorem opv_dids (o : Opn) : (opv o).dids = [] := by simp only [opv, PV.dids, PV.didsL, didsL_tg, List.append_nil]
theorem opv_default : opv default = .agg [.int .i64 0, .int .i64 0, .int .i64 0, .int .i64 0, .int .i64 0, .str [], .int .i64 0, .str [], .int .i64 0, .str [], .str [], .int .i64 0, .bool false, .str [], .sl .no []] := rfl
set_option maxRecDepth 20000 in
set_option maxHeartbeats 8000000 in
theorem OSame_pure (a b : Opn) (ha : a.drops.length ≤ maxLen) (hb : b.drops.length ≤ maxLen) : PL.Pure Tryz.prog 73 [opv a, opv b] (.bool (decide (a = b))) := by
 have hE := EqTg_pure a.drops b.drops ha hb
 refine PL.Pure.of_v Tryz.func73 (by decide) rfl Tryz.ntmps73 Tryz.results73 (by simp) rfl ?_
 simp only [go_sem, opv, ref_fold, tg_fold, List.append_eq, List.cons_append]
 repeat' (first | (refine vGuard_t (fun h => ?_) (fun h => ?_) <;> (try simp only [go_sem, h, ref_fold, tg_fold])) | (refine vGuard_f (fun h => ?_) (fun h => ?_) <;> (try simp only [go_sem, h, ref_fold, tg_fold])) | (refine vCond_b (fun h => ?_) (fun h => ?_) <;> (try simp only [go_sem, h, ref_fold, tg_fold])) | ((refine vCall_of (hE) ?_ ?_ ?_); (focus simp only [go_sem, tgs]); (focus exact rfl); (try simp only [go_sem, ref_fold, tg_fold])) | ((refine vDrawQ (by kernel_rfl) (by kernel_rfl) ?_); (try simp only [go_sem, ref_fold, tg_fold])))
 all_goals (clear hE ha hb; (cases a; cases b; simp_all) <;> rfl)
set_option maxRecDepth 20000 in
set_option maxHeartbeats 8000000 in
theorem ROSame_pure (a b : Opn) (ha : a.drops.length ≤ maxLen) (hb : b.drops.length ≤ maxLen) : PL.Pure Tryz.prog 20 [opv a, opv b] (.bool (decide (a = b))) := by
 have hE := REqTg_pure a.drops b.drops ha hb
 refine PL.Pure.of_v Tryz.func20 (by decide) rfl Tryz.ntmps20 Tryz.results20 (by simp) rfl ?_
 simp only [go_sem, opv, ref_fold, tg_fold, List.append_eq, List.cons_append]
 repeat' (first | (refine vGuard_t (fun h => ?_) (fun h => ?_) <;> (try simp only [go_sem, h, ref_fold, tg_fold])) | (refine vGuard_f (fun h => ?_) (fun h => ?_) <;> (try simp only [go_sem, h, ref_fold, tg_fold])) | (refine vCond_b (fun h => ?_) (fun h => ?_) <;> (try simp only [go_sem, h, ref_fold, tg_fold])) | ((refine vCall_of (hE) ?_ ?_ ?_); (focus simp only [go_sem, tgs]); (focus exact rfl); (try simp only [go_sem, ref_fold, tg_fold])) | ((refine vDrawQ (by kernel_rfl) (by kernel_rfl) ?_); (try simp only [go_sem, ref_fold, tg_fold])))
 all_goals (clear hE ha hb; (cases a; cases b; simp_all) <;> rfl)
def heavyO (o : Opn) : Bool := longB 200 o.cart || (longB 200 o.item || (longB 200 o.at'.gr || (longB 200 o.at'.nm || (longB 200 o.text || decide (200 < (o.drops.length : Int))))))
set_option maxHeartbeats 4000000 in
theorem RHeavyO_pure (o : Opn) : PL.Pure Tryz.prog 19 [opv o] (.bool (heavyO o)) := by
 refine PL.Pure.of_v Tryz.func19 (by decide) rfl Tryz.ntmps19 Tryz.results19 (by simp) rfl ?_
 simp only [go_sem, opv]
 repeat' (first | (refine vGuard_t (fun h => ?_) (fun h => ?_) <;> (try simp only [go_sem, h])) | (refine vGuard_f (fun h => ?_) (fun h => ?_) <;> (try simp only [go_sem, h])) | (refine vCond_b (fun h => ?_) (fun h => ?_) <;> (try simp only [go_sem, h])) | ((refine vDrawQ (by kernel_rfl) (by kernel_rfl) ?_); (try simp only [go_sem])))
 all_goals (first | (simp_all [heavyO, longB]; done) | (rw [Bool.eq_iff_iff]; simp [heavyO, longB] at *; omega))
def placedB (o : Opn) : Bool := (o.kind == 3) || (o.kind == 4)
set_option maxHeartbeats 4000000 in
theorem placed_pure (o : Opn) : PL.Pure Tryz.prog 75 [opv o] (.bool (placedB o)) := by
 refine PL.Pure.of_v Tryz.func75 (by decide) rfl Tryz.ntmps75 Tryz.results75 (by simp) rfl ?_
 simp only [go_sem, opv]
 repeat' (first | (refine vGuard_t (fun h => ?_) (fun h => ?_) <;> (try simp only [go_sem, h])) | (refine vGuard_f (fun h => ?_) (fun h => ?_) <;> (try simp only [go_sem, h])) | (refine vCond_b (fun h => ?_) (fun h => ?_) <;> (try simp only [go_sem, h])) | ((refine vDrawQ (by kernel_rfl) (by kernel_rfl) ?_); (try simp only [go_sem])))
 all_goals simp_all [placedB]
def dropOk (o : Opn) (i : Nat) : Bool := tagB (o.drops.getD i default) && (!(decide (o.drops.getD i default = o.id)) && (decide (i = 0) || tlessB (o.drops.getD (i - 1) default) (o.drops.getD i default)))
def dropsB (o : Opn) : Bool := !decide (60 < (o.drops.length : Int)) && (List.range o.drops.length).all (dropOk o)
def ocells (o : Opn) : List PV := [.int .i64 o.id.r, .int .i64 o.id.n, .int .i64 o.sch.r, .int .i64 o.sch.n, .int .i64 o.time, .str o.cart, .int .i64 o.kind, .str o.item, .int .i64 o.at'.sc, .str o.at'.gr, .str o.at'.nm, .int .i64 o.delta, .bool o.has, .str o.text, .sl .no (o.drops.map tg)]
set_option maxRecDepth 20000 in
set_option maxHeartbeats 8000000 in
theorem rightDrops_pure (o : Opn) : PL.Pure Tryz.prog 78 [opv o] (.bool (dropsB o)) := by
 by_cases h60 : 60 < (o.drops.length : Int)
 ·refine PL.Pure.of_v Tryz.func78 (by decide) rfl Tryz.ntmps78 Tryz.results78 (by simp) rfl ?_
  simp only [go_sem, opv, h60, dropsB, Bool.false_and]
 ·have hm : o.drops.length ≤ maxLen := by rw [maxLen_eq]; omega
  have hx : dropsB o = (List.range o.drops.length).all (dropOk o) := by simp only [dropsB, h60, decide_false, Bool.not_false, Bool.true_and]
  rw [hx]
  refine PL.Pure.of_v Tryz.func78 (by decide) rfl Tryz.ntmps78 Tryz.results78 (by simp) rfl ?_
  simp only [go_sem, opv, h60]
  refine vLoopM (ι := { x : Nat // x ≤ (o.drops).length ∧ (∀ j, j < x → dropOk o j = true) }) 40 (fun x => [(1, .ptr 1 0), (10, .sl .no (o.drops.map tg)), (11, .int .i64 (o.drops.length : Int)), (12, .int .i64 (x.1 : Int))]) (fun x => [(1, ocells o, false)]) (fun x => []) (fun x => (o.drops).length - x.1) ⟨0, Nat.zero_le _, fun j hj => absurd hj (Nat.not_lt_zero j)⟩ ⟨rfl, (fcs rfl (fcs rfl (fcs rfl (fcs rfl fnl)))), (fcs ⟨rfl, rfl⟩ fnl), fnl⟩ (fun x => ⟨(fcs rfl (fcs rfl (fcs rfl (fcs rfl fnl)))), (fcs rfl fnl)⟩) (fun x => ?_); obtain ⟨k, hk, hI⟩ := x; simp only at hk hI ⊢
  by_cases h : (k : Int) < (o.drops.length : Int)
  ·(have hka : k < (o.drops).length := by omega); (have w1 := w64s hka (hm)); (have i1 : (0 : Int) ≤ (k : Int) := by omega)
   have hT := Tag_pure (o.drops.getD k default)
   cases ht : tagB (o.drops.getD k default)
   ·rw [ht] at hT
    have hz := rall_false (p := dropOk o) hka (by simp only [dropOk, ht, Bool.false_and])
    simp only [go_sem, ocells, h, getD_tg hka, tg, i1]
    refine vCall_of (hT) ?_ ?_ ?_; iterate 2 simp only [go_sem, tg]
    simp only [go_sem, hz]
   ·rw [ht] at hT
    cases he : decide (o.drops.getD k default = o.id)
    ·by_cases h0 : 0 < (k : Int)
     ·have hk1 : k - 1 < o.drops.length := by omega
      have w2 : IntKind.i64.wrap ((k : Int) - 1) = ((k - 1 : Nat) : Int) := by rw [w64 (by omega)]; omega
      have j1 : (0 : Int) ≤ ((k - 1 : Nat) : Int) := by omega
      have j2 : ((k - 1 : Nat) : Int) < (o.drops.length : Int) := by omega
      have hL := TLess_pure (o.drops.getD (k - 1) default) (o.drops.getD k default)
      cases hb : tlessB (o.drops.getD (k - 1) default) (o.drops.getD k default)
      ·rw [hb] at hL
       have hz := rall_false (p := dropOk o) hka (by simp only [dropOk, hb, decide_eq_false (show ¬ k = 0 by omega), Bool.or_self, Bool.and_false])
       simp only [go_sem, ocells, h, getD_tg hka, tg, i1]
       refine vCall_of (hT) ?_ ?_ ?_; iterate 2 simp only [go_sem, tg]
       simp only [go_sem, tg_fold, he]
       refine vDrawQ (by kernel_rfl) (by kernel_rfl) ?_
       simp only [go_sem, h0, w2, getD_tg hk1, getD_tg hka, tg, h, i1, j1, j2]
       refine vCall_of (hL) ?_ ?_ ?_; iterate 2 simp only [go_sem, tg]
       simp only [go_sem, hz]
      ·rw [hb] at hL
       have ok : dropOk o k = true := by simp only [dropOk, ht, he, hb, Bool.or_true, Bool.not_false, Bool.and_self]
       simp only [go_sem, ocells, h, getD_tg hka, tg, i1]
       refine vCall_of (hT) ?_ ?_ ?_; iterate 2 simp only [go_sem, tg]
       simp only [go_sem, tg_fold, he]
       refine vDrawQ (by kernel_rfl) (by kernel_rfl) ?_
       simp only [go_sem, h0, w2, getD_tg hk1, getD_tg hka, tg, h, i1, j1, j2]
       refine vCall_of (hL) ?_ ?_ ?_; iterate 2 simp only [go_sem, tg]
       simp only [go_sem, w1]
       exact ⟨⟨k + 1, by (try simp only); omega, below_succ hI ok⟩, by show (o.drops).length - (k + 1) < (o.drops).length - k; omega, ⟨rfl, (fcs rfl (fcs rfl (fcs rfl (fcs rfl fnl)))), (fcs ⟨rfl, rfl⟩ fnl), fnl⟩⟩
     ·have ok : dropOk o k = true := by simp only [dropOk, ht, he, decide_eq_true (show k = 0 by omega), Bool.true_or, Bool.not_false, Bool.and_self]
      simp only [go_sem, ocells, h, getD_tg hka, tg, i1]
      refine vCall_of (hT) ?_ ?_ ?_; iterate 2 simp only [go_sem, tg]
      simp only [go_sem, tg_fold, he]
      refine vDrawQ (by kernel_rfl) (by kernel_rfl) ?_
      simp only [go_sem, h0, w1]
      exact ⟨⟨k + 1, by (try simp only); omega, below_succ hI ok⟩, by show (o.drops).length - (k + 1) < (o.drops).length - k; omega, ⟨rfl, (fcs rfl (fcs rfl (fcs rfl (fcs rfl fnl)))), (fcs ⟨rfl, rfl⟩ fnl), fnl⟩⟩
    ·have hz := rall_false (p := dropOk o) hka (by simp only [dropOk, he, Bool.not_true, Bool.false_and, Bool.and_false])
     simp only [go_sem, ocells, h, getD_tg hka, tg, i1]
     refine vCall_of (hT) ?_ ?_ ?_; iterate 2 simp only [go_sem, tg]
     simp only [go_sem, tg_fold, he, hz]
  ·have hz := rall_true (p := dropOk o) (n := o.drops.length) (fun j hj => hI j (by omega))
   simp only [go_sem, h, hz]
def opParts (o : Opn) : Opn × Bool :=
 if o.kind = 1 then (⟨o.id, o.sch, o.time, o.cart, o.kind, o.item, default, 0, false, [], []⟩, true)
 else if o.kind = 2 then (⟨o.id, o.sch, o.time, o.cart, o.kind, o.item, default, 0, false, [], o.drops⟩, true)
 else if o.kind = 3 then (⟨o.id, o.sch, o.time, o.cart, o.kind, if o.at'.sc = 1 then o.item else [], o.at', o.delta, false, [], []⟩, true)
 else if o.kind = 4 then (⟨o.id, o.sch, o.time, o.cart, o.kind, if o.at'.sc = 1 then o.item else [], o.at', 0, o.has, if o.has = true then o.text else [], o.drops⟩, true)
 else if o.kind = 5 then (⟨o.id, o.sch, o.time, o.cart, o.kind, [], default, 0, false, [], o.drops⟩, true)
 else (default, false)
def opb (x : Opn × Bool) : PV := .tup [opv x.1, .bool x.2]
theorem opb_dids (x : Opn × Bool) : (opb x).dids = [] := by simp only [opb, PV.dids, PV.didsL, opv_dids, List.append_nil]
set_option maxRecDepth 20000 in
set_option maxHeartbeats 8000000 in
theorem opParts_pure (o : Opn) : PL.Pure Tryz.prog 72 [opv o] (opb (opParts o)) := by
 have hP := placed_pure o
 unfold placedB at hP
 obtain ⟨id, sch, time, cart, kind, item, at', delta, has, text, drops⟩ := o
 cases has
 all_goals
  refine PL.Pure.of_v Tryz.func72 (by decide) rfl Tryz.ntmps72 Tryz.results72 (by simp) (opb_dids _) ?_
  simp only [go_sem, opv]
  repeat' (first | (refine vGuard_t (fun h => ?_) (fun h => ?_) <;> (try simp only [go_sem, h])) | (refine vGuard_f (fun h => ?_) (fun h => ?_) <;> (try simp only [go_sem, h])) | (refine vCond_b (fun h => ?_) (fun h => ?_) <;> (try simp only [go_sem, h])) | ((refine vCall_of (hP) ?_ ?_ ?_); (focus simp only [go_sem, opv]); (focus exact rfl); (try simp only [go_sem])) | ((refine vDrawS [(1, 4)] (by kernel_rfl) (by kernel_rfl) (by exact rfl) ?_); (try simp only [go_sem])) | ((refine vDrawQ (by kernel_rfl) (by kernel_rfl) ?_); (try simp only [go_sem])))
  all_goals (simp only [beq_iff_eq, beq_eq_false_iff_ne, ne_eq] at *; clear hP; simp_all [opParts, opb, opv]; try decide)
end Go.Proofs.YthingdchjkhfbaaGreat
set_option linter.unusedSimpArgs false
set_option linter.unusedVariables false
set_option linter.unusedSimpArgs false
set_option linter.unusedVariables false
namespace Go.Proofs.YthingdchjkhfbaaGreat
open Go.PL
def itemB (o : Opn) : Bool := (o.kind == 1) || ((o.kind == 2) || (placedB o && (o.at'.sc == 1)))
def rightO (o : Opn) : Bool :=
 !(!(opParts o).2 || !decide (o = (opParts o).1)) && (!(!tagB o.id || (!decide (o.sch = default) && !tagB o.sch)) && (!((decide (o.time < 1) || decide (1099511627776 < o.time)) || !nameB o.cart)
  && (!(placedB o && !placeB o.at') && (!(itemB o && !nameB o.item) && (!(decide (o.delta < -1048576) || decide (1048576 < o.delta)) && (decide ((o.text.length : Int) ≤ 40) && dropsB o))))))
theorem okOParts {o : Opn} (h : o.drops.length ≤ maxLen) : (opParts o).1.drops.length ≤ maxLen := by
 unfold opParts
 repeat' split
 all_goals first | exact h | exact Nat.zero_le _
theorem tgd_fold (a : Tg) : (a.r == 0 && a.n == 0) = decide (a = default) := tg_fold a default
set_option maxRecDepth 20000 in
set_option maxHeartbeats 16000000 in
theorem ORight_pure (o : Opn) (ho : o.drops.length ≤ maxLen) : PL.Pure Tryz.prog 39 [opv o] (.bool (rightO o)) := by
 have hP := opParts_pure o
 have hS := OSame_pure o (opParts o).1 ho (okOParts ho)
 have hT := Tag_pure o.id
 have hU := Tag_pure o.sch
 have hC := Name_pure o.cart
 have hL := placed_pure o
 have hA := Place_pure o.at'
 have hI := Name_pure o.item
 have hX := Text_pure o.text
 have hD := rightDrops_pure o
 unfold rightO itemB
 generalize opParts o = y at *
 generalize dropsB o = db at *
 generalize placedB o = pb at *
 generalize nameB o.item = ni at *
 generalize nameB o.cart = nc at *
 generalize placeB o.at' = pa at *
 generalize tagB o.id = ti at *
 generalize tagB o.sch = ts at *
 obtain ⟨y, b⟩ := y
 refine PL.Pure.of_v Tryz.func39 (by decide) rfl Tryz.ntmps39 Tryz.results39 (by simp) rfl ?_
 simp only [go_sem, opv, tgd_fold]
 repeat' (first | (refine vGuard_t (fun h => ?_) (fun h => ?_) <;> (try simp only [go_sem, h, opb, opv, tgd_fold])) | (refine vGuard_f (fun h => ?_) (fun h => ?_) <;> (try simp only [go_sem, h, opb, opv, tgd_fold])) | (refine vCond_b (fun h => ?_) (fun h => ?_) <;> (try simp only [go_sem, h, opb, opv, tgd_fold])) | ((refine vCall_of (hP) ?_ ?_ ?_); (focus simp only [go_sem, opv, tg, ref]); (focus exact rfl); (try simp only [go_sem, opb, opv, tgd_fold])) | ((refine vCall_of (hS) ?_ ?_ ?_); (focus simp only [go_sem, opv, tg, ref]); (focus exact rfl); (try simp only [go_sem, opb, opv, tgd_fold])) | ((refine vCall_of (hT) ?_ ?_ ?_); (focus simp only [go_sem, opv, tg, ref]); (focus exact rfl); (try simp only [go_sem, opb, opv, tgd_fold])) | ((refine vCall_of (hU) ?_ ?_ ?_); (focus simp only [go_sem, opv, tg, ref]); (focus exact rfl); (try simp only [go_sem, opb, opv, tgd_fold])) | ((refine vCall_of (hC) ?_ ?_ ?_); (focus simp only [go_sem, opv, tg, ref]); (focus exact rfl); (try simp only [go_sem, opb, opv, tgd_fold])) | ((refine vCall_of (hL) ?_ ?_ ?_); (focus simp only [go_sem, opv, tg, ref]); (focus exact rfl); (try simp only [go_sem, opb, opv, tgd_fold])) | ((refine vCall_of (hA) ?_ ?_ ?_); (focus simp only [go_sem, opv, tg, ref]); (focus exact rfl); (try simp only [go_sem, opb, opv, tgd_fold])) | ((refine vCall_of (hI) ?_ ?_ ?_); (focus simp only [go_sem, opv, tg, ref]); (focus exact rfl); (try simp only [go_sem, opb, opv, tgd_fold])) | ((refine vCall_of (hX) ?_ ?_ ?_); (focus simp only [go_sem, opv, tg, ref]); (focus exact rfl); (try simp only [go_sem, opb, opv, tgd_fold])) | ((refine vCall_of (hD) ?_ ?_ ?_); (focus simp only [go_sem, opv, tg, ref]); (focus exact rfl); (try simp only [go_sem, opb, opv, tgd_fold])) | ((refine vDrawQ (by kernel_rfl) (by kernel_rfl) ?_); (try simp only [go_sem, opb, opv, tgd_fold])))
 all_goals clear hP hS hT hU hC hL hA hI hX hD ho
 all_goals (first
  | (simp only [*, Bool.not_true, Bool.not_false, Bool.and_true, Bool.true_and, Bool.and_false, Bool.false_and, Bool.or_true, Bool.true_or, Bool.or_false, Bool.false_or, Bool.not_not]; done)
  | (simp_all; done))
end Go.Proofs.YthingdchjkhfbaaGreat
set_option linter.unusedSimpArgs false
set_option linter.unusedVariables false
set_option linter.unusedSimpArgs false
set_option linter.unusedVariables false
namespace Go.Proofs.YthingdchjkhfbaaGreat
open Go.PL
@[go_sem] theorem tcv_if : tcv Tryz.prog 2 210 = .flt .f64 := by kernel_rfl
@[go_sem] theorem tcv_fi : tcv Tryz.prog 210 2 = .int .i64 := by kernel_rfl
theorem ge_flt (a b : Int) : ((some (compare a b) : Option Ordering) == some .gt || (some (compare a b) : Option Ordering) == some .eq) = decide (b ≤ a) := by
 rcases Int.lt_trichotomy a b with h | h | h
 ·rw [Int.compare_eq_lt.2 h, decide_eq_false (by omega)]; rfl
 ·subst h; rw [Int.compare_eq_eq.2 rfl, decide_eq_true (by omega)]; rfl
 ·rw [Int.compare_eq_gt.2 h, decide_eq_true (by omega)]; rfl
theorem le_flt (a b : Int) : ((some (compare a b) : Option Ordering) == some .lt || (some (compare a b) : Option Ordering) == some .eq) = decide (a ≤ b) := by
 rcases Int.lt_trichotomy a b with h | h | h
 ·rw [Int.compare_eq_lt.2 h, decide_eq_true (by omega)]; rfl
 ·subst h; rw [Int.compare_eq_eq.2 rfl, decide_eq_true (by omega)]; rfl
 ·rw [Int.compare_eq_gt.2 h, decide_eq_false (by omega)]; rfl
theorem ne_flt (a b : Int) : ((some (compare a b) : Option Ordering) != some .eq) = decide (a ≠ b) := by
 rcases Int.lt_trichotomy a b with h | h | h
 ·rw [Int.compare_eq_lt.2 h, decide_eq_true (by omega)]; rfl
 ·subst h; rw [Int.compare_eq_eq.2 rfl, decide_eq_false (by omega)]; rfl
 ·rw [Int.compare_eq_gt.2 h, decide_eq_true (by omega)]; rfl
theorem most_fl : (4841369599423283200 : Nat) = flOf 4503599627370496 := by decide +kernel
theorem mneg_fl : Op.negFloat .f64 4841369599423283200 = flOf (-4503599627370496) := by decide +kernel
theorem xt_name : Extern.findNext Tryz.f191 = none := by kernel_rfl
theorem xt_find : Extern.find Tryz.f191 = some (Extern.MathFloor.toIntegral "math.archTrunc" .zero) := by kernel_rfl
theorem trunc_run (n : Int) (h : n.natAbs < 2 ^ 53) (P : Program) (w : World) : (Extern.MathFloor.toIntegral "math.archTrunc" .zero #[.float .f64 (flOf n)]).run P w = .ok (.float .f64 (flOf n)) w := by
 obtain ⟨s, m, p, hp⟩ := number_fl n h
 have ht := trunc_fl n h
 rw [hp] at ht
 show (Extern.MathFloor.toIntegral.match_1 (fun _ => Sem Value) (FloatKind.f64.decode (flOf n)) _ _ : Sem Value).run P w = _
 rw [hp]
 show Result.ok (Value.float .f64 (FloatKind.f64.encode ((Ieee.Datum.number s m p).integral .zero))) w = _
 rw [ht]
theorem archTrunc_xt (n : Int) (h : n.natAbs < 2 ^ 53) : PL.Xt Tryz.prog 191 [.flt .f64 (flOf n)] (.flt .f64 (flOf n)) := by
 intro w S vs hl hr
 match vs, hl with
 | [v], _ =>
  have h0 := hr 0 (by simp)
  simp only [List.getD_cons_zero] at h0
  cases h0
  refine ⟨.float .f64 (flOf n), .flt _ _, ?_⟩
  rw [run_callFunc_extern Tryz.func191 (by decide) rfl xt_name xt_find]
  show ((Extern.MathFloor.toIntegral "math.archTrunc" .zero #[.float .f64 (flOf n)]).run Tryz.prog w).andThen _ = _
  rw [trunc_run n h]
  rfl
set_option maxHeartbeats 4000000 in
theorem Trunc_pure (n : Int) (h : n.natAbs < 2 ^ 53) : PL.Pure Tryz.prog 188 [.flt .f64 (flOf n)] (.flt .f64 (flOf n)) := by
 have hT := archTrunc_xt n h
 refine PL.Pure.of_v Tryz.func188 (by decide) rfl Tryz.ntmps188 Tryz.results188 (by simp) rfl ?_
 simp only [go_sem]
 refine vCall_xt hT ?_ ?_ ?_
 ·simp only [go_sem]
 ·simp only [go_sem]
 simp only [go_sem]
set_option maxHeartbeats 4000000 in
theorem zparts_pure (a b : Nat) : PL.Pure Tryz.prog 187 [.cpx .f64 a b] (.agg [.flt .f64 a, .flt .f64 b]) := by
 refine PL.Pure.of_v Tryz.func187 (by decide) rfl Tryz.ntmps187 Tryz.results187 (by simp) rfl ?_
 simp only [go_sem]
def Lim (n : Int) : Prop := -4503599627370496 ≤ n ∧ n ≤ 4503599627370496
theorem Lim.abs {n : Int} (h : Lim n) : n.natAbs < 2 ^ 53 := by have := h.1; have := h.2; omega
set_option maxRecDepth 20000 in
set_option maxHeartbeats 8000000 in
theorem within_pure (a b : Int) (ha : Lim a) (hb : Lim b) : PL.Pure Tryz.prog 176 [.cpx .f64 (flOf a) (flOf b), .flt .f64 4841369599423283200] (.bool true) := by
 have hZ := zparts_pure (flOf a) (flOf b)
 have hTa := Trunc_pure a ha.abs
 have hTb := Trunc_pure b hb.abs
 have m1 : (4503599627370496 : Int).natAbs < 2 ^ 53 := by decide
 have m2 : (-4503599627370496 : Int).natAbs < 2 ^ 53 := by decide
 have ga : (FloatKind.f64.format.order (flOf a) (Op.negFloat .f64 4841369599423283200) == some .gt || FloatKind.f64.format.order (flOf a) (Op.negFloat .f64 4841369599423283200) == some .eq) = true := by
  rw [mneg_fl, order_fl _ _ ha.abs m2, ge_flt]; simpa using ha.1
 have gb : (FloatKind.f64.format.order (flOf b) (Op.negFloat .f64 4841369599423283200) == some .gt || FloatKind.f64.format.order (flOf b) (Op.negFloat .f64 4841369599423283200) == some .eq) = true := by
  rw [mneg_fl, order_fl _ _ hb.abs m2, ge_flt]; simpa using hb.1
 have la : (FloatKind.f64.format.order (flOf a) 4841369599423283200 == some .lt || FloatKind.f64.format.order (flOf a) 4841369599423283200 == some .eq) = true := by
  rw [most_fl, order_fl _ _ ha.abs m1, le_flt]; simpa using ha.2
 have lb : (FloatKind.f64.format.order (flOf b) 4841369599423283200 == some .lt || FloatKind.f64.format.order (flOf b) 4841369599423283200 == some .eq) = true := by
  rw [most_fl, order_fl _ _ hb.abs m1, le_flt]; simpa using hb.2
 have na : (FloatKind.f64.format.order (flOf a) (flOf a) != some .eq) = false := by rw [order_fl _ _ ha.abs ha.abs, ne_flt]; simp
 have nb : (FloatKind.f64.format.order (flOf b) (flOf b) != some .eq) = false := by rw [order_fl _ _ hb.abs hb.abs, ne_flt]; simp
 have c0 : ((0 : Nat) : Int) = 0 := rfl
 have c1 : ((1 : Nat) : Int) = 1 := rfl
 have c2 : ((2 : Nat) : Int) = 2 := rfl
 have w0 : IntKind.i64.wrap (0 + 1) = ((1 : Nat) : Int) := by decide
 have w1 : IntKind.i64.wrap (1 + 1) = ((2 : Nat) : Int) := by decide
 refine PL.Pure.of_v Tryz.func176 (by decide) rfl Tryz.ntmps176 Tryz.results176 (by simp) rfl ?_
 simp only [go_sem]
 refine vCall_of (hZ) ?_ ?_ ?_; iterate 2 simp only [go_sem]
 simp only [go_sem]
 refine vLoopM (ι := { k : Nat // k ≤ 2 }) 29 (fun x => [(1, .flt .f64 4841369599423283200), (8, .agg [.flt .f64 (flOf a), .flt .f64 (flOf b)]), (9, .int .i64 (x.1 : Int))]) (fun x => []) (fun x => []) (fun x => 2 - x.1) ⟨0, by omega⟩
  ⟨rfl, (fcs rfl (fcs rfl (fcs rfl fnl))), fnl, fnl⟩ (fun x => ⟨fcs rfl (fcs (by simp [PV.ids, PV.idsL]) (fcs rfl fnl)), fnl⟩) (fun x => ?_)
 obtain ⟨k, hk⟩ := x
 simp only
 obtain rfl | rfl | rfl : k = 0 ∨ k = 1 ∨ k = 2 := by omega
 ·simp only [go_sem, c0, List.getD_cons_zero, ga, la, Bool.not_true]
  refine vCall_of (hTa) ?_ ?_ ?_; iterate 2 simp only [go_sem]
  simp only [go_sem, na, w0]
  exact ⟨⟨1, by omega⟩, by show 2 - 1 < 2 - 0; omega, ⟨rfl, (fcs rfl (fcs rfl (fcs rfl fnl))), fnl, fnl⟩⟩
 ·simp only [go_sem, c1, List.getD_cons_zero, List.getD_cons_succ, gb, lb, Bool.not_true]
  refine vCall_of (hTb) ?_ ?_ ?_; iterate 2 simp only [go_sem]
  simp only [go_sem, nb, w1]
  exact ⟨⟨2, by omega⟩, by show 2 - 2 < 2 - 1; omega, ⟨rfl, (fcs rfl (fcs rfl (fcs rfl fnl))), fnl, fnl⟩⟩
 ·simp only [go_sem, c2]
set_option maxHeartbeats 4000000 in
theorem Whole_pure (a b : Int) (ha : Lim a) (hb : Lim b) : PL.Pure Tryz.prog 150 [.cpx .f64 (flOf a) (flOf b)] (.bool true) := by
 have hW := within_pure a b ha hb
 refine PL.Pure.of_v Tryz.func150 (by decide) rfl Tryz.ntmps150 Tryz.results150 (by simp) rfl ?_
 simp only [go_sem]
 refine vCall_of (hW) ?_ ?_ ?_; iterate 2 simp only [go_sem]
 simp only [go_sem]
set_option maxHeartbeats 4000000 in
theorem Parts_pure (a b : Int) (ha : Lim a) (hb : Lim b) : PL.Pure Tryz.prog 111 [.cpx .f64 (flOf a) (flOf b)] (.tup [.int .i64 a, .int .i64 b, .int .i64 0]) := by
 have hW := Whole_pure a b ha hb
 have ta := toInt_fl a ha.abs
 have tb := toInt_fl b hb.abs
 have l1 : IntKind.i64.min ≤ a := by rw [show IntKind.i64.min = -9223372036854775808 by decide]; have := ha.1; omega
 have l2 : a ≤ IntKind.i64.max := by rw [show IntKind.i64.max = 9223372036854775807 by decide]; have := ha.2; omega
 have l3 : IntKind.i64.min ≤ b := by rw [show IntKind.i64.min = -9223372036854775808 by decide]; have := hb.1; omega
 have l4 : b ≤ IntKind.i64.max := by rw [show IntKind.i64.max = 9223372036854775807 by decide]; have := hb.2; omega
 refine PL.Pure.of_v Tryz.func111 (by decide) rfl Tryz.ntmps111 Tryz.results111 (by simp) (rfl) ?_
 simp only [go_sem]
 refine vCall_of (hW) ?_ ?_ ?_; iterate 2 simp only [go_sem]
 simp only [go_sem, ta, tb, l1, l2, l3, l4]
def fitsI (n : Int) : Bool := decide (-4503599627370496 ≤ n) && decide (n ≤ 4503599627370496)
theorem fitsI_iff {n : Int} : fitsI n = true ↔ Lim n := by simp [fitsI, Lim]
set_option maxHeartbeats 4000000 in
theorem fits_pure (n : Int) : PL.Pure Tryz.prog 149 [.int .i64 n] (.bool (fitsI n)) := by
 refine PL.Pure.of_v Tryz.func149 (by decide) rfl Tryz.ntmps149 Tryz.results149 (by simp) rfl ?_
 simp only [go_sem]
 repeat' (first | (refine vGuard_t (fun h => ?_) (fun h => ?_) <;> (try simp only [go_sem, h])) | (refine vGuard_f (fun h => ?_) (fun h => ?_) <;> (try simp only [go_sem, h])) | (refine vCond_b (fun h => ?_) (fun h => ?_) <;> (try simp only [go_sem, h])) | ((refine vDrawQ (by kernel_rfl) (by kernel_rfl) ?_); (try simp only [go_sem])))
 all_goals (simp_all [fitsI]; try omega)
set_option maxHeartbeats 4000000 in
theorem Of_pure (a b : Int) : PL.Pure Tryz.prog 109 [.int .i64 a, .int .i64 b] (if fitsI a = true ∧ fitsI b = true then .tup [.cpx .f64 (flOf a) (flOf b), .int .i64 0] else .tup [.cpx .f64 0 0, .int .i64 3]) := by
 have hA := fits_pure a
 have hB := fits_pure b
 have ea : FloatKind.f64.nearest a = flOf a := rfl
 have eb : FloatKind.f64.nearest b = flOf b := rfl
 cases h1 : fitsI a
 ·rw [h1] at hA
  simp only [Bool.false_eq_true, false_and, if_false]
  refine PL.Pure.of_v Tryz.func109 (by decide) rfl Tryz.ntmps109 Tryz.results109 (by simp) (rfl) ?_
  simp only [go_sem]
  refine vCall_of (hA) ?_ ?_ ?_; iterate 2 simp only [go_sem]
  simp only [go_sem]
 ·rw [h1] at hA
  cases h2 : fitsI b
  ·rw [h2] at hB
   simp only [Bool.false_eq_true, and_false, if_false]
   refine PL.Pure.of_v Tryz.func109 (by decide) rfl Tryz.ntmps109 Tryz.results109 (by simp) (rfl) ?_
   simp only [go_sem]
   refine vCall_of (hA) ?_ ?_ ?_; iterate 2 simp only [go_sem]
   simp only [go_sem]
   refine vCall_of (hB) ?_ ?_ ?_; iterate 2 simp only [go_sem]
   simp only [go_sem]
  ·rw [h2] at hB
   simp only [and_self, if_true]
   refine PL.Pure.of_v Tryz.func109 (by decide) rfl Tryz.ntmps109 Tryz.results109 (by simp) (rfl) ?_
   simp only [go_sem]
   refine vCall_of (hA) ?_ ?_ ?_; iterate 2 simp only [go_sem]
   simp only [go_sem]
   refine vCall_of (hB) ?_ ?_ ?_; iterate 2 simp only [go_sem]
   simp only [go_sem, ea, eb]
set_option maxHeartbeats 4000000 in
theorem away_pure (n : Int) : PL.Pure Tryz.prog 190 [.int .i64 n] (.bool (!fitsI n)) := by
 refine PL.Pure.of_v Tryz.func190 (by decide) rfl Tryz.ntmps190 Tryz.results190 (by simp) rfl ?_
 simp only [go_sem]
 repeat' (first | (refine vGuard_t (fun h => ?_) (fun h => ?_) <;> (try simp only [go_sem, h])) | (refine vGuard_f (fun h => ?_) (fun h => ?_) <;> (try simp only [go_sem, h])) | (refine vCond_b (fun h => ?_) (fun h => ?_) <;> (try simp only [go_sem, h])) | ((refine vDrawQ (by kernel_rfl) (by kernel_rfl) ?_); (try simp only [go_sem])))
 all_goals (simp_all [fitsI]; try omega)
 all_goals (rw [← decide_not]; congr 1; simp only [eq_iff_iff]; omega)
end Go.Proofs.YthingdchjkhfbaaGreat
set_option linter.unusedSimpArgs false
set_option linter.unusedVariables false
set_option linter.unusedSimpArgs false
set_option linter.unusedVariables false
namespace Go.Proofs.YthingdchjkhfbaaGreat
open Go.PL
end Go.Proofs.YthingdchjkhfbaaGreat
set_option linter.unusedSimpArgs false
set_option linter.unusedVariables false
set_option linter.unusedSimpArgs false
set_option linter.unusedVariables false
namespace Go.Proofs.YthingdchjkhfbaaGreat
open Go.PL
end Go.Proofs.YthingdchjkhfbaaGreat
set_option linter.unusedSimpArgs false
set_option linter.unusedVariables false
set_option linter.unusedSimpArgs false
set_option linter.unusedVariables false
namespace Go.Proofs.YthingdchjkhfbaaGreat
open Go.PL
structure Nd where
 e : Eg
 st : Int
 sch : List Fd
 dep : Int
 deriving DecidableEq, Inhabited
def nd (n : Nd) : PV := .agg [.int .i64 n.e.id.r, .int .i64 n.e.id.n, .int .i64 n.e.par.r, .int .i64 n.e.par.n, .int .i64 n.e.ln.kind, .int .i64 n.e.ln.at'.sc, .str n.e.ln.at'.gr, .str n.e.ln.at'.nm, .str n.e.ln.nm, .str n.e.ln.ot, .int .i64 n.e.ln.fac, .int .i64 n.e.ln.fd.at'.sc, .str n.e.ln.fd.at'.gr, .str n.e.ln.fd.at'.nm, .int .i64 n.e.ln.fd.kind, .str n.e.ln.fd.df, .sl .no (n.e.ln.fd.cases'.map .str), .int .i64 n.e.ln.fd.worth, .sl .no (n.e.ln.fo.map pr), .sl .no (n.e.ln.ba.map pr), .int .i64 n.st, .sl .no (n.sch.map fld), .int .i64 n.dep]
def kts (l : List Nd) : List PV := l.map fun n => tg n.e.id
def nds (l : List Nd) : List PV := l.map nd
def tr (l : List Nd) : PV := .rptr [.rmap (kts l) (nds l)]
def mc (l : List Nd) : MapC := ⟨kts l, nds l⟩
theorem didsL_pr (l : List Pr) : PV.didsL (l.map pr) = [] := by
 induction l with
 | nil => rfl
 | cons t l ih => simp only [List.map_cons, PV.didsL, ih, pr, PV.dids, List.append_nil]
theorem eg_dids (e : Eg) : (eg e).dids = [] := by simp only [eg, PV.dids, PV.didsL, didsL_pr, didsL_str, List.append_nil]
theorem nd_dids (n : Nd) : (nd n).dids = [] := by simp only [nd, PV.dids, PV.didsL, didsL_pr, didsL_fld, didsL_str, List.append_nil]
theorem tg_dids (t : Tg) : (tg t).dids = [] := by simp only [tg, PV.dids, PV.didsL, List.append_nil]
theorem nomapL_map {α : Type} (f : α → PV) (h : ∀ x, (f x).nomap = true) (l : List α) : PV.nomapL (l.map f) = true := nomapL_iff.2 fun c hc => by
 obtain ⟨x, _, rfl⟩ := List.mem_map.1 hc; exact h x
theorem nomapL_str (l : List Str) : PV.nomapL (l.map .str) = true := nomapL_map _ (fun _ => rfl) l
theorem nomapL_pr (l : List Pr) : PV.nomapL (l.map pr) = true := nomapL_map _ (fun _ => rfl) l
theorem nomap_fld (f : Fd) : (fld f).nomap = true := by simp only [fld, PV.nomap, PV.nomapL, nomapL_str, Bool.and_self]
theorem nomap_nd (n : Nd) : (nd n).nomap = true := by simp only [nd, PV.nomap, PV.nomapL, nomapL_pr, nomapL_str, nomapL_map _ nomap_fld, Bool.and_self]
theorem findP_tags (id : Tg) : ∀ (l : List Nd) (i : Nat), findP [.int, .int] [.int .i64 id.r, .int .i64 id.n] (kts l) i = some ((l.findIdx? fun n => decide (id = n.e.id)).map (· + i))
 | [], i => rfl
 | n :: l, i => by
  have ih := findP_tags id l (i + 1)
  simp only [kts, tg] at ih
  simp only [kts, List.map_cons, tg, findP, eqLeaves, eqLeaf, if_true, List.findIdx?_cons, Bool.and_true, tg_fold]
  by_cases h : id = n.e.id
  ·simp [h]
  ·simp only [h, decide_false, ih]
   simp only [Bool.false_eq_true, if_false, Option.map_map]
   congr 2
   funext x
   simp; omega
theorem findP_tags0 (id : Tg) (l : List Nd) : findP [.int, .int] [.int .i64 id.r, .int .i64 id.n] (kts l) 0 = some (l.findIdx? fun n => decide (id = n.e.id)) := by
 rw [findP_tags]; congr 1; cases List.findIdx? (fun n => decide (id = n.e.id)) l <;> rfl
def findN (l : List Nd) (id : Tg) : Option Nd := l.find? fun n => decide (id = n.e.id)
theorem findIdx_find {l : List Nd} {id : Tg} : (l.findIdx? fun n => decide (id = n.e.id)) = none ↔ findN l id = none := by
 unfold findN; rw [List.findIdx?_eq_none_iff, List.find?_eq_none]; simp
theorem findIdx_some {l : List Nd} {id : Tg} {i : Nat} (h : (l.findIdx? fun n => decide (id = n.e.id)) = some i) : i < l.length ∧ findN l id = some (l.getD i default) := by
 rw [List.findIdx?_eq_some_iff_getElem] at h
 obtain ⟨h1, h2, h3⟩ := h
 refine ⟨h1, ?_⟩
 unfold findN
 rw [List.find?_eq_some_iff_getElem]
 exact ⟨by rw [getD_lt h1]; exact h2, i, h1, (getD_lt h1).symm, fun j hj => by simpa using h3 j hj⟩
theorem getD_nd {l : List Nd} {i : Nat} (h : i < l.length) : (nds l).getD i .any = nd (l.getD i default) := getD_map h
theorem getD_kt {l : List Nd} {i : Nat} (h : i < l.length) : (kts l).getD i .any = tg (l.getD i default).e.id := getD_map (d := default) h
set_option maxHeartbeats 1000000 in
theorem TRoot_pure : PL.Pure Tryz.prog 92 [] (tg default) := by
 refine PL.Pure.of_v Tryz.func92 (by decide) rfl Tryz.ntmps92 Tryz.results92 (by simp) (rfl) ?_
 simp only [go_sem]
 rfl
set_option maxRecDepth 20000 in
set_option maxHeartbeats 4000000 in
theorem SRoot_pure : PL.Pure Tryz.prog 93 [] (flds rootL) := by
 refine PL.Pure.of_v Tryz.func93 (by decide) rfl Tryz.ntmps93 Tryz.results93 (by simp) (flds_dids _) ?_
 simp only [go_sem]
 repeat ((with_reducible refine And.intro ?_ ?_); (focus ((repeat' (with_reducible apply And.intro)) <;> (first | omega | exact room_small (by omega) (by omega) | exact room_small (by simp; omega) (by omega) | exact sized_str _ | (simp; done) | (simp; omega)))))
 rfl
def rootN : Nd := ⟨default, 2, rootL, 0⟩
def atN (l : List Nd) (id : Tg) : Nd := if id = default then rootN else (findN l id).getD default
theorem mk_new : PL.Mk Tryz.prog 28 [] (fun b => .rptr [.mref b]) (mc []) := by
 refine PL.Mk.of_v Tryz.func28 (by decide) rfl Tryz.ntmps28 Tryz.results28 (by simp) (fun b => rfl) ?_
 simp only [go_sem]
 intro b
 exact ⟨b, 3, [.mref b], rfl, by simp, rfl, by simp [mc, kts, nds], rfl⟩
set_option maxRecDepth 20000 in
set_option maxHeartbeats 8000000 in
theorem at_pure (l : List Nd) (id : Tg) : PL.Pure Tryz.prog 49 [tr l, tg id] (nd (atN l id)) := by
 unfold atN
 by_cases h : id = default
 ·rw [if_pos h]
  subst h
  refine PL.Pure.of_v Tryz.func49 (by decide) rfl Tryz.ntmps49 Tryz.results49 (by simp) (nd_dids _) ?_
  simp only [go_sem, tr, tg]
  refine vDrawQ (by kernel_rfl) (by kernel_rfl) ?_
  simp only [go_sem]
  refine vCall_of (TRoot_pure) ?_ ?_ ?_; iterate 2 simp only [go_sem, tg]
  simp only [go_sem, tg]
  refine vCall_of (SRoot_pure) ?_ ?_ ?_; iterate 2 simp only [go_sem, tg]
  simp only [go_sem, flds]
  rfl
 ·rw [if_neg h]
  have hd : decide (id = default) = false := by simpa using h
  refine PL.Pure.of_v Tryz.func49 (by decide) rfl Tryz.ntmps49 Tryz.results49 (by simp) (nd_dids _) ?_
  simp only [go_sem, tr, tg]
  refine vDrawQ (by kernel_rfl) (by kernel_rfl) ?_
  simp only [go_sem]
  refine vCall_of (TRoot_pure) ?_ ?_ ?_; iterate 2 simp only [go_sem, tg]
  simp only [go_sem, tg, tg_fold, hd]
  cases hf : l.findIdx? (fun n => decide (id = n.e.id)) with
  | none =>
   have := findIdx_find.1 hf
   refine vDrawQ (by kernel_rfl) (by kernel_rfl) ?_
   simp only [go_sem, findP_tags0, hf, this, Option.getD_none]
   rfl
  | some i =>
   obtain ⟨h1, h2⟩ := findIdx_some hf
   refine vDrawQ (by kernel_rfl) (by kernel_rfl) ?_
   simp only [go_sem, findP_tags0, hf, h2, Option.getD_some, getD_nd h1, nd]
end Go.Proofs.YthingdchjkhfbaaGreat
