/- Contracts of functions and laws of this seat, each for every input that it names: lemmas of the proof. -/
import Derived.Test.YtnadlkjmdimjkaaGreatXBk
import Derived.Test.YtnadlkjmdimjkaaGreatXAw
import Derived.Test.YtnadlkjmdimjkaaGreatXAb
import Derived.Test.YtnadlkjmdimjkaaGreatPlG
import Derived.Test.YtnadlkjmdimjkaaGreatPlF
import Derived.Laws.LoneSync
set_option linter.unusedSimpArgs false
set_option linter.unusedVariables false
set_option linter.unusedSimpArgs false
set_option linter.unusedVariables false
namespace Go.Proofs.YtnadlkjmdimjkaaGreat
open Go.PL
structure Opn where
  id : Tg
  sch : Tg
  time : Int
  cart : Str
  kind : Int
  item : Str
  at' : Rf
  delta : Int
  has : Bool
  text : Str
  drops : List Tg
  deriving DecidableEq, Inhabited
def opv (o : Opn) : PV := .agg [.int .i64 o.id.r, .int .i64 o.id.n, .int .i64 o.sch.r, .int .i64 o.sch.n, .int .i64 o.time, .str o.cart, .int .i64 o.kind, .str o.item, .int .i64 o.at'.sc, .str o.at'.gr, .str o.at'.nm, .int .i64 o.delta, .bool o.has, .str o.text, .sl .no (o.drops.map tg)]
theorem opv_dids (o : Opn) : (opv o).dids = [] := by simp only [opv, PV.dids, PV.didsL, didsL_tg, List.append_nil]
theorem opv_default : opv default = .agg [.int .i64 0, .int .i64 0, .int .i64 0, .int .i64 0, .int .i64 0, .str [], .int .i64 0, .str [], .int .i64 0, .str [], .str [], .int .i64 0, .bool false, .str [], .sl .no []] := rfl
set_option maxRecDepth 20000 in
set_option maxHeartbeats 8000000 in
theorem OSame_pure (a b : Opn) (ha : a.drops.length ≤ maxLen) (hb : b.drops.length ≤ maxLen) : PL.Pure Tryz.prog 118 [opv a, opv b] (.bool (decide (a = b))) := by
  have hE := EqTg_pure a.drops b.drops ha hb
  refine PL.Pure.of_v Tryz.func118 (by decide) rfl Tryz.ntmps118 Tryz.results118 (by simp) rfl ?_
  simp only [go_sem, opv, ref_fold, tg_fold, List.append_eq, List.cons_append]
  repeat' (first | (refine vGuard_t (fun h => ?_) (fun h => ?_) <;> (try simp only [go_sem, h, ref_fold, tg_fold])) | (refine vGuard_f (fun h => ?_) (fun h => ?_) <;> (try simp only [go_sem, h, ref_fold, tg_fold])) | (refine vCond_b (fun h => ?_) (fun h => ?_) <;> (try simp only [go_sem, h, ref_fold, tg_fold])) | ((refine vCall_of (hE) ?_ ?_ ?_); (focus simp only [go_sem, tgs]); (focus exact rfl); (try simp only [go_sem, ref_fold, tg_fold])) | ((refine vDrawQ (by kernel_rfl) (by kernel_rfl) ?_); (try simp only [go_sem, ref_fold, tg_fold])))
  all_goals (clear hE ha hb; (cases a; cases b; simp_all) <;> rfl)
set_option maxRecDepth 20000 in
set_option maxHeartbeats 8000000 in
theorem ROSame_pure (a b : Opn) (ha : a.drops.length ≤ maxLen) (hb : b.drops.length ≤ maxLen) : PL.Pure Tryz.prog 28 [opv a, opv b] (.bool (decide (a = b))) := by
  have hE := REqTg_pure a.drops b.drops ha hb
  refine PL.Pure.of_v Tryz.func28 (by decide) rfl Tryz.ntmps28 Tryz.results28 (by simp) rfl ?_
  simp only [go_sem, opv, ref_fold, tg_fold, List.append_eq, List.cons_append]
  repeat' (first | (refine vGuard_t (fun h => ?_) (fun h => ?_) <;> (try simp only [go_sem, h, ref_fold, tg_fold])) | (refine vGuard_f (fun h => ?_) (fun h => ?_) <;> (try simp only [go_sem, h, ref_fold, tg_fold])) | (refine vCond_b (fun h => ?_) (fun h => ?_) <;> (try simp only [go_sem, h, ref_fold, tg_fold])) | ((refine vCall_of (hE) ?_ ?_ ?_); (focus simp only [go_sem, tgs]); (focus exact rfl); (try simp only [go_sem, ref_fold, tg_fold])) | ((refine vDrawQ (by kernel_rfl) (by kernel_rfl) ?_); (try simp only [go_sem, ref_fold, tg_fold])))
  all_goals (clear hE ha hb; (cases a; cases b; simp_all) <;> rfl)
def heavyO (o : Opn) : Bool := longB 200 o.cart || (longB 200 o.item || (longB 200 o.at'.gr || (longB 200 o.at'.nm || (longB 200 o.text || decide (200 < (o.drops.length : Int))))))
set_option maxHeartbeats 4000000 in
theorem RHeavyO_pure (o : Opn) : PL.Pure Tryz.prog 24 [opv o] (.bool (heavyO o)) := by
  refine PL.Pure.of_v Tryz.func24 (by decide) rfl Tryz.ntmps24 Tryz.results24 (by simp) rfl ?_
  simp only [go_sem, opv]
  repeat' (first | (refine vGuard_t (fun h => ?_) (fun h => ?_) <;> (try simp only [go_sem, h])) | (refine vGuard_f (fun h => ?_) (fun h => ?_) <;> (try simp only [go_sem, h])) | (refine vCond_b (fun h => ?_) (fun h => ?_) <;> (try simp only [go_sem, h])) | ((refine vDrawQ (by kernel_rfl) (by kernel_rfl) ?_); (try simp only [go_sem])))
  all_goals (first | (simp_all [heavyO, longB]; done) | (rw [Bool.eq_iff_iff]; simp [heavyO, longB] at *; omega))
def placedB (o : Opn) : Bool := (o.kind == 3) || (o.kind == 4)
set_option maxHeartbeats 4000000 in
theorem placed_pure (o : Opn) : PL.Pure Tryz.prog 120 [opv o] (.bool (placedB o)) := by
  refine PL.Pure.of_v Tryz.func120 (by decide) rfl Tryz.ntmps120 Tryz.results120 (by simp) rfl ?_
  simp only [go_sem, opv]
  repeat' (first | (refine vGuard_t (fun h => ?_) (fun h => ?_) <;> (try simp only [go_sem, h])) | (refine vGuard_f (fun h => ?_) (fun h => ?_) <;> (try simp only [go_sem, h])) | (refine vCond_b (fun h => ?_) (fun h => ?_) <;> (try simp only [go_sem, h])) | ((refine vDrawQ (by kernel_rfl) (by kernel_rfl) ?_); (try simp only [go_sem])))
  all_goals simp_all [placedB]
def dropOk (o : Opn) (i : Nat) : Bool := tagB (o.drops.getD i default) && (!(decide (o.drops.getD i default = o.id)) && (decide (i = 0) || tlessB (o.drops.getD (i - 1) default) (o.drops.getD i default)))
def dropsB (o : Opn) : Bool := !decide (60 < (o.drops.length : Int)) && (List.range o.drops.length).all (dropOk o)
def ocells (o : Opn) : List PV := [.int .i64 o.id.r, .int .i64 o.id.n, .int .i64 o.sch.r, .int .i64 o.sch.n, .int .i64 o.time, .str o.cart, .int .i64 o.kind, .str o.item, .int .i64 o.at'.sc, .str o.at'.gr, .str o.at'.nm, .int .i64 o.delta, .bool o.has, .str o.text, .sl .no (o.drops.map tg)]
set_option maxRecDepth 20000 in
set_option maxHeartbeats 8000000 in
theorem rightDrops_pure (o : Opn) : PL.Pure Tryz.prog 122 [opv o] (.bool (dropsB o)) := by
  by_cases h60 : 60 < (o.drops.length : Int)
  · refine PL.Pure.of_v Tryz.func122 (by decide) rfl Tryz.ntmps122 Tryz.results122 (by simp) rfl ?_
    simp only [go_sem, opv, h60, dropsB, Bool.false_and]
  · have hm : o.drops.length ≤ maxLen := by rw [maxLen_eq]; omega
    have hx : dropsB o = (List.range o.drops.length).all (dropOk o) := by simp only [dropsB, h60, decide_false, Bool.not_false, Bool.true_and]
    rw [hx]
    refine PL.Pure.of_v Tryz.func122 (by decide) rfl Tryz.ntmps122 Tryz.results122 (by simp) rfl ?_
    simp only [go_sem, opv, h60]
    refine vLoopM (ι := { x : Nat // x ≤ (o.drops).length ∧ (∀ j, j < x → dropOk o j = true) }) 40 (fun x => [(1, .ptr 1 0), (10, .sl .no (o.drops.map tg)), (11, .int .i64 (o.drops.length : Int)), (12, .int .i64 (x.1 : Int))]) (fun x => [(1, ocells o, false)]) (fun x => []) (fun x => (o.drops).length - x.1) ⟨0, Nat.zero_le _, fun j hj => absurd hj (Nat.not_lt_zero j)⟩ ⟨rfl, (forall_cons rfl (forall_cons rfl (forall_cons rfl (forall_cons rfl forall_nil)))), (forall_cons ⟨rfl, rfl⟩ forall_nil), forall_nil⟩ (fun x => ⟨(forall_cons rfl (forall_cons rfl (forall_cons rfl (forall_cons rfl forall_nil)))), (forall_cons rfl forall_nil)⟩) (fun x => ?_); obtain ⟨k, hk, hI⟩ := x; simp only at hk hI ⊢
    by_cases h : (k : Int) < (o.drops.length : Int)
    · (have hka : k < (o.drops).length := by omega); (have w1 := w64s hka (hm)); (have i1 : (0 : Int) ≤ (k : Int) := by omega)
      have hT := Tag_pure (o.drops.getD k default)
      cases ht : tagB (o.drops.getD k default)
      · rw [ht] at hT
        have hz := rall_false (p := dropOk o) hka (by simp only [dropOk, ht, Bool.false_and])
        simp only [go_sem, ocells, h, getD_tg hka, tg, i1]
        refine vCall_of (hT) ?_ ?_ ?_; iterate 2 simp only [go_sem, tg]
        simp only [go_sem, hz]
      · rw [ht] at hT
        cases he : decide (o.drops.getD k default = o.id)
        · by_cases h0 : 0 < (k : Int)
          · have hk1 : k - 1 < o.drops.length := by omega
            have w2 : IntKind.i64.wrap ((k : Int) - 1) = ((k - 1 : Nat) : Int) := by rw [w64 (by omega)]; omega
            have j1 : (0 : Int) ≤ ((k - 1 : Nat) : Int) := by omega
            have j2 : ((k - 1 : Nat) : Int) < (o.drops.length : Int) := by omega
            have hL := TLess_pure (o.drops.getD (k - 1) default) (o.drops.getD k default)
            cases hb : tlessB (o.drops.getD (k - 1) default) (o.drops.getD k default)
            · rw [hb] at hL
              have hz := rall_false (p := dropOk o) hka (by simp only [dropOk, hb, decide_eq_false (show ¬ k = 0 by omega), Bool.or_self, Bool.and_false])
              simp only [go_sem, ocells, h, getD_tg hka, tg, i1]
              refine vCall_of (hT) ?_ ?_ ?_; iterate 2 simp only [go_sem, tg]
              simp only [go_sem, tg_fold, he]
              refine vDrawQ (by kernel_rfl) (by kernel_rfl) ?_
              simp only [go_sem, h0, w2, getD_tg hk1, getD_tg hka, tg, h, i1, j1, j2]
              refine vCall_of (hL) ?_ ?_ ?_; iterate 2 simp only [go_sem, tg]
              simp only [go_sem, hz]
            · rw [hb] at hL
              have ok : dropOk o k = true := by simp only [dropOk, ht, he, hb, Bool.or_true, Bool.not_false, Bool.and_self]
              simp only [go_sem, ocells, h, getD_tg hka, tg, i1]
              refine vCall_of (hT) ?_ ?_ ?_; iterate 2 simp only [go_sem, tg]
              simp only [go_sem, tg_fold, he]
              refine vDrawQ (by kernel_rfl) (by kernel_rfl) ?_
              simp only [go_sem, h0, w2, getD_tg hk1, getD_tg hka, tg, h, i1, j1, j2]
              refine vCall_of (hL) ?_ ?_ ?_; iterate 2 simp only [go_sem, tg]
              simp only [go_sem, w1]
              exact ⟨⟨k + 1, by (try simp only); omega, below_succ hI ok⟩, by show (o.drops).length - (k + 1) < (o.drops).length - k; omega, ⟨rfl, (forall_cons rfl (forall_cons rfl (forall_cons rfl (forall_cons rfl forall_nil)))), (forall_cons ⟨rfl, rfl⟩ forall_nil), forall_nil⟩⟩
          · have ok : dropOk o k = true := by simp only [dropOk, ht, he, decide_eq_true (show k = 0 by omega), Bool.true_or, Bool.not_false, Bool.and_self]
            simp only [go_sem, ocells, h, getD_tg hka, tg, i1]
            refine vCall_of (hT) ?_ ?_ ?_; iterate 2 simp only [go_sem, tg]
            simp only [go_sem, tg_fold, he]
            refine vDrawQ (by kernel_rfl) (by kernel_rfl) ?_
            simp only [go_sem, h0, w1]
            exact ⟨⟨k + 1, by (try simp only); omega, below_succ hI ok⟩, by show (o.drops).length - (k + 1) < (o.drops).length - k; omega, ⟨rfl, (forall_cons rfl (forall_cons rfl (forall_cons rfl (forall_cons rfl forall_nil)))), (forall_cons ⟨rfl, rfl⟩ forall_nil), forall_nil⟩⟩
        · have hz := rall_false (p := dropOk o) hka (by simp only [dropOk, he, Bool.not_true, Bool.false_and, Bool.and_false])
          simp only [go_sem, ocells, h, getD_tg hka, tg, i1]
          refine vCall_of (hT) ?_ ?_ ?_; iterate 2 simp only [go_sem, tg]
          simp only [go_sem, tg_fold, he, hz]
    · have hz := rall_true (p := dropOk o) (n := o.drops.length) (fun j hj => hI j (by omega))
      simp only [go_sem, h, hz]
def opParts (o : Opn) : Opn × Bool :=
  if o.kind = 1 then (⟨o.id, o.sch, o.time, o.cart, o.kind, o.item, default, 0, false, [], []⟩, true)
  else if o.kind = 2 then (⟨o.id, o.sch, o.time, o.cart, o.kind, o.item, default, 0, false, [], o.drops⟩, true)
  else if o.kind = 3 then (⟨o.id, o.sch, o.time, o.cart, o.kind, if o.at'.sc = 1 then o.item else [], o.at', o.delta, false, [], []⟩, true)
  else if o.kind = 4 then (⟨o.id, o.sch, o.time, o.cart, o.kind, if o.at'.sc = 1 then o.item else [], o.at', 0, o.has, if o.has = true then o.text else [], o.drops⟩, true)
  else if o.kind = 5 then (⟨o.id, o.sch, o.time, o.cart, o.kind, [], default, 0, false, [], o.drops⟩, true)
  else (default, false)
def opb (x : Opn × Bool) : PV := .tup [opv x.1, .bool x.2]
theorem opb_dids (x : Opn × Bool) : (opb x).dids = [] := by simp only [opb, PV.dids, PV.didsL, opv_dids, List.append_nil]
set_option maxRecDepth 20000 in
set_option maxHeartbeats 8000000 in
theorem opParts_pure (o : Opn) : PL.Pure Tryz.prog 117 [opv o] (opb (opParts o)) := by
  have hP := placed_pure o
  unfold placedB at hP
  obtain ⟨id, sch, time, cart, kind, item, at', delta, has, text, drops⟩ := o
  cases has
  all_goals
    refine PL.Pure.of_v Tryz.func117 (by decide) rfl Tryz.ntmps117 Tryz.results117 (by simp) (opb_dids _) ?_
    simp only [go_sem, opv]
    repeat' (first | (refine vGuard_t (fun h => ?_) (fun h => ?_) <;> (try simp only [go_sem, h])) | (refine vGuard_f (fun h => ?_) (fun h => ?_) <;> (try simp only [go_sem, h])) | (refine vCond_b (fun h => ?_) (fun h => ?_) <;> (try simp only [go_sem, h])) | ((refine vCall_of (hP) ?_ ?_ ?_); (focus simp only [go_sem, opv]); (focus exact rfl); (try simp only [go_sem])) | ((refine vDrawS [(1, 4)] (by kernel_rfl) (by kernel_rfl) (by exact rfl) ?_); (try simp only [go_sem])) | ((refine vDrawQ (by kernel_rfl) (by kernel_rfl) ?_); (try simp only [go_sem])))
    all_goals (simp only [beq_iff_eq, beq_eq_false_iff_ne, ne_eq] at *; clear hP; simp_all [opParts, opb, opv]; try decide)
end Go.Proofs.YtnadlkjmdimjkaaGreat

set_option linter.unusedSimpArgs false
set_option linter.unusedVariables false
set_option linter.unusedSimpArgs false
set_option linter.unusedVariables false
namespace Go.Proofs.YtnadlkjmdimjkaaGreat
open Go.PL
def itemB (o : Opn) : Bool := (o.kind == 1) || ((o.kind == 2) || (placedB o && (o.at'.sc == 1)))
def rightO (o : Opn) : Bool :=
  !(!(opParts o).2 || !decide (o = (opParts o).1)) && (!(!tagB o.id || (!decide (o.sch = default) && !tagB o.sch)) && (!((decide (o.time < 1) || decide (1099511627776 < o.time)) || !nameB o.cart)
    && (!(placedB o && !placeB o.at') && (!(itemB o && !nameB o.item) && (!(decide (o.delta < -1048576) || decide (1048576 < o.delta)) && (decide ((o.text.length : Int) ≤ 40) && dropsB o))))))
theorem okOParts {o : Opn} (h : o.drops.length ≤ maxLen) : (opParts o).1.drops.length ≤ maxLen := by
  unfold opParts
  repeat' split
  all_goals first | exact h | exact Nat.zero_le _
theorem tgd_fold (a : Tg) : (a.r == 0 && a.n == 0) = decide (a = default) := tg_fold a default
set_option maxRecDepth 20000 in
set_option maxHeartbeats 16000000 in
theorem ORight_pure (o : Opn) (ho : o.drops.length ≤ maxLen) : PL.Pure Tryz.prog 61 [opv o] (.bool (rightO o)) := by
  have hP := opParts_pure o
  have hS := OSame_pure o (opParts o).1 ho (okOParts ho)
  have hT := Tag_pure o.id
  have hU := Tag_pure o.sch
  have hC := Name_pure o.cart
  have hL := placed_pure o
  have hA := Place_pure o.at'
  have hI := Name_pure o.item
  have hX := Text_pure o.text
  have hD := rightDrops_pure o
  unfold rightO itemB
  generalize opParts o = y at *
  generalize dropsB o = db at *
  generalize placedB o = pb at *
  generalize nameB o.item = ni at *
  generalize nameB o.cart = nc at *
  generalize placeB o.at' = pa at *
  generalize tagB o.id = ti at *
  generalize tagB o.sch = ts at *
  obtain ⟨y, b⟩ := y
  refine PL.Pure.of_v Tryz.func61 (by decide) rfl Tryz.ntmps61 Tryz.results61 (by simp) rfl ?_
  simp only [go_sem, opv, tgd_fold]
  repeat' (first | (refine vGuard_t (fun h => ?_) (fun h => ?_) <;> (try simp only [go_sem, h, opb, opv, tgd_fold])) | (refine vGuard_f (fun h => ?_) (fun h => ?_) <;> (try simp only [go_sem, h, opb, opv, tgd_fold])) | (refine vCond_b (fun h => ?_) (fun h => ?_) <;> (try simp only [go_sem, h, opb, opv, tgd_fold])) | ((refine vCall_of (hP) ?_ ?_ ?_); (focus simp only [go_sem, opv, tg, ref]); (focus exact rfl); (try simp only [go_sem, opb, opv, tgd_fold])) | ((refine vCall_of (hS) ?_ ?_ ?_); (focus simp only [go_sem, opv, tg, ref]); (focus exact rfl); (try simp only [go_sem, opb, opv, tgd_fold])) | ((refine vCall_of (hT) ?_ ?_ ?_); (focus simp only [go_sem, opv, tg, ref]); (focus exact rfl); (try simp only [go_sem, opb, opv, tgd_fold])) | ((refine vCall_of (hU) ?_ ?_ ?_); (focus simp only [go_sem, opv, tg, ref]); (focus exact rfl); (try simp only [go_sem, opb, opv, tgd_fold])) | ((refine vCall_of (hC) ?_ ?_ ?_); (focus simp only [go_sem, opv, tg, ref]); (focus exact rfl); (try simp only [go_sem, opb, opv, tgd_fold])) | ((refine vCall_of (hL) ?_ ?_ ?_); (focus simp only [go_sem, opv, tg, ref]); (focus exact rfl); (try simp only [go_sem, opb, opv, tgd_fold])) | ((refine vCall_of (hA) ?_ ?_ ?_); (focus simp only [go_sem, opv, tg, ref]); (focus exact rfl); (try simp only [go_sem, opb, opv, tgd_fold])) | ((refine vCall_of (hI) ?_ ?_ ?_); (focus simp only [go_sem, opv, tg, ref]); (focus exact rfl); (try simp only [go_sem, opb, opv, tgd_fold])) | ((refine vCall_of (hX) ?_ ?_ ?_); (focus simp only [go_sem, opv, tg, ref]); (focus exact rfl); (try simp only [go_sem, opb, opv, tgd_fold])) | ((refine vCall_of (hD) ?_ ?_ ?_); (focus simp only [go_sem, opv, tg, ref]); (focus exact rfl); (try simp only [go_sem, opb, opv, tgd_fold])) | ((refine vDrawQ (by kernel_rfl) (by kernel_rfl) ?_); (try simp only [go_sem, opb, opv, tgd_fold])))
  all_goals clear hP hS hT hU hC hL hA hI hX hD ho
  all_goals (first
    | (simp only [*, Bool.not_true, Bool.not_false, Bool.and_true, Bool.true_and, Bool.and_false, Bool.false_and, Bool.or_true, Bool.true_or, Bool.or_false, Bool.false_or, Bool.not_not]; done)
    | (simp_all; done))
end Go.Proofs.YtnadlkjmdimjkaaGreat

set_option linter.unusedSimpArgs false
set_option linter.unusedVariables false
set_option linter.unusedSimpArgs false
set_option linter.unusedVariables false
namespace Go.Proofs.YtnadlkjmdimjkaaGreat
open Go.PL
@[go_sem] theorem tcv_if : tcv Tryz.prog 2 271 = .flt .f64 := by kernel_rfl
@[go_sem] theorem tcv_fi : tcv Tryz.prog 271 2 = .int .i64 := by kernel_rfl
theorem ge_flt (a b : Int) : ((some (compare a b) : Option Ordering) == some .gt || (some (compare a b) : Option Ordering) == some .eq) = decide (b ≤ a) := by
  rcases Int.lt_trichotomy a b with h | h | h
  · rw [Int.compare_eq_lt.2 h, decide_eq_false (by omega)]; rfl
  · subst h; rw [Int.compare_eq_eq.2 rfl, decide_eq_true (by omega)]; rfl
  · rw [Int.compare_eq_gt.2 h, decide_eq_true (by omega)]; rfl
theorem le_flt (a b : Int) : ((some (compare a b) : Option Ordering) == some .lt || (some (compare a b) : Option Ordering) == some .eq) = decide (a ≤ b) := by
  rcases Int.lt_trichotomy a b with h | h | h
  · rw [Int.compare_eq_lt.2 h, decide_eq_true (by omega)]; rfl
  · subst h; rw [Int.compare_eq_eq.2 rfl, decide_eq_true (by omega)]; rfl
  · rw [Int.compare_eq_gt.2 h, decide_eq_false (by omega)]; rfl
theorem ne_flt (a b : Int) : ((some (compare a b) : Option Ordering) != some .eq) = decide (a ≠ b) := by
  rcases Int.lt_trichotomy a b with h | h | h
  · rw [Int.compare_eq_lt.2 h, decide_eq_true (by omega)]; rfl
  · subst h; rw [Int.compare_eq_eq.2 rfl, decide_eq_false (by omega)]; rfl
  · rw [Int.compare_eq_gt.2 h, decide_eq_true (by omega)]; rfl
theorem most_fl : (4841369599423283200 : Nat) = flOf 4503599627370496 := by decide +kernel
theorem mneg_fl : Op.negFloat .f64 4841369599423283200 = flOf (-4503599627370496) := by decide +kernel
theorem xt_name : Extern.findNext Tryz.f260 = none := by kernel_rfl
theorem xt_find : Extern.find Tryz.f260 = some (Extern.MathFloor.toIntegral "math.archTrunc" .zero) := by kernel_rfl
theorem trunc_run (n : Int) (h : n.natAbs < 2 ^ 53) (P : Program) (w : World) : (Extern.MathFloor.toIntegral "math.archTrunc" .zero #[.float .f64 (flOf n)]).run P w = .ok (.float .f64 (flOf n)) w := by
  obtain ⟨s, m, p, hp⟩ := number_fl n h
  have ht := trunc_fl n h
  rw [hp] at ht
  show (Extern.MathFloor.toIntegral.match_1 (fun _ => Sem Value) (FloatKind.f64.decode (flOf n)) _ _ : Sem Value).run P w = _
  rw [hp]
  show Result.ok (Value.float .f64 (FloatKind.f64.encode ((Ieee.Datum.number s m p).integral .zero))) w = _
  rw [ht]
theorem archTrunc_xt (n : Int) (h : n.natAbs < 2 ^ 53) : PL.Xt Tryz.prog 260 [.flt .f64 (flOf n)] (.flt .f64 (flOf n)) := by
  intro w S vs hl hr
  match vs, hl with
  | [v], _ =>
    have h0 := hr 0 (by simp)
    simp only [List.getD_cons_zero] at h0
    cases h0
    refine ⟨.float .f64 (flOf n), .flt _ _, ?_⟩
    rw [run_callFunc_extern Tryz.func260 (by decide) rfl xt_name xt_find]
    show ((Extern.MathFloor.toIntegral "math.archTrunc" .zero #[.float .f64 (flOf n)]).run Tryz.prog w).andThen _ = _
    rw [trunc_run n h]
    rfl
set_option maxHeartbeats 4000000 in
theorem Trunc_pure (n : Int) (h : n.natAbs < 2 ^ 53) : PL.Pure Tryz.prog 259 [.flt .f64 (flOf n)] (.flt .f64 (flOf n)) := by
  have hT := archTrunc_xt n h
  refine PL.Pure.of_v Tryz.func259 (by decide) rfl Tryz.ntmps259 Tryz.results259 (by simp) rfl ?_
  simp only [go_sem]
  refine vCall_xt hT ?_ ?_ ?_
  · simp only [go_sem]
  · simp only [go_sem]
  simp only [go_sem]
set_option maxHeartbeats 4000000 in
theorem zparts_pure (a b : Nat) : PL.Pure Tryz.prog 258 [.cpx .f64 a b] (.agg [.flt .f64 a, .flt .f64 b]) := by
  refine PL.Pure.of_v Tryz.func258 (by decide) rfl Tryz.ntmps258 Tryz.results258 (by simp) rfl ?_
  simp only [go_sem]
def Lim (n : Int) : Prop := -4503599627370496 ≤ n ∧ n ≤ 4503599627370496
theorem Lim.abs {n : Int} (h : Lim n) : n.natAbs < 2 ^ 53 := by have := h.1; have := h.2; omega
set_option maxRecDepth 20000 in
set_option maxHeartbeats 8000000 in
theorem within_pure (a b : Int) (ha : Lim a) (hb : Lim b) : PL.Pure Tryz.prog 257 [.cpx .f64 (flOf a) (flOf b), .flt .f64 4841369599423283200] (.bool true) := by
  have hZ := zparts_pure (flOf a) (flOf b)
  have hTa := Trunc_pure a ha.abs
  have hTb := Trunc_pure b hb.abs
  have m1 : (4503599627370496 : Int).natAbs < 2 ^ 53 := by decide
  have m2 : (-4503599627370496 : Int).natAbs < 2 ^ 53 := by decide
  have ga : (FloatKind.f64.format.order (flOf a) (Op.negFloat .f64 4841369599423283200) == some .gt || FloatKind.f64.format.order (flOf a) (Op.negFloat .f64 4841369599423283200) == some .eq) = true := by
    rw [mneg_fl, order_fl _ _ ha.abs m2, ge_flt]; simpa using ha.1
  have gb : (FloatKind.f64.format.order (flOf b) (Op.negFloat .f64 4841369599423283200) == some .gt || FloatKind.f64.format.order (flOf b) (Op.negFloat .f64 4841369599423283200) == some .eq) = true := by
    rw [mneg_fl, order_fl _ _ hb.abs m2, ge_flt]; simpa using hb.1
  have la : (FloatKind.f64.format.order (flOf a) 4841369599423283200 == some .lt || FloatKind.f64.format.order (flOf a) 4841369599423283200 == some .eq) = true := by
    rw [most_fl, order_fl _ _ ha.abs m1, le_flt]; simpa using ha.2
  have lb : (FloatKind.f64.format.order (flOf b) 4841369599423283200 == some .lt || FloatKind.f64.format.order (flOf b) 4841369599423283200 == some .eq) = true := by
    rw [most_fl, order_fl _ _ hb.abs m1, le_flt]; simpa using hb.2
  have na : (FloatKind.f64.format.order (flOf a) (flOf a) != some .eq) = false := by rw [order_fl _ _ ha.abs ha.abs, ne_flt]; simp
  have nb : (FloatKind.f64.format.order (flOf b) (flOf b) != some .eq) = false := by rw [order_fl _ _ hb.abs hb.abs, ne_flt]; simp
  have c0 : ((0 : Nat) : Int) = 0 := rfl
  have c1 : ((1 : Nat) : Int) = 1 := rfl
  have c2 : ((2 : Nat) : Int) = 2 := rfl
  have w0 : IntKind.i64.wrap (0 + 1) = ((1 : Nat) : Int) := by decide
  have w1 : IntKind.i64.wrap (1 + 1) = ((2 : Nat) : Int) := by decide
  refine PL.Pure.of_v Tryz.func257 (by decide) rfl Tryz.ntmps257 Tryz.results257 (by simp) rfl ?_
  simp only [go_sem]
  refine vCall_of (hZ) ?_ ?_ ?_; iterate 2 simp only [go_sem]
  simp only [go_sem]
  refine vLoopM (ι := { k : Nat // k ≤ 2 }) 29 (fun x => [(1, .flt .f64 4841369599423283200), (8, .agg [.flt .f64 (flOf a), .flt .f64 (flOf b)]), (9, .int .i64 (x.1 : Int))]) (fun x => []) (fun x => []) (fun x => 2 - x.1) ⟨0, by omega⟩
    ⟨rfl, (forall_cons rfl (forall_cons rfl (forall_cons rfl (forall_nil)))), forall_nil, forall_nil⟩ (fun x => ⟨forall_cons rfl (forall_cons (by simp [PV.ids, PV.idsL]) (forall_cons rfl forall_nil)), forall_nil⟩) (fun x => ?_)
  obtain ⟨k, hk⟩ := x
  simp only
  obtain rfl | rfl | rfl : k = 0 ∨ k = 1 ∨ k = 2 := by omega
  · simp only [go_sem, c0, List.getD_cons_zero, ga, la, Bool.not_true]
    refine vCall_of (hTa) ?_ ?_ ?_; iterate 2 simp only [go_sem]
    simp only [go_sem, na, w0]
    exact ⟨⟨1, by omega⟩, by show 2 - 1 < 2 - 0; omega, ⟨rfl, (forall_cons rfl (forall_cons rfl (forall_cons rfl (forall_nil)))), forall_nil, forall_nil⟩⟩
  · simp only [go_sem, c1, List.getD_cons_zero, List.getD_cons_succ, gb, lb, Bool.not_true]
    refine vCall_of (hTb) ?_ ?_ ?_; iterate 2 simp only [go_sem]
    simp only [go_sem, nb, w1]
    exact ⟨⟨2, by omega⟩, by show 2 - 2 < 2 - 1; omega, ⟨rfl, (forall_cons rfl (forall_cons rfl (forall_cons rfl (forall_nil)))), forall_nil, forall_nil⟩⟩
  · simp only [go_sem, c2]
set_option maxHeartbeats 4000000 in
theorem Whole_pure (a b : Int) (ha : Lim a) (hb : Lim b) : PL.Pure Tryz.prog 255 [.cpx .f64 (flOf a) (flOf b)] (.bool true) := by
  have hW := within_pure a b ha hb
  refine PL.Pure.of_v Tryz.func255 (by decide) rfl Tryz.ntmps255 Tryz.results255 (by simp) rfl ?_
  simp only [go_sem]
  refine vCall_of (hW) ?_ ?_ ?_; iterate 2 simp only [go_sem]
  simp only [go_sem]
set_option maxHeartbeats 4000000 in
theorem Parts_pure (a b : Int) (ha : Lim a) (hb : Lim b) : PL.Pure Tryz.prog 248 [.cpx .f64 (flOf a) (flOf b)] (.tup [.int .i64 a, .int .i64 b, .int .i64 0]) := by
  have hW := Whole_pure a b ha hb
  have ta := toInt_fl a ha.abs
  have tb := toInt_fl b hb.abs
  have l1 : IntKind.i64.min ≤ a := by rw [show IntKind.i64.min = -9223372036854775808 by decide]; have := ha.1; omega
  have l2 : a ≤ IntKind.i64.max := by rw [show IntKind.i64.max = 9223372036854775807 by decide]; have := ha.2; omega
  have l3 : IntKind.i64.min ≤ b := by rw [show IntKind.i64.min = -9223372036854775808 by decide]; have := hb.1; omega
  have l4 : b ≤ IntKind.i64.max := by rw [show IntKind.i64.max = 9223372036854775807 by decide]; have := hb.2; omega
  refine PL.Pure.of_v Tryz.func248 (by decide) rfl Tryz.ntmps248 Tryz.results248 (by simp) (rfl) ?_
  simp only [go_sem]
  refine vCall_of (hW) ?_ ?_ ?_; iterate 2 simp only [go_sem]
  simp only [go_sem, ta, tb, l1, l2, l3, l4]
def fitsI (n : Int) : Bool := decide (-4503599627370496 ≤ n) && decide (n ≤ 4503599627370496)
theorem fitsI_iff {n : Int} : fitsI n = true ↔ Lim n := by simp [fitsI, Lim]
set_option maxHeartbeats 4000000 in
theorem fits_pure (n : Int) : PL.Pure Tryz.prog 247 [.int .i64 n] (.bool (fitsI n)) := by
  refine PL.Pure.of_v Tryz.func247 (by decide) rfl Tryz.ntmps247 Tryz.results247 (by simp) rfl ?_
  simp only [go_sem]
  repeat' (first | (refine vGuard_t (fun h => ?_) (fun h => ?_) <;> (try simp only [go_sem, h])) | (refine vGuard_f (fun h => ?_) (fun h => ?_) <;> (try simp only [go_sem, h])) | (refine vCond_b (fun h => ?_) (fun h => ?_) <;> (try simp only [go_sem, h])) | ((refine vDrawQ (by kernel_rfl) (by kernel_rfl) ?_); (try simp only [go_sem])))
  all_goals (simp_all [fitsI]; try omega)
set_option maxHeartbeats 4000000 in
theorem Of_pure (a b : Int) : PL.Pure Tryz.prog 235 [.int .i64 a, .int .i64 b] (if fitsI a = true ∧ fitsI b = true then .tup [.cpx .f64 (flOf a) (flOf b), .int .i64 0] else .tup [.cpx .f64 0 0, .int .i64 3]) := by
  have hA := fits_pure a
  have hB := fits_pure b
  have ea : FloatKind.f64.nearest a = flOf a := rfl
  have eb : FloatKind.f64.nearest b = flOf b := rfl
  cases h1 : fitsI a
  · rw [h1] at hA
    simp only [Bool.false_eq_true, false_and, if_false]
    refine PL.Pure.of_v Tryz.func235 (by decide) rfl Tryz.ntmps235 Tryz.results235 (by simp) (rfl) ?_
    simp only [go_sem]
    refine vCall_of (hA) ?_ ?_ ?_; iterate 2 simp only [go_sem]
    simp only [go_sem]
  · rw [h1] at hA
    cases h2 : fitsI b
    · rw [h2] at hB
      simp only [Bool.false_eq_true, and_false, if_false]
      refine PL.Pure.of_v Tryz.func235 (by decide) rfl Tryz.ntmps235 Tryz.results235 (by simp) (rfl) ?_
      simp only [go_sem]
      refine vCall_of (hA) ?_ ?_ ?_; iterate 2 simp only [go_sem]
      simp only [go_sem]
      refine vCall_of (hB) ?_ ?_ ?_; iterate 2 simp only [go_sem]
      simp only [go_sem]
    · rw [h2] at hB
      simp only [and_self, if_true]
      refine PL.Pure.of_v Tryz.func235 (by decide) rfl Tryz.ntmps235 Tryz.results235 (by simp) (rfl) ?_
      simp only [go_sem]
      refine vCall_of (hA) ?_ ?_ ?_; iterate 2 simp only [go_sem]
      simp only [go_sem]
      refine vCall_of (hB) ?_ ?_ ?_; iterate 2 simp only [go_sem]
      simp only [go_sem, ea, eb]
set_option maxHeartbeats 4000000 in
theorem away_pure (n : Int) : PL.Pure Tryz.prog 249 [.int .i64 n] (.bool (!fitsI n)) := by
  refine PL.Pure.of_v Tryz.func249 (by decide) rfl Tryz.ntmps249 Tryz.results249 (by simp) rfl ?_
  simp only [go_sem]
  repeat' (first | (refine vGuard_t (fun h => ?_) (fun h => ?_) <;> (try simp only [go_sem, h])) | (refine vGuard_f (fun h => ?_) (fun h => ?_) <;> (try simp only [go_sem, h])) | (refine vCond_b (fun h => ?_) (fun h => ?_) <;> (try simp only [go_sem, h])) | ((refine vDrawQ (by kernel_rfl) (by kernel_rfl) ?_); (try simp only [go_sem])))
  all_goals (simp_all [fitsI]; try omega)
  all_goals (rw [← decide_not]; congr 1; simp only [eq_iff_iff]; omega)
end Go.Proofs.YtnadlkjmdimjkaaGreat
