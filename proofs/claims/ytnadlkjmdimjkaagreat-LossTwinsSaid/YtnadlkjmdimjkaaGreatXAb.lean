/- Contracts of functions and laws of this seat, each for every input that it names: lemmas of the proof. -/
import Derived.Test.YtnadlkjmdimjkaaGreatXAa
set_option linter.unusedSimpArgs false
set_option linter.unusedVariables false
set_option linter.unusedSimpArgs false
set_option linter.unusedVariables false
namespace Go.Proofs.YtnadlkjmdimjkaaGreat
open Go.PL
attribute [go_sem] reduceIte Nat.reduceEqDiff reduceCtorEq Nat.reduceLT Nat.reduceAdd Nat.reduceSub Nat.reduceMul Nat.reduceLeDiff Int.reduceLT Int.reduceLE Int.reduceToNat Int.reduceEq Int.reduceAdd Int.reduceSub Int.reduceNeg Int.reduceBNe Int.reduceBEq
attribute [go_sem] true_or or_true List.getElem?_cons_zero List.getElem?_cons_succ List.getElem?_nil decide_true decide_false Bool.not_true Bool.not_false imp_self false_implies true_implies List.all_cons List.all_nil Bool.and_true Bool.false_eq_true Nat.zero_add Nat.add_zero Option.some.injEq true_and and_true List.getD_cons_zero List.getD_cons_succ List.length_cons List.length_nil ne_eq not_false_eq_true implies_true and_self List.take List.drop List.map_cons List.map_nil List.reverse_cons List.reverse_nil List.nil_append PV.bool.injEq List.length_map Int.toNat_natCast Nat.mul_one beq_self_eq_true bne_self_eq_false
theorem w64 {x : Int} (h : -9223372036854775808 ≤ x ∧ x ≤ 9223372036854775807) : IntKind.i64.wrap x = x := IntWalk.i64_in _ (by omega)
theorem maxLen_eq : maxLen = 9223372036854775807 := by decide
theorem w64s {k n : Nat} (h : k < n) (hn : n ≤ maxLen) : IntKind.i64.wrap ((k : Int) + 1) = ((k + 1 : Nat) : Int) := by
  rw [maxLen_eq] at hn
  rw [w64 (by omega)]; rfl
abbrev Str := List UInt8
structure Rf where
  sc : Int
  gr : Str
  nm : Str
  deriving DecidableEq, Inhabited
structure En where
  at' : Rf
  n : Int
  l : List Str
  deriving DecidableEq, Inhabited
structure Rw where
  item : Str
  l : List En
  deriving DecidableEq, Inhabited
structure Dc where
  head : List En
  rows : List Rw
  deriving DecidableEq, Inhabited
def strs (l : List Str) : PV := .sl .no (l.map .str)
def ref (r : Rf) : PV := .agg [.int .i64 r.sc, .str r.gr, .str r.nm]
def ent (e : En) : PV := .agg [.int .i64 e.at'.sc, .str e.at'.gr, .str e.at'.nm, .int .i64 e.n, .sl .no (e.l.map .str)]
def ents (l : List En) : PV := .sl .no (l.map ent)
def row (r : Rw) : PV := .agg [.str r.item, .sl .no (r.l.map ent)]
def doc (d : Dc) : PV := .agg [.sl .no (d.head.map ent), .sl .no (d.rows.map row)]
theorem ref_fold (a b : Rf) : (a.sc == b.sc && (a.gr == b.gr && a.nm == b.nm)) = decide (a = b) := by
  cases a; cases b
  rw [Bool.eq_iff_iff]
  simp
theorem getD_str {l : List Str} {i : Nat} (h : i < l.length) : (l.map PV.str).getD i .any = .str (l.getD i []) := by
  simp [List.getD_eq_getElem?_getD, h]
theorem getD_ent {l : List En} {i : Nat} (h : i < l.length) : (l.map ent).getD i .any = ent (l.getD i default) := by
  simp [List.getD_eq_getElem?_getD, h]
theorem getD_row {l : List Rw} {i : Nat} (h : i < l.length) : (l.map row).getD i .any = row (l.getD i default) := by
  simp [List.getD_eq_getElem?_getD, h]
theorem getD_mem' {α : Type} {l : List α} {i : Nat} {d : α} (h : i < l.length) : l.getD i d ∈ l := by
  rw [List.getD_eq_getElem?_getD, List.getElem?_eq_getElem h]; exact List.getElem_mem h
/-- lists that are alike, place by place -/
theorem eq_of_getD {α : Type} {a b : List α} {d : α} (hl : a.length = b.length) (h : ∀ j, j < a.length → a.getD j d = b.getD j d) : a = b := by
  apply List.ext_getElem hl
  intro i h1 h2
  have := h i h1
  simpa [List.getD_eq_getElem?_getD, h1, h2] using this
theorem ne_of_getD {α : Type} {a b : List α} {d : α} {j : Nat} (h : a.getD j d ≠ b.getD j d) : a ≠ b := fun e => h (by rw [e])
set_option maxHeartbeats 1000000 in
theorem RSame_pure (a b : List Str) (ha : a.length ≤ maxLen) (hb : b.length ≤ maxLen) : PL.Pure Tryz.prog 20 [strs a, strs b] (.bool (decide (a = b))) := by
  by_cases hl : a.length = b.length
  · have hl' : ((a.length : Int) != (b.length : Int)) = false := by rw [hl]; exact bne_self_eq_false _
    refine PL.Pure.of_v Tryz.func20 (by decide) rfl Tryz.ntmps20 Tryz.results20 (by simp) rfl ?_
    simp only [go_sem, strs, hl']
    refine vLoopM (ι := { k : Nat // k ≤ a.length ∧ ∀ j, j < k → a.getD j [] = b.getD j [] }) 26 (fun x => [(0, strs a), (1, strs b), (5, .int .i64 (x.1 : Int))]) (fun x => []) (fun x => []) (fun x => a.length - x.1) ⟨0, by omega, fun j hj => by omega⟩
      ⟨rfl, (forall_cons rfl (forall_cons rfl (forall_cons rfl (forall_nil)))), forall_nil, forall_nil⟩ (fun x => ⟨(forall_cons rfl (forall_cons rfl (forall_cons rfl (forall_nil)))), forall_nil⟩) (fun x => ?_)
    obtain ⟨k, hk, hall⟩ := x
    simp only
    by_cases h : (k : Int) < (a.length : Int)
    · have hka : k < a.length := by omega
      have hkb : k < b.length := by omega
      have w1 := w64s hka ha
      have i1 : (0 : Int) ≤ (k : Int) := by omega
      have i2 : (k : Int) < (b.length : Int) := by omega
      by_cases he : a.getD k [] = b.getD k []
      · have he' : (a.getD k [] == b.getD k []) = true := beq_iff_eq.2 he
        simp only [go_sem, strs, h]
        refine vDrawQ (by kernel_rfl) (by kernel_rfl) ?_
        simp only [go_sem, getD_str hka, getD_str hkb, h, i1, i2, he', w1]
        exact ⟨⟨k + 1, by omega, fun j hj => by
          rcases Nat.lt_or_ge j k with h1 | h1
          · exact hall j h1
          · obtain rfl : j = k := by omega
            exact he⟩, by show a.length - (k + 1) < a.length - k; omega, ⟨rfl, (forall_cons rfl (forall_cons rfl (forall_cons rfl (forall_nil)))), forall_nil, forall_nil⟩⟩
      · have he' : (a.getD k [] == b.getD k []) = false := beq_eq_false_iff_ne.2 he
        have hab : ¬ a = b := ne_of_getD he
        simp only [go_sem, strs, h]
        refine vDrawQ (by kernel_rfl) (by kernel_rfl) ?_
        simp only [go_sem, getD_str hka, getD_str hkb, h, i1, i2, he', hab]
    · have hab : decide (a = b) = true := decide_eq_true (eq_of_getD (d := []) hl fun j hj => hall j (by omega))
      simp only [go_sem, strs, h, hab]
  · have hl' : ((a.length : Int) != (b.length : Int)) = true := bne_iff_ne.2 (by omega)
    have hab : ¬ a = b := fun e => hl (by rw [e])
    refine PL.Pure.of_v Tryz.func20 (by decide) rfl Tryz.ntmps20 Tryz.results20 (by simp) rfl ?_
    simp only [go_sem, strs, hl', hab]
end Go.Proofs.YtnadlkjmdimjkaaGreat

set_option linter.unusedSimpArgs false
set_option linter.unusedVariables false
set_option linter.unusedSimpArgs false
set_option linter.unusedVariables false
namespace Go.Proofs.YtnadlkjmdimjkaaGreat
open Go.PL
/-- the first place at which something holds, or -1 -/
def idx {α : Type} (p : α → Bool) (l : List α) : Int := match l.findIdx? p with | some i => (i : Int) | none => -1
theorem idx_found {α : Type} {p : α → Bool} {l : List α} {k : Nat} {d : α} (hk : k < l.length) (h : ∀ j, j < k → p (l.getD j d) = false) (hp : p (l.getD k d) = true) : idx p l = k := by
  have : l.findIdx? p = some k := by
    rw [List.findIdx?_eq_some_iff_getElem]
    refine ⟨hk, ?_, fun j hj => ?_⟩
    · simpa [List.getD_eq_getElem?_getD, hk] using hp
    · have := h j hj
      simp [List.getD_eq_getElem?_getD, show j < l.length by omega] at this
      simp [this]
  simp [idx, this]
theorem idx_none {α : Type} {p : α → Bool} {l : List α} {d : α} (h : ∀ j, j < l.length → p (l.getD j d) = false) : idx p l = -1 := by
  have : l.findIdx? p = none := by
    rw [List.findIdx?_eq_none_iff]
    intro x hx
    obtain ⟨j, hj, rfl⟩ := List.getElem_of_mem hx
    have := h j hj
    simpa [List.getD_eq_getElem?_getD, hj] using this
  simp [idx, this]
/-- one more place at which nothing is -/
theorem below_succ {p : Nat → Prop} {k : Nat} (h : ∀ j, j < k → p j) (hk : p k) : ∀ j, j < k + 1 → p j := fun j hj => by
  rcases Nat.lt_or_ge j k with h1 | h1
  · exact h j h1
  · obtain rfl : j = k := by omega
    exact hk
theorem en_ext {a b : En} (h1 : a.at' = b.at') (h2 : a.n = b.n) (h3 : a.l = b.l) : a = b := by
  cases a; cases b; simp_all
set_option maxRecDepth 20000 in
set_option maxHeartbeats 4000000 in
theorem SameEntries_pure (a b : List En) (ha : a.length ≤ maxLen) (hb : b.length ≤ maxLen) (ha' : ∀ e ∈ a, e.l.length ≤ maxLen) (hb' : ∀ e ∈ b, e.l.length ≤ maxLen) : PL.Pure Tryz.prog 81 [ents a, ents b] (.bool (decide (a = b))) := by
  by_cases hl : a.length = b.length
  · have hl' : ((a.length : Int) != (b.length : Int)) = false := by rw [hl]; exact bne_self_eq_false _
    refine PL.Pure.of_v Tryz.func81 (by decide) rfl Tryz.ntmps81 Tryz.results81 (by simp) rfl ?_
    simp only [go_sem, ents, hl']
    refine vLoopM (ι := { k : Nat // k ≤ a.length ∧ ∀ j, j < k → a.getD j default = b.getD j default }) 55 (fun x => [(0, ents a), (1, ents b), (5, .int .i64 (x.1 : Int))]) (fun x => []) (fun x => []) (fun x => a.length - x.1) ⟨0, by omega, fun j hj => by omega⟩
      ⟨rfl, (forall_cons rfl (forall_cons rfl (forall_cons rfl (forall_nil)))), forall_nil, forall_nil⟩ (fun x => ⟨(forall_cons rfl (forall_cons rfl (forall_cons rfl (forall_nil)))), forall_nil⟩) (fun x => ?_)
    obtain ⟨k, hk, hall⟩ := x
    simp only
    by_cases h : (k : Int) < (a.length : Int)
    · have hka : k < a.length := by omega
      have hkb : k < b.length := by omega
      have w1 := w64s hka ha
      have i1 : (0 : Int) ≤ (k : Int) := by omega
      have i2 : (k : Int) < (b.length : Int) := by omega
      have hc := RSame_pure _ _ (ha' _ (getD_mem' (d := default) hka)) (hb' _ (getD_mem' (d := default) hkb))
      by_cases e1 : (a.getD k default).at' = (b.getD k default).at'
      · have e1' := decide_eq_true e1
        by_cases e2 : (a.getD k default).n = (b.getD k default).n
        · have e2' : ((a.getD k default).n != (b.getD k default).n) = false := by rw [e2]; exact bne_self_eq_false _
          by_cases e3 : (a.getD k default).l = (b.getD k default).l
          · rw [decide_eq_true e3] at hc
            simp only [go_sem, ents, h]
            refine vDrawQ (by kernel_rfl) (by kernel_rfl) ?_
            simp only [go_sem, getD_ent hka, getD_ent hkb, ent, h, i1, i2, ref_fold, e1', e2']
            refine vCall_of (hc) ?_ ?_ ?_; iterate 2 simp only [go_sem, strs]
            simp only [go_sem, w1]
            exact ⟨⟨k + 1, by omega, below_succ hall (en_ext e1 e2 e3)⟩, by show a.length - (k + 1) < a.length - k; omega, ⟨rfl, (forall_cons rfl (forall_cons rfl (forall_cons rfl (forall_nil)))), forall_nil, forall_nil⟩⟩
          · rw [decide_eq_false e3] at hc
            have hab : ¬ a = b := fun e => e3 (by rw [e])
            simp only [go_sem, ents, h]
            refine vDrawQ (by kernel_rfl) (by kernel_rfl) ?_
            simp only [go_sem, getD_ent hka, getD_ent hkb, ent, h, i1, i2, ref_fold, e1', e2']
            refine vCall_of (hc) ?_ ?_ ?_; iterate 2 simp only [go_sem, strs]
            simp only [go_sem, hab]
        · have e2' : ((a.getD k default).n != (b.getD k default).n) = true := bne_iff_ne.2 e2
          have hab : ¬ a = b := fun e => e2 (by rw [e])
          simp only [go_sem, ents, h]
          refine vDrawQ (by kernel_rfl) (by kernel_rfl) ?_
          simp only [go_sem, getD_ent hka, getD_ent hkb, ent, h, i1, i2, ref_fold, e1', e2', hab]
      · have e1' := decide_eq_false e1
        have hab : ¬ a = b := fun e => e1 (by rw [e])
        simp only [go_sem, ents, h]
        refine vDrawQ (by kernel_rfl) (by kernel_rfl) ?_
        simp only [go_sem, getD_ent hka, getD_ent hkb, ent, h, i1, i2, ref_fold, e1', hab]
    · have hab : decide (a = b) = true := decide_eq_true (eq_of_getD (d := default) hl fun j hj => hall j (by omega))
      simp only [go_sem, ents, h, hab]
  · have hl' : ((a.length : Int) != (b.length : Int)) = true := bne_iff_ne.2 (by omega)
    have hab : ¬ a = b := fun e => hl (by rw [e])
    refine PL.Pure.of_v Tryz.func81 (by decide) rfl Tryz.ntmps81 Tryz.results81 (by simp) rfl ?_
    simp only [go_sem, ents, hl', hab]
end Go.Proofs.YtnadlkjmdimjkaaGreat

set_option linter.unusedSimpArgs false
set_option linter.unusedVariables false
set_option linter.unusedSimpArgs false
set_option linter.unusedVariables false
namespace Go.Proofs.YtnadlkjmdimjkaaGreat
open Go.PL
theorem any_true {α : Type} {p : α → Bool} {l : List α} {k : Nat} {d : α} (hk : k < l.length) (h : p (l.getD k d) = true) : l.any p = true :=
  List.any_eq_true.2 ⟨_, getD_mem' hk, h⟩
theorem any_false {α : Type} {p : α → Bool} {l : List α} {d : α} (h : ∀ j, j < l.length → p (l.getD j d) = false) : l.any p = false := by
  rw [List.any_eq_false]
  intro x hx
  obtain ⟨j, hj, rfl⟩ := List.getElem_of_mem hx
  have := h j hj
  simpa [List.getD_eq_getElem?_getD, hj] using this
def longB (n : Nat) (s : Str) : Bool := decide ((n : Int) < (s.length : Int))
def entH (e : En) : Bool := longB 200 e.at'.gr || (longB 200 e.at'.nm || (decide ((410 : Int) < (e.l.length : Int)) || e.l.any (longB 200)))
def heavyEs (l : List En) : Bool := decide ((40 : Int) < (l.length : Int)) || l.any entH
def rowH (r : Rw) : Bool := longB 200 r.item || heavyEs r.l
def heavyD (d : Dc) : Bool := decide ((410 : Int) < (d.rows.length : Int)) || (heavyEs d.head || d.rows.any rowH)
set_option maxRecDepth 20000 in
set_option maxHeartbeats 4000000 in
theorem heavyEntries_pure (l : List En) (hl : l.length ≤ maxLen) (hl' : ∀ e ∈ l, e.l.length ≤ maxLen) : PL.Pure Tryz.prog 75 [ents l] (.bool (heavyEs l)) := by
  by_cases h40 : (40 : Int) < (l.length : Int)
  · refine PL.Pure.of_v Tryz.func75 (by decide) rfl Tryz.ntmps75 Tryz.results75 (by simp) rfl ?_
    simp only [go_sem, ents, h40, heavyEs, Bool.true_or]
  · refine PL.Pure.of_v Tryz.func75 (by decide) rfl Tryz.ntmps75 Tryz.results75 (by simp) rfl ?_
    simp only [go_sem, ents, h40]
    refine vLoopM (ι := { k : Nat // k ≤ l.length ∧ ∀ j, j < k → entH (l.getD j default) = false }) 61 (fun x => [(0, ents l), (3, .int .i64 (x.1 : Int))]) (fun x => []) (fun x => []) (fun x => l.length - x.1) ⟨0, by omega, fun j hj => by omega⟩
      ⟨rfl, (forall_cons rfl (forall_cons rfl (forall_nil))), forall_nil, forall_nil⟩ (fun x => ⟨(forall_cons rfl (forall_cons rfl (forall_nil))), forall_nil⟩) (fun x => ?_)
    obtain ⟨k, hk, hall⟩ := x
    simp only
    by_cases h : (k : Int) < (l.length : Int)
    · have hka : k < l.length := by omega
      have w1 := w64s hka hl
      have i1 : (0 : Int) ≤ (k : Int) := by omega
      have hle := hl' _ (getD_mem' (d := default) hka)
      have done : entH (l.getD k default) = true → heavyEs l = true := fun h => by simp only [heavyEs, any_true hka h, Bool.or_true]
      by_cases g1 : (200 : Int) < ((l.getD k default).at'.gr.length : Int)
      · have hx := done (by simp only [entH, longB, decide_eq_true_eq, Bool.or_eq_true]; exact .inl (by omega))
        simp only [go_sem, ents, h, getD_ent hka, ent, i1, g1, hx]
      · by_cases g2 : (200 : Int) < ((l.getD k default).at'.nm.length : Int)
        · have hx := done (by simp only [entH, longB, decide_eq_true_eq, Bool.or_eq_true]; exact .inr (.inl (by omega)))
          simp only [go_sem, ents, h, getD_ent hka, ent, i1, g1, g2, hx]
        · by_cases g3 : (410 : Int) < ((l.getD k default).l.length : Int)
          · have hx := done (by simp only [entH, longB, decide_eq_true_eq, Bool.or_eq_true]; exact .inr (.inr (.inl g3)))
            simp only [go_sem, ents, h, getD_ent hka, ent, i1, g1, g2, g3, hx]
          · simp only [go_sem, ents, h, getD_ent hka, ent, i1, g1, g2, g3]
            refine vLoopM (ι := { n : Nat // n ≤ (l.getD k default).l.length ∧ ∀ j, j < n → longB 200 ((l.getD k default).l.getD j []) = false }) 61 (fun x => [(0, ents l), (3, .int .i64 (k : Int)), (4, .int .i64 (x.1 : Int))]) (fun x => []) (fun x => []) (fun x => (l.getD k default).l.length - x.1) ⟨0, by omega, fun j hj => by omega⟩
              ⟨rfl, (forall_cons rfl (forall_cons rfl (forall_cons rfl (forall_nil)))), forall_nil, forall_nil⟩ (fun x => ⟨(forall_cons rfl (forall_cons rfl (forall_cons rfl (forall_nil)))), forall_nil⟩) (fun x => ?_)
            obtain ⟨n, hn, hall2⟩ := x
            simp only
            by_cases h2 : (n : Int) < ((l.getD k default).l.length : Int)
            · have hna : n < (l.getD k default).l.length := by omega
              have w2 := w64s hna hle
              have i3 : (0 : Int) ≤ (n : Int) := by omega
              by_cases g4 : (200 : Int) < (((l.getD k default).l.getD n []).length : Int)
              · have hx := done (by simp only [entH, Bool.or_eq_true]; exact .inr (.inr (.inr (any_true hna (d := []) (by simp only [longB, decide_eq_true_eq]; omega)))))
                simp only [go_sem, ents, h, getD_ent hka, ent, i1, h2, getD_str hna, i3, g4, hx]
              · simp only [go_sem, ents, h, getD_ent hka, ent, i1, h2, getD_str hna, i3, g4, w2]
                exact ⟨⟨n + 1, by omega, below_succ hall2 (by simp only [longB, decide_eq_false_iff_not]; omega)⟩, by show (l.getD k default).l.length - (n + 1) < (l.getD k default).l.length - n; omega, ⟨rfl, (forall_cons rfl (forall_cons rfl (forall_cons rfl (forall_nil)))), forall_nil, forall_nil⟩⟩
            · have hz : entH (l.getD k default) = false := by
                have := any_false (p := longB 200) (d := []) (l := (l.getD k default).l) (fun j hj => hall2 j (by omega))
                simp only [entH, longB, this, Bool.or_false, Bool.or_eq_false_iff, decide_eq_false_iff_not]
                exact ⟨by omega, by omega, g3⟩
              simp only [go_sem, ents, h, getD_ent hka, ent, i1, h2, w1]
              exact ⟨⟨k + 1, by omega, below_succ hall hz⟩, by show l.length - (k + 1) < l.length - k; omega, ⟨rfl, (forall_cons rfl (forall_cons rfl (forall_nil))), forall_nil, forall_nil⟩⟩
    · have hx := any_false (p := entH) (d := default) (l := l) (fun j hj => hall j (by omega))
      have hz : heavyEs l = false := by simp only [heavyEs, h40, hx, decide_false, Bool.or_false]
      simp only [go_sem, ents, h, hz]
def Fine (d : Dc) : Prop := d.head.length ≤ maxLen ∧ d.rows.length ≤ maxLen ∧ (∀ e ∈ d.head, e.l.length ≤ maxLen) ∧ ∀ r ∈ d.rows, r.l.length ≤ maxLen ∧ ∀ e ∈ r.l, e.l.length ≤ maxLen
set_option maxRecDepth 20000 in
set_option maxHeartbeats 4000000 in
theorem Heavy_pure (d : Dc) (hf : Fine d) : PL.Pure Tryz.prog 36 [doc d] (.bool (heavyD d)) := by
  obtain ⟨f1, f2, f3, f4⟩ := hf
  have hH := heavyEntries_pure d.head f1 f3
  by_cases h1 : (410 : Int) < (d.rows.length : Int)
  · refine PL.Pure.of_v Tryz.func36 (by decide) rfl Tryz.ntmps36 Tryz.results36 (by simp) rfl ?_
    simp only [go_sem, doc, h1, heavyD, Bool.true_or]
  · cases h2 : heavyEs d.head
    · rw [h2] at hH
      refine PL.Pure.of_v Tryz.func36 (by decide) rfl Tryz.ntmps36 Tryz.results36 (by simp) rfl ?_
      simp only [go_sem, doc, h1]
      refine vCall_of (hH) ?_ ?_ ?_; iterate 2 simp only [go_sem, ents]
      simp only [go_sem]
      refine vLoopM (ι := { k : Nat // k ≤ d.rows.length ∧ ∀ j, j < k → rowH (d.rows.getD j default) = false }) 37 (fun x => [(1, .ptr 1 0), (3, .int .i64 (x.1 : Int))]) (fun x => [(1, [.sl .no (d.head.map ent), .sl .no (d.rows.map row)], false)]) (fun x => []) (fun x => d.rows.length - x.1) ⟨0, by omega, fun j hj => by omega⟩
        ⟨rfl, (forall_cons rfl (forall_cons rfl (forall_nil))), forall_cons ⟨rfl, rfl⟩ forall_nil, forall_nil⟩ (fun x => ⟨(forall_cons rfl (forall_cons rfl (forall_nil))), (forall_cons rfl (forall_nil))⟩) (fun x => ?_)
      obtain ⟨k, hk, hall⟩ := x
      simp only
      by_cases h : (k : Int) < (d.rows.length : Int)
      · have hka : k < d.rows.length := by omega
        have w1 := w64s hka f2
        have i1 : (0 : Int) ≤ (k : Int) := by omega
        obtain ⟨b1, b2⟩ := f4 _ (getD_mem' (d := default) hka)
        have hR := heavyEntries_pure _ b1 b2
        by_cases g1 : (200 : Int) < ((d.rows.getD k default).item.length : Int)
        · have hx : heavyD d = true := by simp only [heavyD, any_true (p := rowH) (d := default) hka (by simp only [rowH, longB, Bool.or_eq_true, decide_eq_true_eq]; exact .inl (by omega)), Bool.or_true]
          simp only [go_sem, h, getD_row hka, row, i1, g1, hx]
        · cases g2 : heavyEs (d.rows.getD k default).l
          · rw [g2] at hR
            simp only [go_sem, h, getD_row hka, row, i1, g1]
            refine vCall_of (hR) ?_ ?_ ?_; iterate 2 simp only [go_sem, ents]
            simp only [go_sem, w1]
            exact ⟨⟨k + 1, by omega, below_succ hall (by simp only [rowH, longB, g2, Bool.or_false, decide_eq_false_iff_not]; omega)⟩, by show d.rows.length - (k + 1) < d.rows.length - k; omega, ⟨rfl, (forall_cons rfl (forall_cons rfl (forall_nil))), forall_cons ⟨rfl, rfl⟩ forall_nil, forall_nil⟩⟩
          · rw [g2] at hR
            have hx : heavyD d = true := by simp only [heavyD, any_true (p := rowH) (d := default) hka (by simp only [rowH, g2, Bool.or_true]), Bool.or_true]
            simp only [go_sem, h, getD_row hka, row, i1, g1]
            refine vCall_of (hR) ?_ ?_ ?_; iterate 2 simp only [go_sem, ents]
            simp only [go_sem, hx]
      · have hx := any_false (p := rowH) (d := default) (l := d.rows) (fun j hj => hall j (by omega))
        have hz : heavyD d = false := by simp only [heavyD, h1, h2, hx, decide_false, Bool.or_false]
        simp only [go_sem, h, hz]
    · rw [h2] at hH
      refine PL.Pure.of_v Tryz.func36 (by decide) rfl Tryz.ntmps36 Tryz.results36 (by simp) rfl ?_
      simp only [go_sem, doc, h1]
      refine vCall_of (hH) ?_ ?_ ?_; iterate 2 simp only [go_sem, ents]
      simp only [go_sem, heavyD, h2, Bool.true_or, Bool.or_true]
end Go.Proofs.YtnadlkjmdimjkaaGreat

set_option linter.unusedSimpArgs false
set_option linter.unusedVariables false
set_option linter.unusedSimpArgs false
set_option linter.unusedVariables false
namespace Go.Proofs.YtnadlkjmdimjkaaGreat
open Go.PL
@[go_sem] theorem arr_empty {α : Type} : (#[] : Array α).isEmpty = true := rfl
theorem idx_cases {α : Type} (p : α → Bool) (l : List α) : idx p l = -1 ∨ ∃ k : Nat, k < l.length ∧ idx p l = k := by
  unfold idx
  cases h : l.findIdx? p with
  | none => exact .inl rfl
  | some k =>
    rw [List.findIdx?_eq_some_iff_getElem] at h
    exact .inr ⟨k, h.1, rfl⟩
theorem room_small {n b : Nat} (hn : n ≤ 100000000000) (hb : b ≤ 1000) : Room n b := by
  refine ⟨?_, by unfold maxLen; omega⟩
  calc n * b ≤ 100000000000 * 1000 := Nat.mul_le_mul hn hb
    _ ≤ 140737488355328 := by decide
@[go_sem] theorem sized_nil (n : Nat) : Sized n [] = True := by simp [Sized]
@[go_sem] theorem sized_cons (n : Nat) (e : PV) (l : List PV) : Sized n (e :: l) = (e.cells.length = n ∧ Sized n l) := by simp [Sized]
@[go_sem] theorem atoms_nil : Atoms [] = True := by simp [Atoms]
@[go_sem] theorem atoms_cons (e : PV) (l : List PV) : Atoms (e :: l) = (e.cells.all PV.atom = true ∧ Atoms l) := by simp [Atoms]
theorem sized_str (l : List Str) : Sized 1 (l.map .str) := fun e he => by
  obtain ⟨x, _, rfl⟩ := List.mem_map.1 he; rfl
theorem atoms_str (l : List Str) : Atoms (l.map .str) := fun e he => by
  obtain ⟨x, _, rfl⟩ := List.mem_map.1 he; rfl
theorem didsL_str (l : List Str) : PV.didsL (l.map .str) = [] := by
  induction l with
  | nil => rfl
  | cons t l ih => simp only [List.map_cons, PV.didsL, ih, PV.dids, List.append_nil]
theorem ent_dids (e : En) : (ent e).dids = [] := by simp only [ent, PV.dids, PV.didsL, didsL_str, List.append_nil]
set_option maxHeartbeats 1000000 in
theorem ownEntry_pure (e : En) (he : e.l.length ≤ 1000000) : PL.Pure Tryz.prog 137 [ent e] (ent e) := by
  have hr := room_small (show e.l.length ≤ 100000000000 by omega) (show 16 ≤ 1000 by omega)
  refine PL.Pure.of_v Tryz.func137 (by decide) rfl Tryz.ntmps137 Tryz.results137 (by simp) (ent_dids _) ?_
  simp only [go_sem, ent, sized_str, atoms_str, hr]
end Go.Proofs.YtnadlkjmdimjkaaGreat

set_option linter.unusedSimpArgs false
set_option linter.unusedVariables false
set_option linter.unusedSimpArgs false
set_option linter.unusedVariables false
namespace Go.Proofs.YtnadlkjmdimjkaaGreat
open Go.PL
attribute [go_sem] Bool.not_eq_true'
theorem beq_nil {s : Str} (h : s = []) : (s == []) = true := by rw [h]; rfl
theorem beq_nil' {s : Str} (h : ¬ s = []) : (s == []) = false := beq_eq_false_iff_ne.2 h
def entc (x : En × Int) : PV := .tup [ent x.1, .int .i64 x.2]
theorem entc_dids (x : En × Int) : (entc x).dids = [] := by simp only [entc, PV.dids, PV.didsL, ent_dids, List.append_nil]
theorem ent_default : ent default = .agg [.int .i64 0, .str [], .str [], .int .i64 0, .sl .no []] := rfl
end Go.Proofs.YtnadlkjmdimjkaaGreat

set_option linter.unusedSimpArgs false
set_option linter.unusedVariables false
set_option linter.unusedSimpArgs false
set_option linter.unusedVariables false
namespace Go.Proofs.YtnadlkjmdimjkaaGreat
open Go.PL
structure Fd where
  at' : Rf
  kind : Int
  df : Str
  cases' : List Str
  worth : Int
  deriving DecidableEq, Inhabited
def fld (f : Fd) : PV := .agg [.int .i64 f.at'.sc, .str f.at'.gr, .str f.at'.nm, .int .i64 f.kind, .str f.df, .sl .no (f.cases'.map .str), .int .i64 f.worth]
def flds (l : List Fd) : PV := .sl .no (l.map fld)
theorem getD_fld {l : List Fd} {i : Nat} (h : i < l.length) : (l.map fld).getD i .any = fld (l.getD i default) := by
  simp [List.getD_eq_getElem?_getD, h]
def valueM (f : Fd) : En := ⟨f.at', 0, if f.kind = 1 ∨ f.kind = 4 then [] else [f.df]⟩
attribute [go_sem] partsOk
set_option maxHeartbeats 1000000 in
theorem Value_pure (f : Fd) : PL.Pure Tryz.prog 227 [fld f] (ent (valueM f)) := by
  by_cases h1 : f.kind = 1
  · have h1' : (f.kind != 1) = false := by rw [h1]; rfl
    refine PL.Pure.of_v Tryz.func227 (by decide) rfl Tryz.ntmps227 Tryz.results227 (by simp) (ent_dids _) ?_
    simp only [go_sem, fld, ent, valueM, h1']
    simp [h1]
  · have h1' : (f.kind != 1) = true := bne_iff_ne.2 h1
    by_cases h2 : f.kind = 4
    · have h2' : (f.kind != 4) = false := by rw [h2]; rfl
      refine PL.Pure.of_v Tryz.func227 (by decide) rfl Tryz.ntmps227 Tryz.results227 (by simp) (ent_dids _) ?_
      simp only [go_sem, fld, ent, valueM, h1', h2']
      simp [h2]
    · have h2' : (f.kind != 4) = true := bne_iff_ne.2 h2
      refine PL.Pure.of_v Tryz.func227 (by decide) rfl Tryz.ntmps227 Tryz.results227 (by simp) (ent_dids _) ?_
      simp only [go_sem, fld, ent, valueM, h1', h2', h1, h2, or_self]
theorem sized_ent (l : List En) : Sized 5 (l.map ent) := fun e he => by
  obtain ⟨x, _, rfl⟩ := List.mem_map.1 he; rfl
theorem take_snoc {α : Type} {l : List α} {k : Nat} (h : k < l.length) {d : α} : l.take (k + 1) = l.take k ++ [l.getD k d] := by
  rw [List.take_succ_eq_append_getElem h, List.getD_eq_getElem?_getD, List.getElem?_eq_getElem h]; rfl
theorem didsL_ent (l : List En) : PV.didsL (l.map ent) = [] := by
  induction l with
  | nil => rfl
  | cons e l ih => rw [List.map_cons, PV.didsL, ih, ent_dids]; rfl
theorem ents_dids (l : List En) : (ents l).dids = [] := by simp only [ents, PV.dids, didsL_ent]
def rootL : List Fd := [⟨⟨0, [], [99, 111, 117, 112, 111, 110]⟩, 2, [], [], 0⟩, ⟨⟨1, [], [110, 111, 116, 101]⟩, 2, [], [], 0⟩, ⟨⟨1, [], [113, 116, 121]⟩, 1, [], [], 1⟩,
  ⟨⟨1, [], [115, 105, 122, 101]⟩, 3, [109, 101, 100, 105, 117, 109], [[115, 109, 97, 108, 108], [109, 101, 100, 105, 117, 109], [108, 97, 114, 103, 101]], 0⟩, ⟨⟨1, [], [116, 97, 103, 115]⟩, 4, [], [], 0⟩]
theorem sized_fld (l : List Fd) : Sized 7 (l.map fld) := fun e he => by
  obtain ⟨x, _, rfl⟩ := List.mem_map.1 he; rfl
theorem didsL_fld (l : List Fd) : PV.didsL (l.map fld) = [] := by
  induction l with
  | nil => rfl
  | cons e l ih => rw [List.map_cons, PV.didsL, ih]; simp only [fld, PV.dids, PV.didsL, didsL_str, List.append_nil]
theorem flds_dids (l : List Fd) : (flds l).dids = [] := by simp only [flds, PV.dids, didsL_fld]
end Go.Proofs.YtnadlkjmdimjkaaGreat

set_option linter.unusedSimpArgs false
set_option linter.unusedVariables false
set_option linter.unusedSimpArgs false
set_option linter.unusedVariables false
namespace Go.Proofs.YtnadlkjmdimjkaaGreat
open Go.PL
@[go_sem] theorem cast0 : ((0 : Nat) : Int) = 0 := rfl
@[go_sem] theorem cast1 : ((1 : Nat) : Int) = 1 := rfl
attribute [go_sem] Int.cast_ofNat_Int
def nm (s : Str) (i : Nat) : Int := ((s.getD i 0).toNat : Int)
def okAt (s : Str) (i : Nat) : Bool := decide (97 ≤ nm s i ∧ nm s i ≤ 122) || (decide (48 ≤ nm s i ∧ nm s i ≤ 57) && decide (i ≠ 0))
def nameB (s : Str) : Bool := decide (1 ≤ s.length ∧ s.length ≤ 12) && (List.range s.length).all (okAt s)
theorem nm_fold (s : Str) (i : Nat) : ((s.getD i 0).toNat : Int) = nm s i := rfl
set_option maxRecDepth 20000 in
set_option maxHeartbeats 4000000 in
theorem Name_pure (s : Str) : PL.Pure Tryz.prog 86 [.str s] (.bool (nameB s)) := by
  by_cases h1 : (s.length : Int) < 1
  · have hx : nameB s = false := by simp only [nameB, show ¬ (1 ≤ s.length ∧ s.length ≤ 12) by omega, decide_false, Bool.false_and]
    refine PL.Pure.of_v Tryz.func86 (by decide) rfl Tryz.ntmps86 Tryz.results86 (by simp) rfl ?_
    simp only [go_sem, h1, hx]
  · by_cases h2 : (12 : Int) < (s.length : Int)
    · have hx : nameB s = false := by simp only [nameB, show ¬ (1 ≤ s.length ∧ s.length ≤ 12) by omega, decide_false, Bool.false_and]
      refine PL.Pure.of_v Tryz.func86 (by decide) rfl Tryz.ntmps86 Tryz.results86 (by simp) rfl ?_
      simp only [go_sem, h1, h2, hx]
    · have hn : nameB s = (List.range s.length).all (okAt s) := by simp only [nameB, show (1 ≤ s.length ∧ s.length ≤ 12) by omega, and_self, decide_true, Bool.true_and]
      refine PL.Pure.of_v Tryz.func86 (by decide) rfl Tryz.ntmps86 Tryz.results86 (by simp) rfl ?_
      simp only [go_sem, h1, h2]
      refine vLoopM (ι := { k : Nat // k ≤ s.length ∧ ∀ j, j < k → okAt s j = true }) 50 (fun x => [(0, .str s), (15, .int .i64 (s.length : Int)), (16, .int .i64 (x.1 : Int))]) (fun x => []) (fun x => []) (fun x => s.length - x.1) ⟨0, by omega, fun j hj => by omega⟩
        ⟨rfl, (forall_cons rfl (forall_cons rfl (forall_cons rfl (forall_nil)))), forall_nil, forall_nil⟩ (fun x => ⟨(forall_cons rfl (forall_cons rfl (forall_cons rfl (forall_nil)))), forall_nil⟩) (fun x => ?_)
      obtain ⟨k, hk, hall⟩ := x
      simp only
      by_cases h : (k : Int) < (s.length : Int)
      · have hka : k < s.length := by omega
        have w1 : IntKind.i64.wrap ((k : Int) + 1) = ((k + 1 : Nat) : Int) := by rw [w64 (by omega)]; rfl
        have i1 : (0 : Int) ≤ (k : Int) := by omega
        cases ho : okAt s k
        · have hx : nameB s = false := by
            rw [hn, List.all_eq_false]
            exact ⟨k, by simpa using hka, by simp [ho]⟩
          simp only [okAt, Bool.or_eq_false_iff, decide_eq_false_iff_not, Bool.and_eq_false_iff] at ho
          by_cases g1 : 97 ≤ nm s k
          · have g2 : ¬ nm s k ≤ 122 := by omega
            have g3 : 48 ≤ nm s k := by omega
            have g4 : ¬ nm s k ≤ 57 := by omega
            simp only [go_sem, h, i1, nm_fold, g1, g2, g3, g4, hx]
          · by_cases g3 : 48 ≤ nm s k
            · by_cases g4 : nm s k ≤ 57
              · have hk0 : ((k : Int) == 0) = true := by
                  rw [beq_iff_eq]
                  rcases ho.2 with h' | h' <;> omega
                simp only [go_sem, h, i1, nm_fold, g1, g3, g4, hk0, hx]
              · simp only [go_sem, h, i1, nm_fold, g1, g3, g4, hx]
            · simp only [go_sem, h, i1, nm_fold, g1, g3, hx]
        · have nx : ∀ j, j < k + 1 → okAt s j = true := below_succ hall ho
          simp only [okAt, Bool.or_eq_true, decide_eq_true_eq, Bool.and_eq_true] at ho
          by_cases g1 : 97 ≤ nm s k
          · have g2 : nm s k ≤ 122 := by omega
            have g3 : 48 ≤ nm s k := by omega
            have g4 : ¬ nm s k ≤ 57 := by omega
            simp only [go_sem, h, i1, nm_fold, g1, g2, g3, g4, w1]
            exact ⟨⟨k + 1, by omega, nx⟩, by show s.length - (k + 1) < s.length - k; omega, ⟨rfl, (forall_cons rfl (forall_cons rfl (forall_cons rfl (forall_nil)))), forall_nil, forall_nil⟩⟩
          · have g3 : 48 ≤ nm s k := by omega
            have g4 : nm s k ≤ 57 := by omega
            have hk0 : ((k : Int) == 0) = false := beq_eq_false_iff_ne.2 (by omega)
            simp only [go_sem, h, i1, nm_fold, g1, g3, g4, hk0, w1]
            exact ⟨⟨k + 1, by omega, nx⟩, by show s.length - (k + 1) < s.length - k; omega, ⟨rfl, (forall_cons rfl (forall_cons rfl (forall_cons rfl (forall_nil)))), forall_nil, forall_nil⟩⟩
      · have hx : nameB s = true := by
          rw [hn, List.all_eq_true]
          intro j hj
          exact hall j (by have := List.mem_range.1 hj; omega)
        simp only [go_sem, h, hx]
def placeB (r : Rf) : Bool := (decide (r.sc = 0) || decide (r.sc = 1)) && (nameB r.nm && (decide (r.gr = []) || nameB r.gr))
set_option maxRecDepth 20000 in
set_option maxHeartbeats 4000000 in
theorem Place_pure (r : Rf) : PL.Pure Tryz.prog 115 [ref r] (.bool (placeB r)) := by
  have hN := Name_pure r.nm
  have hG := Name_pure r.gr
  by_cases hs : r.sc = 0 ∨ r.sc = 1
  · have hs' : (decide (r.sc = 0) || decide (r.sc = 1)) = true := by simpa using hs
    have key : PL.Pure Tryz.prog 115 [ref r] (.bool (nameB r.nm && (decide (r.gr = []) || nameB r.gr))) := by
      cases hn : nameB r.nm
      · rw [hn] at hN
        rcases hs with h0 | h1
        · have q : (r.sc != 0) = false := by rw [h0]; rfl
          refine PL.Pure.of_v Tryz.func115 (by decide) rfl Tryz.ntmps115 Tryz.results115 (by simp) rfl ?_
          simp only [go_sem, ref, q]
          refine vCall_of (hN) ?_ ?_ ?_; iterate 2 simp only [go_sem]
          simp only [go_sem, Bool.false_and]
        · have q : (r.sc != 0) = true := by rw [h1]; rfl
          have q1 : (r.sc != 1) = false := by rw [h1]; rfl
          refine PL.Pure.of_v Tryz.func115 (by decide) rfl Tryz.ntmps115 Tryz.results115 (by simp) rfl ?_
          simp only [go_sem, ref, q, q1]
          refine vCall_of (hN) ?_ ?_ ?_; iterate 2 simp only [go_sem]
          simp only [go_sem, Bool.false_and]
      · rw [hn] at hN
        by_cases hg : r.gr = []
        · have hg' := beq_nil hg
          rcases hs with h0 | h1
          · have q : (r.sc != 0) = false := by rw [h0]; rfl
            refine PL.Pure.of_v Tryz.func115 (by decide) rfl Tryz.ntmps115 Tryz.results115 (by simp) rfl ?_
            simp only [go_sem, ref, q]
            refine vCall_of (hN) ?_ ?_ ?_; iterate 2 simp only [go_sem]
            simp only [go_sem, Bool.true_and, hg', decide_eq_true hg, Bool.true_or]
          · have q : (r.sc != 0) = true := by rw [h1]; rfl
            have q1 : (r.sc != 1) = false := by rw [h1]; rfl
            refine PL.Pure.of_v Tryz.func115 (by decide) rfl Tryz.ntmps115 Tryz.results115 (by simp) rfl ?_
            simp only [go_sem, ref, q, q1]
            refine vCall_of (hN) ?_ ?_ ?_; iterate 2 simp only [go_sem]
            simp only [go_sem, Bool.true_and, hg', decide_eq_true hg, Bool.true_or]
        · have hg' := beq_nil' hg
          rcases hs with h0 | h1
          · have q : (r.sc != 0) = false := by rw [h0]; rfl
            refine PL.Pure.of_v Tryz.func115 (by decide) rfl Tryz.ntmps115 Tryz.results115 (by simp) rfl ?_
            simp only [go_sem, ref, q]
            refine vCall_of (hN) ?_ ?_ ?_; iterate 2 simp only [go_sem]
            simp only [go_sem, hg']
            refine vCall_of (hG) ?_ ?_ ?_; iterate 2 simp only [go_sem]
            simp only [go_sem, Bool.true_and, decide_eq_false hg, Bool.false_or]
          · have q : (r.sc != 0) = true := by rw [h1]; rfl
            have q1 : (r.sc != 1) = false := by rw [h1]; rfl
            refine PL.Pure.of_v Tryz.func115 (by decide) rfl Tryz.ntmps115 Tryz.results115 (by simp) rfl ?_
            simp only [go_sem, ref, q, q1]
            refine vCall_of (hN) ?_ ?_ ?_; iterate 2 simp only [go_sem]
            simp only [go_sem, hg']
            refine vCall_of (hG) ?_ ?_ ?_; iterate 2 simp only [go_sem]
            simp only [go_sem, Bool.true_and, decide_eq_false hg, Bool.false_or]
    simp only [placeB, hs', Bool.true_and]
    exact key
  · have q : (r.sc != 0) = true := bne_iff_ne.2 (by omega)
    have q1 : (r.sc != 1) = true := bne_iff_ne.2 (by omega)
    have hx : placeB r = false := by
      have : (decide (r.sc = 0) || decide (r.sc = 1)) = false := by simp; omega
      simp only [placeB, this, Bool.false_and]
    refine PL.Pure.of_v Tryz.func115 (by decide) rfl Tryz.ntmps115 Tryz.results115 (by simp) rfl ?_
    simp only [go_sem, ref, q, q1, hx]
set_option maxHeartbeats 1000000 in
theorem Text_pure (s : Str) : PL.Pure Tryz.prog 121 [.str s] (.bool (decide ((s.length : Int) ≤ 40))) := by
  refine PL.Pure.of_v Tryz.func121 (by decide) rfl Tryz.ntmps121 Tryz.results121 (by simp) rfl ?_
  simp only [go_sem]
end Go.Proofs.YtnadlkjmdimjkaaGreat

set_option linter.unusedSimpArgs false
set_option linter.unusedVariables false
set_option linter.unusedSimpArgs false
set_option linter.unusedVariables false
namespace Go.Proofs.YtnadlkjmdimjkaaGreat
open Go.PL
theorem strs_dids (l : List Str) : (strs l).dids = [] := by simp only [strs, PV.dids, didsL_str]
end Go.Proofs.YtnadlkjmdimjkaaGreat
