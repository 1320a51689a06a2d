/- Contracts of functions and laws of this seat, each for every input that it names: lemmas of the proof. -/
import Derived.Test.YtbojhapdidieoaaDb
set_option linter.unusedSimpArgs false
set_option linter.unusedVariables false
set_option linter.unusedSimpArgs false
set_option linter.unusedVariables false
namespace Go.Proofs.Ytbojhapdidieoaa
open Go.PL
theorem any_true {α : Type} {p : α → Bool} {l : List α} {k : Nat} {d : α} (hk : k < l.length) (h : p (l.getD k d) = true) : l.any p = true :=
  List.any_eq_true.2 ⟨_, getD_mem' hk, h⟩
theorem any_false {α : Type} {p : α → Bool} {l : List α} {d : α} (h : ∀ j, j < l.length → p (l.getD j d) = false) : l.any p = false := by
  rw [List.any_eq_false]
  intro x hx
  obtain ⟨j, hj, rfl⟩ := List.getElem_of_mem hx
  have := h j hj
  simpa [List.getD_eq_getElem?_getD, hj] using this
def longB (n : Nat) (s : Str) : Bool := decide ((n : Int) < (s.length : Int))
def entH (e : En) : Bool := longB 200 e.at'.gr || (longB 200 e.at'.nm || (decide ((410 : Int) < (e.l.length : Int)) || e.l.any (longB 200)))
def heavyEs (l : List En) : Bool := decide ((40 : Int) < (l.length : Int)) || l.any entH
def rowH (r : Rw) : Bool := longB 200 r.item || heavyEs r.l
def heavyD (d : Dc) : Bool := decide ((410 : Int) < (d.rows.length : Int)) || (heavyEs d.head || d.rows.any rowH)
set_option maxRecDepth 20000 in
set_option maxHeartbeats 4000000 in
theorem heavyEntries_pure (l : List En) (hl : l.length ≤ maxLen) (hl' : ∀ e ∈ l, e.l.length ≤ maxLen) : PL.Pure Try.prog 83 [ents l] (.bool (heavyEs l)) := by
  by_cases h40 : (40 : Int) < (l.length : Int)
  · refine PL.Pure.of_v Try.func83 (by decide) rfl Try.ntmps83 Try.results83 (by simp) rfl ?_
    simp only [go_sem, reduceIte, Nat.reduceEqDiff, reduceCtorEq, Nat.reduceLT, Nat.reduceAdd, Nat.reduceSub, Nat.reduceMul, Nat.reduceLeDiff, Int.reduceLT, Int.reduceLE, Int.reduceToNat, Int.reduceEq, Int.reduceAdd, Int.reduceSub, Int.reduceNeg, Int.reduceBNe, Int.reduceBEq, ents, h40, heavyEs, Bool.true_or]
  · refine PL.Pure.of_v Try.func83 (by decide) rfl Try.ntmps83 Try.results83 (by simp) rfl ?_
    simp only [go_sem, reduceIte, Nat.reduceEqDiff, reduceCtorEq, Nat.reduceLT, Nat.reduceAdd, Nat.reduceSub, Nat.reduceMul, Nat.reduceLeDiff, Int.reduceLT, Int.reduceLE, Int.reduceToNat, Int.reduceEq, Int.reduceAdd, Int.reduceSub, Int.reduceNeg, Int.reduceBNe, Int.reduceBEq, ents, h40]
    refine vLoopM (ι := { k : Nat // k ≤ l.length ∧ ∀ j, j < k → entH (l.getD j default) = false }) 61 (fun x => [(0, ents l), (3, .int .i64 (x.1 : Int))]) (fun x => []) (fun x => []) (fun x => l.length - x.1) ⟨0, by omega, fun j hj => by omega⟩
      ⟨rfl, (forall_cons rfl (forall_cons rfl (forall_nil))), forall_nil, forall_nil⟩ (fun x => ⟨(forall_cons rfl (forall_cons rfl (forall_nil))), forall_nil⟩) (fun x => ?_)
    obtain ⟨k, hk, hall⟩ := x
    simp only
    by_cases h : (k : Int) < (l.length : Int)
    · have hka : k < l.length := by omega
      have w1 := w64s hka hl
      have i1 : (0 : Int) ≤ (k : Int) := by omega
      have hle := hl' _ (getD_mem' (d := default) hka)
      have done : entH (l.getD k default) = true → heavyEs l = true := fun h => by simp only [heavyEs, any_true hka h, Bool.or_true]
      by_cases g1 : (200 : Int) < ((l.getD k default).at'.gr.length : Int)
      · have hx := done (by simp only [entH, longB, decide_eq_true_eq, Bool.or_eq_true]; exact .inl (by omega))
        simp only [go_sem, reduceIte, Nat.reduceEqDiff, reduceCtorEq, Nat.reduceLT, Nat.reduceAdd, Nat.reduceSub, Nat.reduceMul, Nat.reduceLeDiff, Int.reduceLT, Int.reduceLE, Int.reduceToNat, Int.reduceEq, Int.reduceAdd, Int.reduceSub, Int.reduceNeg, Int.reduceBNe, Int.reduceBEq, ents, h, getD_ent hka, ent, i1, g1, hx]
      · by_cases g2 : (200 : Int) < ((l.getD k default).at'.nm.length : Int)
        · have hx := done (by simp only [entH, longB, decide_eq_true_eq, Bool.or_eq_true]; exact .inr (.inl (by omega)))
          simp only [go_sem, reduceIte, Nat.reduceEqDiff, reduceCtorEq, Nat.reduceLT, Nat.reduceAdd, Nat.reduceSub, Nat.reduceMul, Nat.reduceLeDiff, Int.reduceLT, Int.reduceLE, Int.reduceToNat, Int.reduceEq, Int.reduceAdd, Int.reduceSub, Int.reduceNeg, Int.reduceBNe, Int.reduceBEq, ents, h, getD_ent hka, ent, i1, g1, g2, hx]
        · by_cases g3 : (410 : Int) < ((l.getD k default).l.length : Int)
          · have hx := done (by simp only [entH, longB, decide_eq_true_eq, Bool.or_eq_true]; exact .inr (.inr (.inl g3)))
            simp only [go_sem, reduceIte, Nat.reduceEqDiff, reduceCtorEq, Nat.reduceLT, Nat.reduceAdd, Nat.reduceSub, Nat.reduceMul, Nat.reduceLeDiff, Int.reduceLT, Int.reduceLE, Int.reduceToNat, Int.reduceEq, Int.reduceAdd, Int.reduceSub, Int.reduceNeg, Int.reduceBNe, Int.reduceBEq, ents, h, getD_ent hka, ent, i1, g1, g2, g3, hx]
          · simp only [go_sem, reduceIte, Nat.reduceEqDiff, reduceCtorEq, Nat.reduceLT, Nat.reduceAdd, Nat.reduceSub, Nat.reduceMul, Nat.reduceLeDiff, Int.reduceLT, Int.reduceLE, Int.reduceToNat, Int.reduceEq, Int.reduceAdd, Int.reduceSub, Int.reduceNeg, Int.reduceBNe, Int.reduceBEq, ents, h, getD_ent hka, ent, i1, g1, g2, g3]
            refine vLoopM (ι := { n : Nat // n ≤ (l.getD k default).l.length ∧ ∀ j, j < n → longB 200 ((l.getD k default).l.getD j []) = false }) 61 (fun x => [(0, ents l), (3, .int .i64 (k : Int)), (4, .int .i64 (x.1 : Int))]) (fun x => []) (fun x => []) (fun x => (l.getD k default).l.length - x.1) ⟨0, by omega, fun j hj => by omega⟩
              ⟨rfl, (forall_cons rfl (forall_cons rfl (forall_cons rfl (forall_nil)))), forall_nil, forall_nil⟩ (fun x => ⟨(forall_cons rfl (forall_cons rfl (forall_cons rfl (forall_nil)))), forall_nil⟩) (fun x => ?_)
            obtain ⟨n, hn, hall2⟩ := x
            simp only
            by_cases h2 : (n : Int) < ((l.getD k default).l.length : Int)
            · have hna : n < (l.getD k default).l.length := by omega
              have w2 := w64s hna hle
              have i3 : (0 : Int) ≤ (n : Int) := by omega
              by_cases g4 : (200 : Int) < (((l.getD k default).l.getD n []).length : Int)
              · have hx := done (by simp only [entH, Bool.or_eq_true]; exact .inr (.inr (.inr (any_true hna (d := []) (by simp only [longB, decide_eq_true_eq]; omega)))))
                simp only [go_sem, reduceIte, Nat.reduceEqDiff, reduceCtorEq, Nat.reduceLT, Nat.reduceAdd, Nat.reduceSub, Nat.reduceMul, Nat.reduceLeDiff, Int.reduceLT, Int.reduceLE, Int.reduceToNat, Int.reduceEq, Int.reduceAdd, Int.reduceSub, Int.reduceNeg, Int.reduceBNe, Int.reduceBEq, ents, h, getD_ent hka, ent, i1, h2, getD_str hna, i3, g4, hx]
              · simp only [go_sem, reduceIte, Nat.reduceEqDiff, reduceCtorEq, Nat.reduceLT, Nat.reduceAdd, Nat.reduceSub, Nat.reduceMul, Nat.reduceLeDiff, Int.reduceLT, Int.reduceLE, Int.reduceToNat, Int.reduceEq, Int.reduceAdd, Int.reduceSub, Int.reduceNeg, Int.reduceBNe, Int.reduceBEq, ents, h, getD_ent hka, ent, i1, h2, getD_str hna, i3, g4, w2]
                exact ⟨⟨n + 1, by omega, below_succ hall2 (by simp only [longB, decide_eq_false_iff_not]; omega)⟩, by show (l.getD k default).l.length - (n + 1) < (l.getD k default).l.length - n; omega, ⟨rfl, (forall_cons rfl (forall_cons rfl (forall_cons rfl (forall_nil)))), forall_nil, forall_nil⟩⟩
            · have hz : entH (l.getD k default) = false := by
                have := any_false (p := longB 200) (d := []) (l := (l.getD k default).l) (fun j hj => hall2 j (by omega))
                simp only [entH, longB, this, Bool.or_false, Bool.or_eq_false_iff, decide_eq_false_iff_not]
                exact ⟨by omega, by omega, g3⟩
              simp only [go_sem, reduceIte, Nat.reduceEqDiff, reduceCtorEq, Nat.reduceLT, Nat.reduceAdd, Nat.reduceSub, Nat.reduceMul, Nat.reduceLeDiff, Int.reduceLT, Int.reduceLE, Int.reduceToNat, Int.reduceEq, Int.reduceAdd, Int.reduceSub, Int.reduceNeg, Int.reduceBNe, Int.reduceBEq, ents, h, getD_ent hka, ent, i1, h2, w1]
              exact ⟨⟨k + 1, by omega, below_succ hall hz⟩, by show l.length - (k + 1) < l.length - k; omega, ⟨rfl, (forall_cons rfl (forall_cons rfl (forall_nil))), forall_nil, forall_nil⟩⟩
    · have hx := any_false (p := entH) (d := default) (l := l) (fun j hj => hall j (by omega))
      have hz : heavyEs l = false := by simp only [heavyEs, h40, hx, decide_false, Bool.or_false]
      simp only [go_sem, reduceIte, Nat.reduceEqDiff, reduceCtorEq, Nat.reduceLT, Nat.reduceAdd, Nat.reduceSub, Nat.reduceMul, Nat.reduceLeDiff, Int.reduceLT, Int.reduceLE, Int.reduceToNat, Int.reduceEq, Int.reduceAdd, Int.reduceSub, Int.reduceNeg, Int.reduceBNe, Int.reduceBEq, ents, h, hz]
def Fine (d : Dc) : Prop := d.head.length ≤ maxLen ∧ d.rows.length ≤ maxLen ∧ (∀ e ∈ d.head, e.l.length ≤ maxLen) ∧ ∀ r ∈ d.rows, r.l.length ≤ maxLen ∧ ∀ e ∈ r.l, e.l.length ≤ maxLen
set_option maxRecDepth 20000 in
set_option maxHeartbeats 4000000 in
theorem Heavy_pure (d : Dc) (hf : Fine d) : PL.Pure Try.prog 44 [doc d] (.bool (heavyD d)) := by
  obtain ⟨f1, f2, f3, f4⟩ := hf
  have hH := heavyEntries_pure d.head f1 f3
  by_cases h1 : (410 : Int) < (d.rows.length : Int)
  · refine PL.Pure.of_v Try.func44 (by decide) rfl Try.ntmps44 Try.results44 (by simp) rfl ?_
    simp only [go_sem, reduceIte, Nat.reduceEqDiff, reduceCtorEq, Nat.reduceLT, Nat.reduceAdd, Nat.reduceSub, Nat.reduceMul, Nat.reduceLeDiff, Int.reduceLT, Int.reduceLE, Int.reduceToNat, Int.reduceEq, Int.reduceAdd, Int.reduceSub, Int.reduceNeg, Int.reduceBNe, Int.reduceBEq, doc, h1, heavyD, Bool.true_or]
  · cases h2 : heavyEs d.head
    · rw [h2] at hH
      refine PL.Pure.of_v Try.func44 (by decide) rfl Try.ntmps44 Try.results44 (by simp) rfl ?_
      simp only [go_sem, reduceIte, Nat.reduceEqDiff, reduceCtorEq, Nat.reduceLT, Nat.reduceAdd, Nat.reduceSub, Nat.reduceMul, Nat.reduceLeDiff, Int.reduceLT, Int.reduceLE, Int.reduceToNat, Int.reduceEq, Int.reduceAdd, Int.reduceSub, Int.reduceNeg, Int.reduceBNe, Int.reduceBEq, doc, h1]
      refine vCall_of (hH) ?_ ?_ ?_; (focus simp only [go_sem, reduceIte, Nat.reduceEqDiff, reduceCtorEq, Nat.reduceLT, Nat.reduceAdd, Nat.reduceSub, Nat.reduceMul, Nat.reduceLeDiff, Int.reduceLT, Int.reduceLE, Int.reduceToNat, Int.reduceEq, Int.reduceAdd, Int.reduceSub, Int.reduceNeg, Int.reduceBNe, Int.reduceBEq, ents]); (focus simp only [go_sem, reduceIte, Nat.reduceEqDiff, reduceCtorEq, Nat.reduceLT, Nat.reduceAdd, Nat.reduceSub, Nat.reduceMul, Nat.reduceLeDiff, Int.reduceLT, Int.reduceLE, Int.reduceToNat, Int.reduceEq, Int.reduceAdd, Int.reduceSub, Int.reduceNeg, Int.reduceBNe, Int.reduceBEq, ents])
      simp only [go_sem, reduceIte, Nat.reduceEqDiff, reduceCtorEq, Nat.reduceLT, Nat.reduceAdd, Nat.reduceSub, Nat.reduceMul, Nat.reduceLeDiff, Int.reduceLT, Int.reduceLE, Int.reduceToNat, Int.reduceEq, Int.reduceAdd, Int.reduceSub, Int.reduceNeg, Int.reduceBNe, Int.reduceBEq]
      refine vLoopM (ι := { k : Nat // k ≤ d.rows.length ∧ ∀ j, j < k → rowH (d.rows.getD j default) = false }) 37 (fun x => [(1, .ptr 1 0), (3, .int .i64 (x.1 : Int))]) (fun x => [(1, [.sl .no (d.head.map ent), .sl .no (d.rows.map row)], false)]) (fun x => []) (fun x => d.rows.length - x.1) ⟨0, by omega, fun j hj => by omega⟩
        ⟨rfl, (forall_cons rfl (forall_cons rfl (forall_nil))), forall_cons ⟨rfl, rfl⟩ forall_nil, forall_nil⟩ (fun x => ⟨(forall_cons rfl (forall_cons rfl (forall_nil))), (forall_cons rfl (forall_nil))⟩) (fun x => ?_)
      obtain ⟨k, hk, hall⟩ := x
      simp only
      by_cases h : (k : Int) < (d.rows.length : Int)
      · have hka : k < d.rows.length := by omega
        have w1 := w64s hka f2
        have i1 : (0 : Int) ≤ (k : Int) := by omega
        obtain ⟨b1, b2⟩ := f4 _ (getD_mem' (d := default) hka)
        have hR := heavyEntries_pure _ b1 b2
        by_cases g1 : (200 : Int) < ((d.rows.getD k default).item.length : Int)
        · have hx : heavyD d = true := by simp only [heavyD, any_true (p := rowH) (d := default) hka (by simp only [rowH, longB, Bool.or_eq_true, decide_eq_true_eq]; exact .inl (by omega)), Bool.or_true]
          simp only [go_sem, reduceIte, Nat.reduceEqDiff, reduceCtorEq, Nat.reduceLT, Nat.reduceAdd, Nat.reduceSub, Nat.reduceMul, Nat.reduceLeDiff, Int.reduceLT, Int.reduceLE, Int.reduceToNat, Int.reduceEq, Int.reduceAdd, Int.reduceSub, Int.reduceNeg, Int.reduceBNe, Int.reduceBEq, h, getD_row hka, row, i1, g1, hx]
        · cases g2 : heavyEs (d.rows.getD k default).l
          · rw [g2] at hR
            simp only [go_sem, reduceIte, Nat.reduceEqDiff, reduceCtorEq, Nat.reduceLT, Nat.reduceAdd, Nat.reduceSub, Nat.reduceMul, Nat.reduceLeDiff, Int.reduceLT, Int.reduceLE, Int.reduceToNat, Int.reduceEq, Int.reduceAdd, Int.reduceSub, Int.reduceNeg, Int.reduceBNe, Int.reduceBEq, h, getD_row hka, row, i1, g1]
            refine vCall_of (hR) ?_ ?_ ?_; (focus simp only [go_sem, reduceIte, Nat.reduceEqDiff, reduceCtorEq, Nat.reduceLT, Nat.reduceAdd, Nat.reduceSub, Nat.reduceMul, Nat.reduceLeDiff, Int.reduceLT, Int.reduceLE, Int.reduceToNat, Int.reduceEq, Int.reduceAdd, Int.reduceSub, Int.reduceNeg, Int.reduceBNe, Int.reduceBEq, ents]); (focus simp only [go_sem, reduceIte, Nat.reduceEqDiff, reduceCtorEq, Nat.reduceLT, Nat.reduceAdd, Nat.reduceSub, Nat.reduceMul, Nat.reduceLeDiff, Int.reduceLT, Int.reduceLE, Int.reduceToNat, Int.reduceEq, Int.reduceAdd, Int.reduceSub, Int.reduceNeg, Int.reduceBNe, Int.reduceBEq, ents])
            simp only [go_sem, reduceIte, Nat.reduceEqDiff, reduceCtorEq, Nat.reduceLT, Nat.reduceAdd, Nat.reduceSub, Nat.reduceMul, Nat.reduceLeDiff, Int.reduceLT, Int.reduceLE, Int.reduceToNat, Int.reduceEq, Int.reduceAdd, Int.reduceSub, Int.reduceNeg, Int.reduceBNe, Int.reduceBEq, w1]
            exact ⟨⟨k + 1, by omega, below_succ hall (by simp only [rowH, longB, g2, Bool.or_false, decide_eq_false_iff_not]; omega)⟩, by show d.rows.length - (k + 1) < d.rows.length - k; omega, ⟨rfl, (forall_cons rfl (forall_cons rfl (forall_nil))), forall_cons ⟨rfl, rfl⟩ forall_nil, forall_nil⟩⟩
          · rw [g2] at hR
            have hx : heavyD d = true := by simp only [heavyD, any_true (p := rowH) (d := default) hka (by simp only [rowH, g2, Bool.or_true]), Bool.or_true]
            simp only [go_sem, reduceIte, Nat.reduceEqDiff, reduceCtorEq, Nat.reduceLT, Nat.reduceAdd, Nat.reduceSub, Nat.reduceMul, Nat.reduceLeDiff, Int.reduceLT, Int.reduceLE, Int.reduceToNat, Int.reduceEq, Int.reduceAdd, Int.reduceSub, Int.reduceNeg, Int.reduceBNe, Int.reduceBEq, h, getD_row hka, row, i1, g1]
            refine vCall_of (hR) ?_ ?_ ?_; (focus simp only [go_sem, reduceIte, Nat.reduceEqDiff, reduceCtorEq, Nat.reduceLT, Nat.reduceAdd, Nat.reduceSub, Nat.reduceMul, Nat.reduceLeDiff, Int.reduceLT, Int.reduceLE, Int.reduceToNat, Int.reduceEq, Int.reduceAdd, Int.reduceSub, Int.reduceNeg, Int.reduceBNe, Int.reduceBEq, ents]); (focus simp only [go_sem, reduceIte, Nat.reduceEqDiff, reduceCtorEq, Nat.reduceLT, Nat.reduceAdd, Nat.reduceSub, Nat.reduceMul, Nat.reduceLeDiff, Int.reduceLT, Int.reduceLE, Int.reduceToNat, Int.reduceEq, Int.reduceAdd, Int.reduceSub, Int.reduceNeg, Int.reduceBNe, Int.reduceBEq, ents])
            simp only [go_sem, reduceIte, Nat.reduceEqDiff, reduceCtorEq, Nat.reduceLT, Nat.reduceAdd, Nat.reduceSub, Nat.reduceMul, Nat.reduceLeDiff, Int.reduceLT, Int.reduceLE, Int.reduceToNat, Int.reduceEq, Int.reduceAdd, Int.reduceSub, Int.reduceNeg, Int.reduceBNe, Int.reduceBEq, hx]
      · have hx := any_false (p := rowH) (d := default) (l := d.rows) (fun j hj => hall j (by omega))
        have hz : heavyD d = false := by simp only [heavyD, h1, h2, hx, decide_false, Bool.or_false]
        simp only [go_sem, reduceIte, Nat.reduceEqDiff, reduceCtorEq, Nat.reduceLT, Nat.reduceAdd, Nat.reduceSub, Nat.reduceMul, Nat.reduceLeDiff, Int.reduceLT, Int.reduceLE, Int.reduceToNat, Int.reduceEq, Int.reduceAdd, Int.reduceSub, Int.reduceNeg, Int.reduceBNe, Int.reduceBEq, h, hz]
    · rw [h2] at hH
      refine PL.Pure.of_v Try.func44 (by decide) rfl Try.ntmps44 Try.results44 (by simp) rfl ?_
      simp only [go_sem, reduceIte, Nat.reduceEqDiff, reduceCtorEq, Nat.reduceLT, Nat.reduceAdd, Nat.reduceSub, Nat.reduceMul, Nat.reduceLeDiff, Int.reduceLT, Int.reduceLE, Int.reduceToNat, Int.reduceEq, Int.reduceAdd, Int.reduceSub, Int.reduceNeg, Int.reduceBNe, Int.reduceBEq, doc, h1]
      refine vCall_of (hH) ?_ ?_ ?_; (focus simp only [go_sem, reduceIte, Nat.reduceEqDiff, reduceCtorEq, Nat.reduceLT, Nat.reduceAdd, Nat.reduceSub, Nat.reduceMul, Nat.reduceLeDiff, Int.reduceLT, Int.reduceLE, Int.reduceToNat, Int.reduceEq, Int.reduceAdd, Int.reduceSub, Int.reduceNeg, Int.reduceBNe, Int.reduceBEq, ents]); (focus simp only [go_sem, reduceIte, Nat.reduceEqDiff, reduceCtorEq, Nat.reduceLT, Nat.reduceAdd, Nat.reduceSub, Nat.reduceMul, Nat.reduceLeDiff, Int.reduceLT, Int.reduceLE, Int.reduceToNat, Int.reduceEq, Int.reduceAdd, Int.reduceSub, Int.reduceNeg, Int.reduceBNe, Int.reduceBEq, ents])
      simp only [go_sem, reduceIte, Nat.reduceEqDiff, reduceCtorEq, Nat.reduceLT, Nat.reduceAdd, Nat.reduceSub, Nat.reduceMul, Nat.reduceLeDiff, Int.reduceLT, Int.reduceLE, Int.reduceToNat, Int.reduceEq, Int.reduceAdd, Int.reduceSub, Int.reduceNeg, Int.reduceBNe, Int.reduceBEq, heavyD, h2, Bool.true_or, Bool.or_true]
