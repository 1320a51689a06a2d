/- Contracts of functions and laws of this seat, each for every input that it names: lemmas of the proof. -/
import Derived.Test.YtnadlkjmdimjkaaGreatXCn
import Derived.Test.YtnadlkjmdimjkaaGreatXBk
import Derived.Test.YtnadlkjmdimjkaaGreatXAm
import Derived.Test.YtnadlkjmdimjkaaGreatRows
import Derived.ProofKit
set_option linter.unusedSimpArgs false
set_option linter.unusedVariables false
set_option linter.unusedSimpArgs false
set_option linter.unusedVariables false
namespace Go.Proofs.YtnadlkjmdimjkaaGreat
open Go.PL
set_option maxRecDepth 20000 in
set_option maxHeartbeats 4000000 in
theorem RPrint_pure (r : Rf) : PL.Pure Tryz.prog 60 [ref r] (.str (printM r)) := by
  have hP := RPlace_pure r
  cases hp : placeB r
  · rw [hp] at hP
    refine PL.Pure.of_v Tryz.func60 (by decide) rfl Tryz.ntmps60 Tryz.results60 (by simp) rfl ?_
    simp only [go_sem, ref]
    refine vCall_of (hP) ?_ ?_ ?_; (focus simp only [go_sem, ref]); (focus simp only [go_sem, ref])
    simp only [go_sem, printM, hp]
  · rw [hp] at hP
    have hl : r.nm.length ≤ 12 ∧ r.gr.length ≤ 12 := by
      simp only [placeB, Bool.and_eq_true, Bool.or_eq_true, decide_eq_true_eq] at hp
      refine ⟨(name_len hp.2.1).2, ?_⟩
      rcases hp.2.2 with h | h
      · rw [h]; decide
      · exact (name_len h).2
    by_cases h1 : r.sc = 1
    · have h1' : (r.sc == 1) = true := by rw [h1]; rfl
      by_cases hg : r.gr = []
      · have hg' := beq_nil hg
        refine PL.Pure.of_v Tryz.func60 (by decide) rfl Tryz.ntmps60 Tryz.results60 (by simp) rfl ?_
        simp only [go_sem, ref]
        refine vCall_of (hP) ?_ ?_ ?_; (focus simp only [go_sem, ref]); (focus simp only [go_sem, ref])
        simp only [go_sem, h1', hg', printM, hp, prefixM, h1, hg, List.append_assoc]
        first
          | omega
          | (simp only [List.length_append, List.length_cons, List.length_nil]; omega)
          | (simp; omega)
      · have hg' := beq_nil' hg
        refine PL.Pure.of_v Tryz.func60 (by decide) rfl Tryz.ntmps60 Tryz.results60 (by simp) rfl ?_
        simp only [go_sem, ref]
        refine vCall_of (hP) ?_ ?_ ?_; (focus simp only [go_sem, ref]); (focus simp only [go_sem, ref])
        simp only [go_sem, h1', hg', printM, hp, prefixM, h1, hg, List.append_assoc]
        first
          | omega
          | (simp only [List.length_append, List.length_cons, List.length_nil]; omega)
          | (simp; omega)
    · have h1' : (r.sc == 1) = false := beq_eq_false_iff_ne.2 h1
      by_cases hg : r.gr = []
      · have hg' := beq_nil hg
        refine PL.Pure.of_v Tryz.func60 (by decide) rfl Tryz.ntmps60 Tryz.results60 (by simp) rfl ?_
        simp only [go_sem, ref]
        refine vCall_of (hP) ?_ ?_ ?_; (focus simp only [go_sem, ref]); (focus simp only [go_sem, ref])
        simp only [go_sem, h1', hg', printM, hp, prefixM, h1, hg, List.append_assoc]
        first
          | omega
          | (simp only [List.length_append, List.length_cons, List.length_nil]; omega)
          | (simp; omega)
      · have hg' := beq_nil' hg
        refine PL.Pure.of_v Tryz.func60 (by decide) rfl Tryz.ntmps60 Tryz.results60 (by simp) rfl ?_
        simp only [go_sem, ref]
        refine vCall_of (hP) ?_ ?_ ?_; (focus simp only [go_sem, ref]); (focus simp only [go_sem, ref])
        simp only [go_sem, h1', hg', printM, hp, prefixM, h1, hg, List.append_assoc]
        first
          | omega
          | (simp only [List.length_append, List.length_cons, List.length_nil]; omega)
          | (simp; omega)
structure LnS (l : List Ft) where
  k : Nat
  id : Nat
  hk : k ≤ l.length
  hid : id = 35 ∨ id = 45 ∨ id = 55 ∨ id = 62 ∨ id = 69 ∨ id = 76 ∨ id = 83
set_option maxRecDepth 20000 in
set_option maxHeartbeats 64000000 in
theorem RLines_pure (l : List Ft) (hl : l.length ≤ 2000) : PL.Pure Tryz.prog 22 [fts l] (strs (l.map lineF)) := by
  have hm : l.length ≤ maxLen := by rw [maxLen_eq]; omega
  refine PL.Pure.of_v Tryz.func22 (by decide) rfl Tryz.ntmps22 Tryz.results22 (by simp) (strs_dids _) ?_
  simp only [go_sem, fts]
  refine awp_moveRow 3 7 35 0 1 9 [] rfl rfl rfl ?_
  refine vLoopM (ι := LnS l) 85 (fun x => [(0, fts l), (3, .sl (.row x.id) (((l.take x.k).map lineF).map .str)), (4, .int .i64 (x.k : Int))]) (fun x => []) (fun x => [(x.id, .live x.k 1 9)]) (fun x => l.length - x.k) ⟨0, 35, Nat.zero_le _, .inl rfl⟩
    ⟨rfl, (forall_cons rfl (forall_cons rfl (forall_cons rfl (forall_nil)))), forall_nil, forall_cons rfl forall_nil⟩ (fun x => ⟨(forall_cons rfl (forall_cons (by simp [PV.ids, refInM]) (forall_cons rfl forall_nil))), forall_nil⟩) (fun x => ?_)
  obtain ⟨k, id, hk, hid⟩ := x
  simp only
  by_cases h : (k : Int) < (l.length : Int)
  · have hka : k < l.length := by omega
    have i1 : (0 : Int) ≤ (k : Int) := by omega
    have w1 : IntKind.i64.wrap ((k : Int) + 1) = ((k + 1 : Nat) : Int) := by rw [w64 (by omega)]; rfl
    have hts : (l.take (k + 1)).map lineF = (l.take k).map lineF ++ [lineF (l.getD k default)] := by rw [take_snoc (d := default) hka, List.map_append]; rfl
    have hlk : ((l.take k).map lineF).length = k := by simp; omega
    have hrm := room1 (show k + 1 ≤ 1000000 by omega) (show 16 ≤ 1000 by omega)
    have hP := RPrint_pure (l.getD k default).at'
    have hQ := RPrint_pure (l.getD k default).to
    have l2 := print_len (l.getD k default).at'
    have l3 := print_len (l.getD k default).to
    have hln : lineF (l.getD k default) = wordM (l.getD k default).k ++ ([32] ++ (printM (l.getD k default).at' ++ (if (l.getD k default).k = 1 ∨ (l.getD k default).k = 2 then [32] ++ printM (l.getD k default).to else []))) := rfl
    generalize printM (l.getD k default).at' = p at *
    generalize printM (l.getD k default).to = q at *
    generalize hkk : (l.getD k default).k = kk at *
    have nx : ∀ (s' : St) (id' : Nat), (id' = 35 ∨ id' = 45 ∨ id' = 55 ∨ id' = 62 ∨ id' = 69 ∨ id' = 76 ∨ id' = 83) → Has 85 [(0, fts l), (3, .sl (.row id') (((l.take (k + 1)).map lineF).map .str)), (4, .int .i64 ((k + 1 : Nat) : Int))] [] [(id', .live (k + 1) 1 9)] s' → ∃ x : LnS l, l.length - x.k < l.length - k ∧ Has 85 [(0, fts l), (3, .sl (.row x.id) (((l.take x.k).map lineF).map .str)), (4, .int .i64 (x.k : Int))] [] [(x.id, .live x.k 1 9)] s' := fun s' id' h1 h2 => ⟨⟨k + 1, id', by omega, h1⟩, by show l.length - (k + 1) < l.length - k; omega, h2⟩
    by_cases c1 : (kk == 1) = true
    · have hv : kk = 1 := by simpa using c1
      rw [hv] at hln
      simp only [wordM, Int.reduceEq, if_true, if_false, or_true, true_or, or_self] at hln
      rcases hid with rfl | rfl | rfl | rfl | rfl | rfl | rfl
      all_goals
        simp only [go_sem, fts, h, List.length_map]
        refine vDrawQ (by kernel_rfl) (by kernel_rfl) ?_
        simp only [go_sem, fts, h, List.length_map, getD_ft hka, ft, i1]
        refine vCall_of (hP) ?_ ?_ ?_; (focus simp only [go_sem, ref]); (focus simp only [go_sem, ref])
        simp only [go_sem, fts, h, List.length_map, getD_ft hka, ft, i1]
        refine vCall_of (hQ) ?_ ?_ ?_; (focus simp only [go_sem, ref]); (focus simp only [go_sem, ref])
        simp only [go_sem, fts, h, List.length_map, getD_ft hka, ft, i1, hkk, c1, sized_str, hlk, hrm, w1]
        first
          | (refine nx _ 45 (by simp) ⟨rfl, (forall_cons rfl (forall_cons ?_ (forall_cons rfl forall_nil))), forall_nil, forall_cons rfl forall_nil⟩; show PV.sl _ _ = PV.sl _ _; rw [hts, hln, List.map_append]; simp)
          | (refine ⟨by first | omega | (simp only [List.length_append, List.length_cons, List.length_nil]; omega), ?_⟩; refine nx _ 45 (by simp) ⟨rfl, (forall_cons rfl (forall_cons ?_ (forall_cons rfl forall_nil))), forall_nil, forall_cons rfl forall_nil⟩; show PV.sl _ _ = PV.sl _ _; rw [hts, hln, List.map_append]; simp)
          | (refine ⟨by first | omega | (simp only [List.length_append, List.length_cons, List.length_nil]; omega), by first | omega | (simp only [List.length_append, List.length_cons, List.length_nil]; omega), ?_⟩; refine nx _ 45 (by simp) ⟨rfl, (forall_cons rfl (forall_cons ?_ (forall_cons rfl forall_nil))), forall_nil, forall_cons rfl forall_nil⟩; show PV.sl _ _ = PV.sl _ _; rw [hts, hln, List.map_append]; simp)
          | (refine ⟨by first | omega | (simp only [List.length_append, List.length_cons, List.length_nil]; omega), by first | omega | (simp only [List.length_append, List.length_cons, List.length_nil]; omega), by first | omega | (simp only [List.length_append, List.length_cons, List.length_nil]; omega), ?_⟩; refine nx _ 45 (by simp) ⟨rfl, (forall_cons rfl (forall_cons ?_ (forall_cons rfl forall_nil))), forall_nil, forall_cons rfl forall_nil⟩; show PV.sl _ _ = PV.sl _ _; rw [hts, hln, List.map_append]; simp)
          | trace_state
    rw [Bool.not_eq_true] at c1
    by_cases c2 : (kk == 2) = true
    · have hv : kk = 2 := by simpa using c2
      rw [hv] at hln
      simp only [wordM, Int.reduceEq, if_true, if_false, or_true, true_or, or_self] at hln
      rcases hid with rfl | rfl | rfl | rfl | rfl | rfl | rfl
      all_goals
        simp only [go_sem, fts, h, List.length_map]
        refine vDrawQ (by kernel_rfl) (by kernel_rfl) ?_
        simp only [go_sem, fts, h, List.length_map, getD_ft hka, ft, i1]
        refine vCall_of (hP) ?_ ?_ ?_; (focus simp only [go_sem, ref]); (focus simp only [go_sem, ref])
        simp only [go_sem, fts, h, List.length_map, getD_ft hka, ft, i1]
        refine vCall_of (hQ) ?_ ?_ ?_; (focus simp only [go_sem, ref]); (focus simp only [go_sem, ref])
        simp only [go_sem, fts, h, List.length_map, getD_ft hka, ft, i1, hkk, c1, c2, sized_str, hlk, hrm, w1]
        first
          | (refine nx _ 55 (by simp) ⟨rfl, (forall_cons rfl (forall_cons ?_ (forall_cons rfl forall_nil))), forall_nil, forall_cons rfl forall_nil⟩; show PV.sl _ _ = PV.sl _ _; rw [hts, hln, List.map_append]; simp)
          | (refine ⟨by first | omega | (simp only [List.length_append, List.length_cons, List.length_nil]; omega), ?_⟩; refine nx _ 55 (by simp) ⟨rfl, (forall_cons rfl (forall_cons ?_ (forall_cons rfl forall_nil))), forall_nil, forall_cons rfl forall_nil⟩; show PV.sl _ _ = PV.sl _ _; rw [hts, hln, List.map_append]; simp)
          | (refine ⟨by first | omega | (simp only [List.length_append, List.length_cons, List.length_nil]; omega), by first | omega | (simp only [List.length_append, List.length_cons, List.length_nil]; omega), ?_⟩; refine nx _ 55 (by simp) ⟨rfl, (forall_cons rfl (forall_cons ?_ (forall_cons rfl forall_nil))), forall_nil, forall_cons rfl forall_nil⟩; show PV.sl _ _ = PV.sl _ _; rw [hts, hln, List.map_append]; simp)
          | (refine ⟨by first | omega | (simp only [List.length_append, List.length_cons, List.length_nil]; omega), by first | omega | (simp only [List.length_append, List.length_cons, List.length_nil]; omega), by first | omega | (simp only [List.length_append, List.length_cons, List.length_nil]; omega), ?_⟩; refine nx _ 55 (by simp) ⟨rfl, (forall_cons rfl (forall_cons ?_ (forall_cons rfl forall_nil))), forall_nil, forall_cons rfl forall_nil⟩; show PV.sl _ _ = PV.sl _ _; rw [hts, hln, List.map_append]; simp)
          | trace_state
    rw [Bool.not_eq_true] at c2
    by_cases c3 : (kk == 3) = true
    · have hv : kk = 3 := by simpa using c3
      rw [hv] at hln
      simp only [wordM, Int.reduceEq, if_true, if_false, or_true, true_or, or_self] at hln
      rcases hid with rfl | rfl | rfl | rfl | rfl | rfl | rfl
      all_goals
        simp only [go_sem, fts, h, List.length_map]
        refine vDrawQ (by kernel_rfl) (by kernel_rfl) ?_
        simp only [go_sem, fts, h, List.length_map, getD_ft hka, ft, i1]
        refine vCall_of (hP) ?_ ?_ ?_; (focus simp only [go_sem, ref]); (focus simp only [go_sem, ref])
        simp only [go_sem, fts, h, List.length_map, getD_ft hka, ft, i1]
        refine vCall_of (hQ) ?_ ?_ ?_; (focus simp only [go_sem, ref]); (focus simp only [go_sem, ref])
        simp only [go_sem, fts, h, List.length_map, getD_ft hka, ft, i1, hkk, c1, c2, c3, sized_str, hlk, hrm, w1]
        first
          | (refine nx _ 62 (by simp) ⟨rfl, (forall_cons rfl (forall_cons ?_ (forall_cons rfl forall_nil))), forall_nil, forall_cons rfl forall_nil⟩; show PV.sl _ _ = PV.sl _ _; rw [hts, hln, List.map_append]; simp)
          | (refine ⟨by first | omega | (simp only [List.length_append, List.length_cons, List.length_nil]; omega), ?_⟩; refine nx _ 62 (by simp) ⟨rfl, (forall_cons rfl (forall_cons ?_ (forall_cons rfl forall_nil))), forall_nil, forall_cons rfl forall_nil⟩; show PV.sl _ _ = PV.sl _ _; rw [hts, hln, List.map_append]; simp)
          | (refine ⟨by first | omega | (simp only [List.length_append, List.length_cons, List.length_nil]; omega), by first | omega | (simp only [List.length_append, List.length_cons, List.length_nil]; omega), ?_⟩; refine nx _ 62 (by simp) ⟨rfl, (forall_cons rfl (forall_cons ?_ (forall_cons rfl forall_nil))), forall_nil, forall_cons rfl forall_nil⟩; show PV.sl _ _ = PV.sl _ _; rw [hts, hln, List.map_append]; simp)
          | (refine ⟨by first | omega | (simp only [List.length_append, List.length_cons, List.length_nil]; omega), by first | omega | (simp only [List.length_append, List.length_cons, List.length_nil]; omega), by first | omega | (simp only [List.length_append, List.length_cons, List.length_nil]; omega), ?_⟩; refine nx _ 62 (by simp) ⟨rfl, (forall_cons rfl (forall_cons ?_ (forall_cons rfl forall_nil))), forall_nil, forall_cons rfl forall_nil⟩; show PV.sl _ _ = PV.sl _ _; rw [hts, hln, List.map_append]; simp)
          | trace_state
    rw [Bool.not_eq_true] at c3
    by_cases c4 : (kk == 4) = true
    · have hv : kk = 4 := by simpa using c4
      rw [hv] at hln
      simp only [wordM, Int.reduceEq, if_true, if_false, or_true, true_or, or_self] at hln
      rcases hid with rfl | rfl | rfl | rfl | rfl | rfl | rfl
      all_goals
        simp only [go_sem, fts, h, List.length_map]
        refine vDrawQ (by kernel_rfl) (by kernel_rfl) ?_
        simp only [go_sem, fts, h, List.length_map, getD_ft hka, ft, i1]
        refine vCall_of (hP) ?_ ?_ ?_; (focus simp only [go_sem, ref]); (focus simp only [go_sem, ref])
        simp only [go_sem, fts, h, List.length_map, getD_ft hka, ft, i1]
        refine vCall_of (hQ) ?_ ?_ ?_; (focus simp only [go_sem, ref]); (focus simp only [go_sem, ref])
        simp only [go_sem, fts, h, List.length_map, getD_ft hka, ft, i1, hkk, c1, c2, c3, c4, sized_str, hlk, hrm, w1]
        first
          | (refine nx _ 69 (by simp) ⟨rfl, (forall_cons rfl (forall_cons ?_ (forall_cons rfl forall_nil))), forall_nil, forall_cons rfl forall_nil⟩; show PV.sl _ _ = PV.sl _ _; rw [hts, hln, List.map_append]; simp)
          | (refine ⟨by first | omega | (simp only [List.length_append, List.length_cons, List.length_nil]; omega), ?_⟩; refine nx _ 69 (by simp) ⟨rfl, (forall_cons rfl (forall_cons ?_ (forall_cons rfl forall_nil))), forall_nil, forall_cons rfl forall_nil⟩; show PV.sl _ _ = PV.sl _ _; rw [hts, hln, List.map_append]; simp)
          | (refine ⟨by first | omega | (simp only [List.length_append, List.length_cons, List.length_nil]; omega), by first | omega | (simp only [List.length_append, List.length_cons, List.length_nil]; omega), ?_⟩; refine nx _ 69 (by simp) ⟨rfl, (forall_cons rfl (forall_cons ?_ (forall_cons rfl forall_nil))), forall_nil, forall_cons rfl forall_nil⟩; show PV.sl _ _ = PV.sl _ _; rw [hts, hln, List.map_append]; simp)
          | (refine ⟨by first | omega | (simp only [List.length_append, List.length_cons, List.length_nil]; omega), by first | omega | (simp only [List.length_append, List.length_cons, List.length_nil]; omega), by first | omega | (simp only [List.length_append, List.length_cons, List.length_nil]; omega), ?_⟩; refine nx _ 69 (by simp) ⟨rfl, (forall_cons rfl (forall_cons ?_ (forall_cons rfl forall_nil))), forall_nil, forall_cons rfl forall_nil⟩; show PV.sl _ _ = PV.sl _ _; rw [hts, hln, List.map_append]; simp)
          | trace_state
    rw [Bool.not_eq_true] at c4
    by_cases c5 : (kk == 5) = true
    · have hv : kk = 5 := by simpa using c5
      rw [hv] at hln
      simp only [wordM, Int.reduceEq, if_true, if_false, or_true, true_or, or_self] at hln
      rcases hid with rfl | rfl | rfl | rfl | rfl | rfl | rfl
      all_goals
        simp only [go_sem, fts, h, List.length_map]
        refine vDrawQ (by kernel_rfl) (by kernel_rfl) ?_
        simp only [go_sem, fts, h, List.length_map, getD_ft hka, ft, i1]
        refine vCall_of (hP) ?_ ?_ ?_; (focus simp only [go_sem, ref]); (focus simp only [go_sem, ref])
        simp only [go_sem, fts, h, List.length_map, getD_ft hka, ft, i1]
        refine vCall_of (hQ) ?_ ?_ ?_; (focus simp only [go_sem, ref]); (focus simp only [go_sem, ref])
        simp only [go_sem, fts, h, List.length_map, getD_ft hka, ft, i1, hkk, c1, c2, c3, c4, c5, sized_str, hlk, hrm, w1]
        first
          | (refine nx _ 76 (by simp) ⟨rfl, (forall_cons rfl (forall_cons ?_ (forall_cons rfl forall_nil))), forall_nil, forall_cons rfl forall_nil⟩; show PV.sl _ _ = PV.sl _ _; rw [hts, hln, List.map_append]; simp)
          | (refine ⟨by first | omega | (simp only [List.length_append, List.length_cons, List.length_nil]; omega), ?_⟩; refine nx _ 76 (by simp) ⟨rfl, (forall_cons rfl (forall_cons ?_ (forall_cons rfl forall_nil))), forall_nil, forall_cons rfl forall_nil⟩; show PV.sl _ _ = PV.sl _ _; rw [hts, hln, List.map_append]; simp)
          | (refine ⟨by first | omega | (simp only [List.length_append, List.length_cons, List.length_nil]; omega), by first | omega | (simp only [List.length_append, List.length_cons, List.length_nil]; omega), ?_⟩; refine nx _ 76 (by simp) ⟨rfl, (forall_cons rfl (forall_cons ?_ (forall_cons rfl forall_nil))), forall_nil, forall_cons rfl forall_nil⟩; show PV.sl _ _ = PV.sl _ _; rw [hts, hln, List.map_append]; simp)
          | (refine ⟨by first | omega | (simp only [List.length_append, List.length_cons, List.length_nil]; omega), by first | omega | (simp only [List.length_append, List.length_cons, List.length_nil]; omega), by first | omega | (simp only [List.length_append, List.length_cons, List.length_nil]; omega), ?_⟩; refine nx _ 76 (by simp) ⟨rfl, (forall_cons rfl (forall_cons ?_ (forall_cons rfl forall_nil))), forall_nil, forall_cons rfl forall_nil⟩; show PV.sl _ _ = PV.sl _ _; rw [hts, hln, List.map_append]; simp)
          | trace_state
    rw [Bool.not_eq_true] at c5
    by_cases c6 : (kk == 6) = true
    · have hv : kk = 6 := by simpa using c6
      rw [hv] at hln
      simp only [wordM, Int.reduceEq, if_true, if_false, or_true, true_or, or_self] at hln
      rcases hid with rfl | rfl | rfl | rfl | rfl | rfl | rfl
      all_goals
        simp only [go_sem, fts, h, List.length_map]
        refine vDrawQ (by kernel_rfl) (by kernel_rfl) ?_
        simp only [go_sem, fts, h, List.length_map, getD_ft hka, ft, i1]
        refine vCall_of (hP) ?_ ?_ ?_; (focus simp only [go_sem, ref]); (focus simp only [go_sem, ref])
        simp only [go_sem, fts, h, List.length_map, getD_ft hka, ft, i1]
        refine vCall_of (hQ) ?_ ?_ ?_; (focus simp only [go_sem, ref]); (focus simp only [go_sem, ref])
        simp only [go_sem, fts, h, List.length_map, getD_ft hka, ft, i1, hkk, c1, c2, c3, c4, c5, c6, sized_str, hlk, hrm, w1]
        first
          | (refine nx _ 83 (by simp) ⟨rfl, (forall_cons rfl (forall_cons ?_ (forall_cons rfl forall_nil))), forall_nil, forall_cons rfl forall_nil⟩; show PV.sl _ _ = PV.sl _ _; rw [hts, hln, List.map_append]; simp)
          | (refine ⟨by first | omega | (simp only [List.length_append, List.length_cons, List.length_nil]; omega), ?_⟩; refine nx _ 83 (by simp) ⟨rfl, (forall_cons rfl (forall_cons ?_ (forall_cons rfl forall_nil))), forall_nil, forall_cons rfl forall_nil⟩; show PV.sl _ _ = PV.sl _ _; rw [hts, hln, List.map_append]; simp)
          | (refine ⟨by first | omega | (simp only [List.length_append, List.length_cons, List.length_nil]; omega), by first | omega | (simp only [List.length_append, List.length_cons, List.length_nil]; omega), ?_⟩; refine nx _ 83 (by simp) ⟨rfl, (forall_cons rfl (forall_cons ?_ (forall_cons rfl forall_nil))), forall_nil, forall_cons rfl forall_nil⟩; show PV.sl _ _ = PV.sl _ _; rw [hts, hln, List.map_append]; simp)
          | (refine ⟨by first | omega | (simp only [List.length_append, List.length_cons, List.length_nil]; omega), by first | omega | (simp only [List.length_append, List.length_cons, List.length_nil]; omega), by first | omega | (simp only [List.length_append, List.length_cons, List.length_nil]; omega), ?_⟩; refine nx _ 83 (by simp) ⟨rfl, (forall_cons rfl (forall_cons ?_ (forall_cons rfl forall_nil))), forall_nil, forall_cons rfl forall_nil⟩; show PV.sl _ _ = PV.sl _ _; rw [hts, hln, List.map_append]; simp)
          | trace_state
    rw [Bool.not_eq_true] at c6
    have hv : wordM kk = [63] := by
      simp only [beq_eq_false_iff_ne, ne_eq] at c1 c2 c3 c4 c5 c6
      simp only [wordM, c1, c2, c3, c4, c5, c6, if_false]
    have hv2 : ¬ (kk = 1 ∨ kk = 2) := by
      simp only [beq_eq_false_iff_ne, ne_eq] at c1 c2
      omega
    rw [hv, if_neg hv2] at hln
    rcases hid with rfl | rfl | rfl | rfl | rfl | rfl | rfl
    all_goals
      simp only [go_sem, fts, h, List.length_map]
      refine vDrawQ (by kernel_rfl) (by kernel_rfl) ?_
      simp only [go_sem, fts, h, List.length_map, getD_ft hka, ft, i1]
      refine vCall_of (hP) ?_ ?_ ?_; (focus simp only [go_sem, ref]); (focus simp only [go_sem, ref])
      simp only [go_sem, fts, h, List.length_map, getD_ft hka, ft, i1]
      refine vCall_of (hQ) ?_ ?_ ?_; (focus simp only [go_sem, ref]); (focus simp only [go_sem, ref])
      simp only [go_sem, fts, h, List.length_map, getD_ft hka, ft, i1, hkk, c1, c2, c3, c4, c5, c6, sized_str, hlk, hrm, w1]
      first
        | (refine nx _ 35 (by simp) ⟨rfl, (forall_cons rfl (forall_cons ?_ (forall_cons rfl forall_nil))), forall_nil, forall_cons rfl forall_nil⟩; show PV.sl _ _ = PV.sl _ _; rw [hts, hln, List.map_append]; simp)
        | (refine ⟨by first | omega | (simp only [List.length_append, List.length_cons, List.length_nil]; omega), ?_⟩; refine nx _ 35 (by simp) ⟨rfl, (forall_cons rfl (forall_cons ?_ (forall_cons rfl forall_nil))), forall_nil, forall_cons rfl forall_nil⟩; show PV.sl _ _ = PV.sl _ _; rw [hts, hln, List.map_append]; simp)
        | (refine ⟨by first | omega | (simp only [List.length_append, List.length_cons, List.length_nil]; omega), by first | omega | (simp only [List.length_append, List.length_cons, List.length_nil]; omega), ?_⟩; refine nx _ 35 (by simp) ⟨rfl, (forall_cons rfl (forall_cons ?_ (forall_cons rfl forall_nil))), forall_nil, forall_cons rfl forall_nil⟩; show PV.sl _ _ = PV.sl _ _; rw [hts, hln, List.map_append]; simp)
        | (refine ⟨by first | omega | (simp only [List.length_append, List.length_cons, List.length_nil]; omega), by first | omega | (simp only [List.length_append, List.length_cons, List.length_nil]; omega), by first | omega | (simp only [List.length_append, List.length_cons, List.length_nil]; omega), ?_⟩; refine nx _ 35 (by simp) ⟨rfl, (forall_cons rfl (forall_cons ?_ (forall_cons rfl forall_nil))), forall_nil, forall_cons rfl forall_nil⟩; show PV.sl _ _ = PV.sl _ _; rw [hts, hln, List.map_append]; simp)
        | trace_state
  · obtain rfl : k = l.length := by omega
    have htl : l.take l.length = l := List.take_length
    rcases hid with rfl | rfl | rfl | rfl | rfl | rfl | rfl
    all_goals simp only [go_sem, fts, List.length_map, h, htl, strs]
end Go.Proofs.YtnadlkjmdimjkaaGreat

set_option linter.unusedSimpArgs false
set_option linter.unusedVariables false
set_option linter.unusedSimpArgs false
set_option linter.unusedVariables false
namespace Go.Proofs.YtnadlkjmdimjkaaGreat
open Go.PL
def twA : Eg := ⟨⟨1, 1⟩, default, ⟨6, ⟨1, [], [113, 116, 121]⟩, [117, 110, 105, 116], [98, 111, 120], 12, default, [], []⟩⟩
def twB : Eg := ⟨⟨1, 2⟩, default, ⟨1, ⟨1, [], [110, 111, 116, 101]⟩, [109, 101, 109, 111], [], 0, default, [], []⟩⟩
theorem okTwA : OkLn twA.ln := ⟨by decide, by decide, by decide⟩
theorem okTwB : OkLn twB.ln := ⟨by decide, by decide, by decide⟩
theorem putTA : putM [] twA = ([twA], 0) := by decide +kernel
theorem putTB : putM [twA] twB = ([twA, twB], 0) := by decide +kernel
theorem okTA : OkM [twA] := by have := okPut okM_nil (e := twA) okTwA; rw [putTA] at this; exact this
theorem okTB : OkM [twA, twB] := by have := okPut okTA (e := twB) okTwB; rw [putTB] at this; exact this
theorem rightTB : RightM [twA, twB] := by
  have := rightGrown [twA, twB] right_nil
  have e : List.foldl (fun m e => (putM m e).1) [] [twA, twB] = [twA, twB] := by
    simp only [List.foldl_cons, List.foldl_nil, putTA, putTB]
  rwa [e] at this
theorem fatesTC : (fatesM [twA, twB] default ⟨1, 1⟩).2 = 0 ∧ (fatesM [twA, twB] default ⟨1, 1⟩).1.length = 11 ∧ ((fatesM [twA, twB] default ⟨1, 1⟩).1.getD 2 default).k = 1 ∧ ((fatesM [twA, twB] default ⟨1, 1⟩).1.getD 5 default).k = 4 ∧ ((fatesM [twA, twB] default ⟨1, 1⟩).1.getD 6 default).k = 6 ∧ ((fatesM [twA, twB] default ⟨1, 1⟩).1.getD 10 default).k = 5 := by decide +kernel
theorem twinsTB : pathC [twA, twB] default ⟨1, 2⟩ = 0 ∧ twinsM [twA, twB] default ⟨1, 2⟩ = true := by decide +kernel
theorem nomap_ftsc (x : List Ft × Int) : (ftsc x).nomap = true := by simp only [ftsc, fts, PV.nomap, PV.nomapL, nomapL_map ft (fun _ => rfl), Bool.and_self]
set_option maxRecDepth 20000 in
set_option maxHeartbeats 16000000 in
theorem awake39_pure : PL.Pure Tryz.prog 11 [] (.bool true) := by
  have h1 := put_wr [] twA okM_nil okTwA
  have h2 := put_wr [twA] twB okTA okTwB
  have hF := LFates_pure [twA, twB] default ⟨1, 1⟩ okTB rightTB
  have hT := LTwins_pure [twA, twB] default ⟨1, 2⟩ okTB rightTB
  obtain ⟨f1, f2, f3, f4, f5, f6⟩ := fatesTC
  obtain ⟨t1, t2⟩ := twinsTB
  rw [putTA] at h1
  rw [putTB] at h2
  have hn := nomap_ftsc (fatesM [twA, twB] default ⟨1, 1⟩)
  have e : twinsc [twA, twB] default ⟨1, 2⟩ = .tup [.bool true, .int .i64 0] := by unfold twinsc; rw [t1, t2]; rfl
  rw [e] at hT
  generalize fatesM [twA, twB] default ⟨1, 1⟩ = y at *
  obtain ⟨l, c⟩ := y
  simp only at f1 f2 f3 f4 f5 f6
  subst f1
  have g2 := getD_ft (l := l) (i := 2) (by omega)
  have g5 := getD_ft (l := l) (i := 5) (by omega)
  have g6 := getD_ft (l := l) (i := 6) (by omega)
  have g10 := getD_ft (l := l) (i := 10) (by omega)
  refine PL.Pure.of_vs Tryz.func11 (by decide) rfl Tryz.ntmps11 Tryz.results11 (by simp) rfl ?_
  simp only [go_sem]
  refine vCall_mk mk_new ?_ ?_ (fun b hb => ?_)
  · simp only [go_sem]
  · simp only [go_sem]
  simp only [go_sem]
  refine vCall_wr b h1 ?_ ?_ ?_ ?_
  · simp only [go_sem]
  · simp only [go_sem]
    rfl
  · simp [upd]; rfl
  simp only [go_sem]
  refine vCall_wr b h2 ?_ ?_ ?_ ?_
  · simp only [go_sem]
  · simp only [go_sem]
    rfl
  · simp [upd]
  simp only [go_sem]
  refine vCall_sl hF hn ?_ ?_ ?_
  · simp only [go_sem]
  · simp only [go_sem, mc]
    rfl
  simp only [go_sem, ftsc, fts]
  refine vCall_sl hT rfl ?_ ?_ ?_
  · simp only [go_sem]
  · simp only [go_sem, mc]
    rfl
  simp only [go_sem, List.length_map, f2, g2, g5, g6, g10, ft, f3, f4, f5, f6]
  exact ⟨_, rfl, rfl⟩
set_option maxRecDepth 20000 in
set_option maxHeartbeats 16000000 in
theorem LossFates_pure (l : List Eg) (a b : Tg) (hl : l.length ≤ maxLen) (hx : ∀ e ∈ l, LenLn e.ln) : PL.Pure Tryz.prog 3 [egs l, tg a, tg b] (.bool true) := by
  have hH := RHeavyE_pure l 50 hl hx
  cases hh : heavyE l 50
  · rw [hh] at hH
    obtain ⟨o1, o2⟩ := okL hh
    have hG := Grown_pure l (by omega) o2
    have hm : OkM (grownM l) := okGrown _ okM_nil o2
    have hr : RightM (grownM l) := rightGrown _ right_nil
    generalize grownM l = m at *
    have hF := LFates_pure m a b hm hr
    have hE := RFates_pure m a b hm hr
    have hS := LSafe_pure m a b hm hr
    have hU := RSafe_pure m a b hm hr
    have hV := RSafe_pure m b a hm hr
    have hT := LTwins_pure m a b hm hr
    have hlen := fates_len hm a b
    have hcode := fates_code m a b
    have hc2 : (if pathC m a b ≠ 0 then false else twinsM m a b) = ((if pathC m a b ≠ 0 then false else safeM m a b) && (if pathC m b a ≠ 0 then false else safeM m b a)) := by
      by_cases hc : pathC m a b = 0
      · rw [if_neg (fun h => h hc), if_neg (fun h => h hc), if_neg (fun h => h (path_sym.1 hc))]; rfl
      · rw [if_pos hc, if_pos hc]; rfl
    unfold safec at hS hU hV
    unfold twinsc at hT
    rw [hc2] at hT
    generalize (if pathC m a b ≠ 0 then false else safeM m a b) = s1 at *
    generalize (if pathC m b a ≠ 0 then false else safeM m b a) = s2 at *
    rw [← hcode] at hS hU hT
    generalize pathC m b a = d at *
    generalize fatesM m a b = y at *
    obtain ⟨fs, c⟩ := y
    simp only at hlen hS hU hT
    have hP := LLines_pure fs hlen
    have hQ := RLines_pure fs hlen
    have hN := RFtSame_pure fs fs (by rw [maxLen_eq]; omega) (by rw [maxLen_eq]; omega)
    rw [decide_eq_true rfl] at hN
    have hM := RSame_pure (fs.map lineF) (fs.map lineF) (by rw [List.length_map, maxLen_eq]; omega) (by rw [List.length_map, maxLen_eq]; omega)
    rw [decide_eq_true rfl] at hM
    have n1 : (c == c) = true := by simp
    have n2 : (s1 == s1) = true := by simp
    cases s1
    · refine PL.Pure.of_v Tryz.func3 (by decide) rfl Tryz.ntmps3 Tryz.results3 (by simp) rfl ?_
      simp only [go_sem, egs, tg]
      refine vCall_of (awake39_pure) ?_ ?_ ?_; (focus simp only [go_sem]); (focus simp only [go_sem])
      simp only [go_sem]
      refine vCall_of (hH) ?_ ?_ ?_; (focus simp only [go_sem, egs]); (focus simp only [go_sem, egs])
      simp only [go_sem]
      refine vCall_of (hG) ?_ ?_ ?_; (focus simp only [go_sem, egs]); (focus simp only [go_sem, egs])
      simp only [go_sem, grv]
      refine vCall_of (hF) ?_ ?_ ?_; (focus simp only [go_sem, tr, tg]); (focus simp only [go_sem, tr, tg])
      simp only [go_sem, ftsc, egs]
      refine vCall_of (hE) ?_ ?_ ?_; (focus simp only [go_sem, egs, tg]); (focus simp only [go_sem, egs, tg])
      simp only [go_sem, ftsc, tr]
      refine vCall_of (hS) ?_ ?_ ?_; (focus simp only [go_sem, tr, tg]); (focus simp only [go_sem, tr, tg])
      simp only [go_sem, egs]
      refine vCall_of (hU) ?_ ?_ ?_; (focus simp only [go_sem, egs, tg]); (focus simp only [go_sem, egs, tg])
      simp only [go_sem, egs]
      refine vCall_of (hV) ?_ ?_ ?_; (focus simp only [go_sem, egs, tg]); (focus simp only [go_sem, egs, tg])
      simp only [go_sem, tr]
      refine vCall_of (hT) ?_ ?_ ?_; (focus simp only [go_sem, tr, tg]); (focus simp only [go_sem, tr, tg])
      simp only [go_sem, n1, Bool.false_and]
      refine vCall_of (hN) ?_ ?_ ?_; (focus simp only [go_sem, fts]); (focus simp only [go_sem, fts])
      simp only [go_sem]
      refine vCall_of (hP) ?_ ?_ ?_; (focus simp only [go_sem, fts]); (focus simp only [go_sem, fts])
      simp only [go_sem]
      refine vCall_of (hQ) ?_ ?_ ?_; (focus simp only [go_sem, fts]); (focus simp only [go_sem, fts])
      simp only [go_sem, strs]
      refine vCall_of (hM) ?_ ?_ ?_; (focus simp only [go_sem, strs]); (focus simp only [go_sem, strs])
      simp only [go_sem]
    · have n3 : (s2 == s2) = true := by simp
      refine PL.Pure.of_v Tryz.func3 (by decide) rfl Tryz.ntmps3 Tryz.results3 (by simp) rfl ?_
      simp only [go_sem, egs, tg]
      refine vCall_of (awake39_pure) ?_ ?_ ?_; (focus simp only [go_sem]); (focus simp only [go_sem])
      simp only [go_sem]
      refine vCall_of (hH) ?_ ?_ ?_; (focus simp only [go_sem, egs]); (focus simp only [go_sem, egs])
      simp only [go_sem]
      refine vCall_of (hG) ?_ ?_ ?_; (focus simp only [go_sem, egs]); (focus simp only [go_sem, egs])
      simp only [go_sem, grv]
      refine vCall_of (hF) ?_ ?_ ?_; (focus simp only [go_sem, tr, tg]); (focus simp only [go_sem, tr, tg])
      simp only [go_sem, ftsc, egs]
      refine vCall_of (hE) ?_ ?_ ?_; (focus simp only [go_sem, egs, tg]); (focus simp only [go_sem, egs, tg])
      simp only [go_sem, ftsc, tr]
      refine vCall_of (hS) ?_ ?_ ?_; (focus simp only [go_sem, tr, tg]); (focus simp only [go_sem, tr, tg])
      simp only [go_sem, egs]
      refine vCall_of (hU) ?_ ?_ ?_; (focus simp only [go_sem, egs, tg]); (focus simp only [go_sem, egs, tg])
      simp only [go_sem, egs]
      refine vCall_of (hV) ?_ ?_ ?_; (focus simp only [go_sem, egs, tg]); (focus simp only [go_sem, egs, tg])
      simp only [go_sem, tr]
      refine vCall_of (hT) ?_ ?_ ?_; (focus simp only [go_sem, tr, tg]); (focus simp only [go_sem, tr, tg])
      simp only [go_sem, n1, n3, Bool.true_and]
      refine vCall_of (hN) ?_ ?_ ?_; (focus simp only [go_sem, fts]); (focus simp only [go_sem, fts])
      simp only [go_sem]
      refine vCall_of (hP) ?_ ?_ ?_; (focus simp only [go_sem, fts]); (focus simp only [go_sem, fts])
      simp only [go_sem]
      refine vCall_of (hQ) ?_ ?_ ?_; (focus simp only [go_sem, fts]); (focus simp only [go_sem, fts])
      simp only [go_sem, strs]
      refine vCall_of (hM) ?_ ?_ ?_; (focus simp only [go_sem, strs]); (focus simp only [go_sem, strs])
      simp only [go_sem]
  · rw [hh] at hH
    refine PL.Pure.of_v Tryz.func3 (by decide) rfl Tryz.ntmps3 Tryz.results3 (by simp) rfl ?_
    simp only [go_sem, egs, tg]
    refine vCall_of (awake39_pure) ?_ ?_ ?_; (focus simp only [go_sem]); (focus simp only [go_sem])
    simp only [go_sem]
    refine vCall_of (hH) ?_ ?_ ?_; (focus simp only [go_sem, egs]); (focus simp only [go_sem, egs])
    simp only [go_sem]
end Go.Proofs.YtnadlkjmdimjkaaGreat

set_option linter.unusedSimpArgs false
set_option linter.unusedVariables false
set_option linter.unusedSimpArgs false
set_option linter.unusedVariables false
namespace Go.Proofs.YtnadlkjmdimjkaaGreat
open Go.PL
open Go.ChangeShapes Go.WideShapes Go.ChangeAt Go.RowKit
theorem Tryz.own : ownKnob Tryz.prog.godebug = Option.none := by kernel_rfl
theorem Tryz.laidOut : laidOutB Tryz.prog = true := by kernel_rfl
theorem Tryz.lays : layAll Tryz.prog = true := by kernel_rfl
theorem oddStrs : oddB Tryz.prog 40 = false := by kernel_rfl
theorem oddPrs : oddB Tryz.prog 85 = false := by kernel_rfl
theorem oddEgs : oddB Tryz.prog 22 = false := by kernel_rfl
structure LenLn' (x : Ln) : Prop where
  c : x.fd.cases'.length ≤ maxLen
  f : x.fo.length ≤ maxLen
  b : x.ba.length ≤ maxLen
theorem pt_strs {cs : List PV} (h : PT Tryz.prog 40 cs) : ∃ l : List Str, cs = [.sl .no (l.map .str)] ∧ l.length ≤ maxLen := by
  obtain ⟨l, rfl, h1, h2⟩ := h.slice_inv oddStrs Tryz.underlying40
  obtain ⟨xs, rfl, _⟩ := all_told (enc := PV.str) (Q := fun _ => True) (fun p hp => by
    obtain ⟨s, rfl, _⟩ := (h2 p hp).string Tryz.underlying9
    exact ⟨s, rfl, trivial⟩)
  exact ⟨xs, rfl, by simpa using h1⟩
theorem pt_tag {cs : List PV} (h : PT Tryz.prog 24 cs) : ∃ r : Tg, cs = [.int .i64 r.r, .int .i64 r.n] := by
  have h1 : PTs Tryz.prog [3, 3] cs := h.struct_inv Tryz.underlying24
  obtain ⟨a, b, rfl, h2, h3⟩ := h1.cons_inv
  obtain ⟨c, d, rfl, h4, h5⟩ := h3.cons_inv
  obtain ⟨x, rfl, _⟩ := h2.int_inv Tryz.underlying3
  obtain ⟨y, rfl, _⟩ := h4.int_inv Tryz.underlying3
  rw [h5.nil_inv]
  exact ⟨⟨x, y⟩, rfl⟩
theorem pt_ref {cs : List PV} (h : PT Tryz.prog 44 cs) : ∃ r : Rf, cs = [.int .i64 r.sc, .str r.gr, .str r.nm] := by
  have h1 : PTs Tryz.prog [3, 9, 9] cs := h.struct_inv Tryz.underlying44
  obtain ⟨a, b, rfl, h2, h3⟩ := h1.cons_inv
  obtain ⟨c, d, rfl, h4, h5⟩ := h3.cons_inv
  obtain ⟨e, f, rfl, h6, h7⟩ := h5.cons_inv
  obtain ⟨x, rfl, _⟩ := h2.int_inv Tryz.underlying3
  obtain ⟨y, rfl, _⟩ := h4.string_inv Tryz.underlying9
  obtain ⟨z, rfl, _⟩ := h6.string_inv Tryz.underlying9
  rw [h7.nil_inv]
  exact ⟨⟨x, y, z⟩, rfl⟩
theorem pt_fld {cs : List PV} (h : PT Tryz.prog 84 cs) : ∃ f : Fd, cs = [.int .i64 f.at'.sc, .str f.at'.gr, .str f.at'.nm, .int .i64 f.kind, .str f.df, .sl .no (f.cases'.map .str), .int .i64 f.worth] ∧ f.cases'.length ≤ maxLen := by
  have h1 : PTs Tryz.prog [44, 3, 9, 40, 2] cs := h.struct_inv Tryz.underlying84
  obtain ⟨a1, b1, rfl, h2, h3⟩ := h1.cons_inv
  obtain ⟨a2, b2, rfl, h4, h5⟩ := h3.cons_inv
  obtain ⟨a3, b3, rfl, h6, h7⟩ := h5.cons_inv
  obtain ⟨a4, b4, rfl, h8, h9⟩ := h7.cons_inv
  obtain ⟨a5, b5, rfl, h10, h11⟩ := h9.cons_inv
  obtain ⟨r, rfl⟩ := pt_ref h2
  obtain ⟨x, rfl, _⟩ := h4.int_inv Tryz.underlying3
  obtain ⟨y, rfl, _⟩ := h6.string_inv Tryz.underlying9
  obtain ⟨l, rfl, hl⟩ := pt_strs h8
  obtain ⟨z, rfl, _⟩ := h10.int_inv Tryz.underlying2
  rw [h11.nil_inv]
  exact ⟨⟨r, x, y, l, z⟩, rfl, hl⟩
theorem pa_pair {p : PV} (h : PA Tryz.prog 219 p) : ∃ e : Pr, p = pr e := by
  obtain ⟨cs, rfl, h1⟩ := PA.agg tagg_219 h
  have h1 : PTs Tryz.prog [9, 9] cs := h1.struct_inv Tryz.underlying219
  obtain ⟨a, b, rfl, h2, h3⟩ := h1.cons_inv
  obtain ⟨c, d, rfl, h4, h5⟩ := h3.cons_inv
  obtain ⟨x, rfl, _⟩ := h2.string_inv Tryz.underlying9
  obtain ⟨y, rfl, _⟩ := h4.string_inv Tryz.underlying9
  rw [h5.nil_inv]
  exact ⟨⟨x, y⟩, rfl⟩
theorem pt_prs {cs : List PV} (h : PT Tryz.prog 85 cs) : ∃ l : List Pr, cs = [.sl .no (l.map pr)] ∧ l.length ≤ maxLen := by
  obtain ⟨l, rfl, h1, h2⟩ := h.slice_inv oddPrs Tryz.underlying85
  obtain ⟨xs, rfl, _⟩ := all_told (enc := pr) (Q := fun _ => True) (fun p hp => by
    obtain ⟨s, rfl⟩ := pa_pair (h2 p hp)
    exact ⟨s, rfl, trivial⟩)
  exact ⟨xs, rfl, by simpa using h1⟩
def lncellsG (x : Ln) : List PV := [.int .i64 x.kind, .int .i64 x.at'.sc, .str x.at'.gr, .str x.at'.nm, .str x.nm, .str x.ot, .int .i64 x.fac, .int .i64 x.fd.at'.sc, .str x.fd.at'.gr, .str x.fd.at'.nm, .int .i64 x.fd.kind, .str x.fd.df, .sl .no (x.fd.cases'.map .str), .int .i64 x.fd.worth, .sl .no (x.fo.map pr), .sl .no (x.ba.map pr)]
theorem pt_lens {cs : List PV} (h : PT Tryz.prog 87 cs) : ∃ x : Ln, cs = lncellsG x ∧ LenLn' x := by
  have h1 : PTs Tryz.prog [3, 44, 9, 9, 2, 84, 85, 85] cs := h.struct_inv Tryz.underlying87
  obtain ⟨a1, b1, rfl, h2, h3⟩ := h1.cons_inv
  obtain ⟨a2, b2, rfl, h4, h5⟩ := h3.cons_inv
  obtain ⟨a3, b3, rfl, h6, h7⟩ := h5.cons_inv
  obtain ⟨a4, b4, rfl, h8, h9⟩ := h7.cons_inv
  obtain ⟨a5, b5, rfl, h10, h11⟩ := h9.cons_inv
  obtain ⟨a6, b6, rfl, h12, h13⟩ := h11.cons_inv
  obtain ⟨a7, b7, rfl, h14, h15⟩ := h13.cons_inv
  obtain ⟨a8, b8, rfl, h16, h17⟩ := h15.cons_inv
  obtain ⟨x1, rfl, _⟩ := h2.int_inv Tryz.underlying3
  obtain ⟨x2, rfl⟩ := pt_ref h4
  obtain ⟨x3, rfl, _⟩ := h6.string_inv Tryz.underlying9
  obtain ⟨x4, rfl, _⟩ := h8.string_inv Tryz.underlying9
  obtain ⟨x5, rfl, _⟩ := h10.int_inv Tryz.underlying2
  obtain ⟨x6, rfl, k6⟩ := pt_fld h12
  obtain ⟨x7, rfl, k7⟩ := pt_prs h14
  obtain ⟨x8, rfl, k8⟩ := pt_prs h16
  rw [h17.nil_inv]
  exact ⟨⟨x1, x2, x3, x4, x5, x6, x7, x8⟩, rfl, ⟨k6, k7, k8⟩⟩
theorem pa_edge {p : PV} (h : PA Tryz.prog 89 p) : ∃ e : Eg, p = eg e ∧ LenLn' e.ln := by
  obtain ⟨cs, rfl, h1⟩ := PA.agg tagg_89 h
  have h1 : PTs Tryz.prog [24, 24, 87] cs := h1.struct_inv Tryz.underlying89
  obtain ⟨a1, b1, rfl, h2, h3⟩ := h1.cons_inv
  obtain ⟨a2, b2, rfl, h4, h5⟩ := h3.cons_inv
  obtain ⟨a3, b3, rfl, h6, h7⟩ := h5.cons_inv
  obtain ⟨x1, rfl⟩ := pt_tag h2
  obtain ⟨x2, rfl⟩ := pt_tag h4
  obtain ⟨x3, rfl, k3⟩ := pt_lens h6
  rw [h7.nil_inv]
  exact ⟨⟨x1, x2, x3⟩, rfl, k3⟩
theorem pa_edges {p : PV} (h : PA Tryz.prog 22 p) : ∃ l : List Eg, p = egs l ∧ l.length ≤ maxLen ∧ ∀ e ∈ l, LenLn' e.ln := by
  obtain ⟨l, rfl, h1, h2⟩ := h.slice oddEgs Tryz.underlying22
  obtain ⟨xs, rfl, h3⟩ := all_told (fun p hp => pa_edge (h2 p hp))
  exact ⟨xs, rfl, by simpa using h1, h3⟩
theorem pa_tag {p : PV} (h : PA Tryz.prog 24 p) : ∃ t : Tg, p = tg t := by
  obtain ⟨cs, rfl, h1⟩ := PA.agg tagg_24 h
  obtain ⟨r, rfl⟩ := pt_tag h1
  exact ⟨r, rfl⟩
end Go.Proofs.YtnadlkjmdimjkaaGreat
