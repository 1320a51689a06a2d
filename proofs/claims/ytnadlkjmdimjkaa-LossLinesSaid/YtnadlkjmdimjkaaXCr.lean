/- Contracts of functions and laws of this seat, each for every input that it names: lemmas of the proof. -/
import Derived.Test.YtnadlkjmdimjkaaXCm
import Derived.Test.YtnadlkjmdimjkaaXBm
import Derived.Test.YtnadlkjmdimjkaaXBx
set_option linter.unusedSimpArgs false
set_option linter.unusedVariables false
set_option linter.unusedSimpArgs false
set_option linter.unusedVariables false
namespace Go.Proofs.Ytnadlkjmdimjkaa
open Go.PL
set_option maxRecDepth 20000 in
set_option maxHeartbeats 4000000 in
theorem RPrint_pure (r : Rf) : PL.Pure Try.prog 14 [ref r] (.str (printM r)) := by
  have hP := RPlace_pure r
  cases hp : placeB r
  · rw [hp] at hP
    refine PL.Pure.of_v Try.func14 (by decide) rfl Try.ntmps14 Try.results14 (by simp) rfl ?_
    simp only [go_sem, ref]
    refine vCall_of (hP) ?_ ?_ ?_; (focus simp only [go_sem, ref]); (focus simp only [go_sem, ref])
    simp only [go_sem, printM, hp]
  · rw [hp] at hP
    have hl : r.nm.length ≤ 12 ∧ r.gr.length ≤ 12 := by
      simp only [placeB, Bool.and_eq_true, Bool.or_eq_true, decide_eq_true_eq] at hp
      refine ⟨(name_len hp.2.1).2, ?_⟩
      rcases hp.2.2 with h | h
      · rw [h]; decide
      · exact (name_len h).2
    by_cases h1 : r.sc = 1
    · have h1' : (r.sc == 1) = true := by rw [h1]; rfl
      by_cases hg : r.gr = []
      · have hg' := beq_nil hg
        refine PL.Pure.of_v Try.func14 (by decide) rfl Try.ntmps14 Try.results14 (by simp) rfl ?_
        simp only [go_sem, ref]
        refine vCall_of (hP) ?_ ?_ ?_; (focus simp only [go_sem, ref]); (focus simp only [go_sem, ref])
        simp only [go_sem, h1', hg', printM, hp, prefixM, h1, hg, List.append_assoc]
        first
          | omega
          | (simp only [List.length_append, List.length_cons, List.length_nil]; omega)
          | (simp; omega)
      · have hg' := beq_nil' hg
        refine PL.Pure.of_v Try.func14 (by decide) rfl Try.ntmps14 Try.results14 (by simp) rfl ?_
        simp only [go_sem, ref]
        refine vCall_of (hP) ?_ ?_ ?_; (focus simp only [go_sem, ref]); (focus simp only [go_sem, ref])
        simp only [go_sem, h1', hg', printM, hp, prefixM, h1, hg, List.append_assoc]
        first
          | omega
          | (simp only [List.length_append, List.length_cons, List.length_nil]; omega)
          | (simp; omega)
    · have h1' : (r.sc == 1) = false := beq_eq_false_iff_ne.2 h1
      by_cases hg : r.gr = []
      · have hg' := beq_nil hg
        refine PL.Pure.of_v Try.func14 (by decide) rfl Try.ntmps14 Try.results14 (by simp) rfl ?_
        simp only [go_sem, ref]
        refine vCall_of (hP) ?_ ?_ ?_; (focus simp only [go_sem, ref]); (focus simp only [go_sem, ref])
        simp only [go_sem, h1', hg', printM, hp, prefixM, h1, hg, List.append_assoc]
        first
          | omega
          | (simp only [List.length_append, List.length_cons, List.length_nil]; omega)
          | (simp; omega)
      · have hg' := beq_nil' hg
        refine PL.Pure.of_v Try.func14 (by decide) rfl Try.ntmps14 Try.results14 (by simp) rfl ?_
        simp only [go_sem, ref]
        refine vCall_of (hP) ?_ ?_ ?_; (focus simp only [go_sem, ref]); (focus simp only [go_sem, ref])
        simp only [go_sem, h1', hg', printM, hp, prefixM, h1, hg, List.append_assoc]
        first
          | omega
          | (simp only [List.length_append, List.length_cons, List.length_nil]; omega)
          | (simp; omega)
structure LnS (l : List Ft) where
  k : Nat
  id : Nat
  hk : k ≤ l.length
  hid : id = 35 ∨ id = 45 ∨ id = 55 ∨ id = 62 ∨ id = 69 ∨ id = 76 ∨ id = 83
set_option maxRecDepth 20000 in
set_option maxHeartbeats 64000000 in
theorem RLines_pure (l : List Ft) (hl : l.length ≤ 2000) : PL.Pure Try.prog 7 [fts l] (strs (l.map lineF)) := by
  have hm : l.length ≤ maxLen := by rw [maxLen_eq]; omega
  refine PL.Pure.of_v Try.func7 (by decide) rfl Try.ntmps7 Try.results7 (by simp) (strs_dids _) ?_
  simp only [go_sem, fts]
  refine awp_moveRow 3 7 35 0 1 9 [] rfl rfl rfl ?_
  refine vLoopM (ι := LnS l) 85 (fun x => [(0, fts l), (3, .sl (.row x.id) (((l.take x.k).map lineF).map .str)), (4, .int .i64 (x.k : Int))]) (fun x => []) (fun x => [(x.id, .live x.k 1 9)]) (fun x => l.length - x.k) ⟨0, 35, Nat.zero_le _, .inl rfl⟩
    ⟨rfl, (forall_cons rfl (forall_cons rfl (forall_cons rfl (forall_nil)))), forall_nil, forall_cons rfl forall_nil⟩ (fun x => ⟨(forall_cons rfl (forall_cons (by simp [PV.ids, refInM]) (forall_cons rfl forall_nil))), forall_nil⟩) (fun x => ?_)
  obtain ⟨k, id, hk, hid⟩ := x
  simp only
  by_cases h : (k : Int) < (l.length : Int)
  · have hka : k < l.length := by omega
    have i1 : (0 : Int) ≤ (k : Int) := by omega
    have w1 : IntKind.i64.wrap ((k : Int) + 1) = ((k + 1 : Nat) : Int) := by rw [w64 (by omega)]; rfl
    have hts : (l.take (k + 1)).map lineF = (l.take k).map lineF ++ [lineF (l.getD k default)] := by rw [take_snoc (d := default) hka, List.map_append]; rfl
    have hlk : ((l.take k).map lineF).length = k := by simp; omega
    have hrm := room1 (show k + 1 ≤ 1000000 by omega) (show 16 ≤ 1000 by omega)
    have hP := RPrint_pure (l.getD k default).at'
    have hQ := RPrint_pure (l.getD k default).to
    have l2 := print_len (l.getD k default).at'
    have l3 := print_len (l.getD k default).to
    have hln : lineF (l.getD k default) = wordM (l.getD k default).k ++ ([32] ++ (printM (l.getD k default).at' ++ (if (l.getD k default).k = 1 ∨ (l.getD k default).k = 2 then [32] ++ printM (l.getD k default).to else []))) := rfl
    generalize printM (l.getD k default).at' = p at *
    generalize printM (l.getD k default).to = q at *
    generalize hkk : (l.getD k default).k = kk at *
    have nx : ∀ (s' : St) (id' : Nat), (id' = 35 ∨ id' = 45 ∨ id' = 55 ∨ id' = 62 ∨ id' = 69 ∨ id' = 76 ∨ id' = 83) → Has 85 [(0, fts l), (3, .sl (.row id') (((l.take (k + 1)).map lineF).map .str)), (4, .int .i64 ((k + 1 : Nat) : Int))] [] [(id', .live (k + 1) 1 9)] s' → ∃ x : LnS l, l.length - x.k < l.length - k ∧ Has 85 [(0, fts l), (3, .sl (.row x.id) (((l.take x.k).map lineF).map .str)), (4, .int .i64 (x.k : Int))] [] [(x.id, .live x.k 1 9)] s' := fun s' id' h1 h2 => ⟨⟨k + 1, id', by omega, h1⟩, by show l.length - (k + 1) < l.length - k; omega, h2⟩
    by_cases c1 : (kk == 1) = true
    · have hv : kk = 1 := by simpa using c1
      rw [hv] at hln
      simp only [wordM, Int.reduceEq, if_true, if_false, or_true, true_or, or_self] at hln
      rcases hid with rfl | rfl | rfl | rfl | rfl | rfl | rfl
      all_goals
        simp only [go_sem, fts, h, List.length_map]
        refine vDrawQ (by kernel_rfl) (by kernel_rfl) ?_
        simp only [go_sem, fts, h, List.length_map, getD_ft hka, ft, i1]
        refine vCall_of (hP) ?_ ?_ ?_; (focus simp only [go_sem, ref]); (focus simp only [go_sem, ref])
        simp only [go_sem, fts, h, List.length_map, getD_ft hka, ft, i1]
        refine vCall_of (hQ) ?_ ?_ ?_; (focus simp only [go_sem, ref]); (focus simp only [go_sem, ref])
        simp only [go_sem, fts, h, List.length_map, getD_ft hka, ft, i1, hkk, c1, sized_str, hlk, hrm, w1]
        first
          | (refine nx _ 45 (by simp) ⟨rfl, (forall_cons rfl (forall_cons ?_ (forall_cons rfl forall_nil))), forall_nil, forall_cons rfl forall_nil⟩; show PV.sl _ _ = PV.sl _ _; rw [hts, hln, List.map_append]; simp)
          | (refine ⟨by first | omega | (simp only [List.length_append, List.length_cons, List.length_nil]; omega), ?_⟩; refine nx _ 45 (by simp) ⟨rfl, (forall_cons rfl (forall_cons ?_ (forall_cons rfl forall_nil))), forall_nil, forall_cons rfl forall_nil⟩; show PV.sl _ _ = PV.sl _ _; rw [hts, hln, List.map_append]; simp)
          | (refine ⟨by first | omega | (simp only [List.length_append, List.length_cons, List.length_nil]; omega), by first | omega | (simp only [List.length_append, List.length_cons, List.length_nil]; omega), ?_⟩; refine nx _ 45 (by simp) ⟨rfl, (forall_cons rfl (forall_cons ?_ (forall_cons rfl forall_nil))), forall_nil, forall_cons rfl forall_nil⟩; show PV.sl _ _ = PV.sl _ _; rw [hts, hln, List.map_append]; simp)
          | (refine ⟨by first | omega | (simp only [List.length_append, List.length_cons, List.length_nil]; omega), by first | omega | (simp only [List.length_append, List.length_cons, List.length_nil]; omega), by first | omega | (simp only [List.length_append, List.length_cons, List.length_nil]; omega), ?_⟩; refine nx _ 45 (by simp) ⟨rfl, (forall_cons rfl (forall_cons ?_ (forall_cons rfl forall_nil))), forall_nil, forall_cons rfl forall_nil⟩; show PV.sl _ _ = PV.sl _ _; rw [hts, hln, List.map_append]; simp)
          | trace_state
    rw [Bool.not_eq_true] at c1
    by_cases c2 : (kk == 2) = true
    · have hv : kk = 2 := by simpa using c2
      rw [hv] at hln
      simp only [wordM, Int.reduceEq, if_true, if_false, or_true, true_or, or_self] at hln
      rcases hid with rfl | rfl | rfl | rfl | rfl | rfl | rfl
      all_goals
        simp only [go_sem, fts, h, List.length_map]
        refine vDrawQ (by kernel_rfl) (by kernel_rfl) ?_
        simp only [go_sem, fts, h, List.length_map, getD_ft hka, ft, i1]
        refine vCall_of (hP) ?_ ?_ ?_; (focus simp only [go_sem, ref]); (focus simp only [go_sem, ref])
        simp only [go_sem, fts, h, List.length_map, getD_ft hka, ft, i1]
        refine vCall_of (hQ) ?_ ?_ ?_; (focus simp only [go_sem, ref]); (focus simp only [go_sem, ref])
        simp only [go_sem, fts, h, List.length_map, getD_ft hka, ft, i1, hkk, c1, c2, sized_str, hlk, hrm, w1]
        first
          | (refine nx _ 55 (by simp) ⟨rfl, (forall_cons rfl (forall_cons ?_ (forall_cons rfl forall_nil))), forall_nil, forall_cons rfl forall_nil⟩; show PV.sl _ _ = PV.sl _ _; rw [hts, hln, List.map_append]; simp)
          | (refine ⟨by first | omega | (simp only [List.length_append, List.length_cons, List.length_nil]; omega), ?_⟩; refine nx _ 55 (by simp) ⟨rfl, (forall_cons rfl (forall_cons ?_ (forall_cons rfl forall_nil))), forall_nil, forall_cons rfl forall_nil⟩; show PV.sl _ _ = PV.sl _ _; rw [hts, hln, List.map_append]; simp)
          | (refine ⟨by first | omega | (simp only [List.length_append, List.length_cons, List.length_nil]; omega), by first | omega | (simp only [List.length_append, List.length_cons, List.length_nil]; omega), ?_⟩; refine nx _ 55 (by simp) ⟨rfl, (forall_cons rfl (forall_cons ?_ (forall_cons rfl forall_nil))), forall_nil, forall_cons rfl forall_nil⟩; show PV.sl _ _ = PV.sl _ _; rw [hts, hln, List.map_append]; simp)
          | (refine ⟨by first | omega | (simp only [List.length_append, List.length_cons, List.length_nil]; omega), by first | omega | (simp only [List.length_append, List.length_cons, List.length_nil]; omega), by first | omega | (simp only [List.length_append, List.length_cons, List.length_nil]; omega), ?_⟩; refine nx _ 55 (by simp) ⟨rfl, (forall_cons rfl (forall_cons ?_ (forall_cons rfl forall_nil))), forall_nil, forall_cons rfl forall_nil⟩; show PV.sl _ _ = PV.sl _ _; rw [hts, hln, List.map_append]; simp)
          | trace_state
    rw [Bool.not_eq_true] at c2
    by_cases c3 : (kk == 3) = true
    · have hv : kk = 3 := by simpa using c3
      rw [hv] at hln
      simp only [wordM, Int.reduceEq, if_true, if_false, or_true, true_or, or_self] at hln
      rcases hid with rfl | rfl | rfl | rfl | rfl | rfl | rfl
      all_goals
        simp only [go_sem, fts, h, List.length_map]
        refine vDrawQ (by kernel_rfl) (by kernel_rfl) ?_
        simp only [go_sem, fts, h, List.length_map, getD_ft hka, ft, i1]
        refine vCall_of (hP) ?_ ?_ ?_; (focus simp only [go_sem, ref]); (focus simp only [go_sem, ref])
        simp only [go_sem, fts, h, List.length_map, getD_ft hka, ft, i1]
        refine vCall_of (hQ) ?_ ?_ ?_; (focus simp only [go_sem, ref]); (focus simp only [go_sem, ref])
        simp only [go_sem, fts, h, List.length_map, getD_ft hka, ft, i1, hkk, c1, c2, c3, sized_str, hlk, hrm, w1]
        first
          | (refine nx _ 62 (by simp) ⟨rfl, (forall_cons rfl (forall_cons ?_ (forall_cons rfl forall_nil))), forall_nil, forall_cons rfl forall_nil⟩; show PV.sl _ _ = PV.sl _ _; rw [hts, hln, List.map_append]; simp)
          | (refine ⟨by first | omega | (simp only [List.length_append, List.length_cons, List.length_nil]; omega), ?_⟩; refine nx _ 62 (by simp) ⟨rfl, (forall_cons rfl (forall_cons ?_ (forall_cons rfl forall_nil))), forall_nil, forall_cons rfl forall_nil⟩; show PV.sl _ _ = PV.sl _ _; rw [hts, hln, List.map_append]; simp)
          | (refine ⟨by first | omega | (simp only [List.length_append, List.length_cons, List.length_nil]; omega), by first | omega | (simp only [List.length_append, List.length_cons, List.length_nil]; omega), ?_⟩; refine nx _ 62 (by simp) ⟨rfl, (forall_cons rfl (forall_cons ?_ (forall_cons rfl forall_nil))), forall_nil, forall_cons rfl forall_nil⟩; show PV.sl _ _ = PV.sl _ _; rw [hts, hln, List.map_append]; simp)
          | (refine ⟨by first | omega | (simp only [List.length_append, List.length_cons, List.length_nil]; omega), by first | omega | (simp only [List.length_append, List.length_cons, List.length_nil]; omega), by first | omega | (simp only [List.length_append, List.length_cons, List.length_nil]; omega), ?_⟩; refine nx _ 62 (by simp) ⟨rfl, (forall_cons rfl (forall_cons ?_ (forall_cons rfl forall_nil))), forall_nil, forall_cons rfl forall_nil⟩; show PV.sl _ _ = PV.sl _ _; rw [hts, hln, List.map_append]; simp)
          | trace_state
    rw [Bool.not_eq_true] at c3
    by_cases c4 : (kk == 4) = true
    · have hv : kk = 4 := by simpa using c4
      rw [hv] at hln
      simp only [wordM, Int.reduceEq, if_true, if_false, or_true, true_or, or_self] at hln
      rcases hid with rfl | rfl | rfl | rfl | rfl | rfl | rfl
      all_goals
        simp only [go_sem, fts, h, List.length_map]
        refine vDrawQ (by kernel_rfl) (by kernel_rfl) ?_
        simp only [go_sem, fts, h, List.length_map, getD_ft hka, ft, i1]
        refine vCall_of (hP) ?_ ?_ ?_; (focus simp only [go_sem, ref]); (focus simp only [go_sem, ref])
        simp only [go_sem, fts, h, List.length_map, getD_ft hka, ft, i1]
        refine vCall_of (hQ) ?_ ?_ ?_; (focus simp only [go_sem, ref]); (focus simp only [go_sem, ref])
        simp only [go_sem, fts, h, List.length_map, getD_ft hka, ft, i1, hkk, c1, c2, c3, c4, sized_str, hlk, hrm, w1]
        first
          | (refine nx _ 69 (by simp) ⟨rfl, (forall_cons rfl (forall_cons ?_ (forall_cons rfl forall_nil))), forall_nil, forall_cons rfl forall_nil⟩; show PV.sl _ _ = PV.sl _ _; rw [hts, hln, List.map_append]; simp)
          | (refine ⟨by first | omega | (simp only [List.length_append, List.length_cons, List.length_nil]; omega), ?_⟩; refine nx _ 69 (by simp) ⟨rfl, (forall_cons rfl (forall_cons ?_ (forall_cons rfl forall_nil))), forall_nil, forall_cons rfl forall_nil⟩; show PV.sl _ _ = PV.sl _ _; rw [hts, hln, List.map_append]; simp)
          | (refine ⟨by first | omega | (simp only [List.length_append, List.length_cons, List.length_nil]; omega), by first | omega | (simp only [List.length_append, List.length_cons, List.length_nil]; omega), ?_⟩; refine nx _ 69 (by simp) ⟨rfl, (forall_cons rfl (forall_cons ?_ (forall_cons rfl forall_nil))), forall_nil, forall_cons rfl forall_nil⟩; show PV.sl _ _ = PV.sl _ _; rw [hts, hln, List.map_append]; simp)
          | (refine ⟨by first | omega | (simp only [List.length_append, List.length_cons, List.length_nil]; omega), by first | omega | (simp only [List.length_append, List.length_cons, List.length_nil]; omega), by first | omega | (simp only [List.length_append, List.length_cons, List.length_nil]; omega), ?_⟩; refine nx _ 69 (by simp) ⟨rfl, (forall_cons rfl (forall_cons ?_ (forall_cons rfl forall_nil))), forall_nil, forall_cons rfl forall_nil⟩; show PV.sl _ _ = PV.sl _ _; rw [hts, hln, List.map_append]; simp)
          | trace_state
    rw [Bool.not_eq_true] at c4
    by_cases c5 : (kk == 5) = true
    · have hv : kk = 5 := by simpa using c5
      rw [hv] at hln
      simp only [wordM, Int.reduceEq, if_true, if_false, or_true, true_or, or_self] at hln
      rcases hid with rfl | rfl | rfl | rfl | rfl | rfl | rfl
      all_goals
        simp only [go_sem, fts, h, List.length_map]
        refine vDrawQ (by kernel_rfl) (by kernel_rfl) ?_
        simp only [go_sem, fts, h, List.length_map, getD_ft hka, ft, i1]
        refine vCall_of (hP) ?_ ?_ ?_; (focus simp only [go_sem, ref]); (focus simp only [go_sem, ref])
        simp only [go_sem, fts, h, List.length_map, getD_ft hka, ft, i1]
        refine vCall_of (hQ) ?_ ?_ ?_; (focus simp only [go_sem, ref]); (focus simp only [go_sem, ref])
        simp only [go_sem, fts, h, List.length_map, getD_ft hka, ft, i1, hkk, c1, c2, c3, c4, c5, sized_str, hlk, hrm, w1]
        first
          | (refine nx _ 76 (by simp) ⟨rfl, (forall_cons rfl (forall_cons ?_ (forall_cons rfl forall_nil))), forall_nil, forall_cons rfl forall_nil⟩; show PV.sl _ _ = PV.sl _ _; rw [hts, hln, List.map_append]; simp)
          | (refine ⟨by first | omega | (simp only [List.length_append, List.length_cons, List.length_nil]; omega), ?_⟩; refine nx _ 76 (by simp) ⟨rfl, (forall_cons rfl (forall_cons ?_ (forall_cons rfl forall_nil))), forall_nil, forall_cons rfl forall_nil⟩; show PV.sl _ _ = PV.sl _ _; rw [hts, hln, List.map_append]; simp)
          | (refine ⟨by first | omega | (simp only [List.length_append, List.length_cons, List.length_nil]; omega), by first | omega | (simp only [List.length_append, List.length_cons, List.length_nil]; omega), ?_⟩; refine nx _ 76 (by simp) ⟨rfl, (forall_cons rfl (forall_cons ?_ (forall_cons rfl forall_nil))), forall_nil, forall_cons rfl forall_nil⟩; show PV.sl _ _ = PV.sl _ _; rw [hts, hln, List.map_append]; simp)
          | (refine ⟨by first | omega | (simp only [List.length_append, List.length_cons, List.length_nil]; omega), by first | omega | (simp only [List.length_append, List.length_cons, List.length_nil]; omega), by first | omega | (simp only [List.length_append, List.length_cons, List.length_nil]; omega), ?_⟩; refine nx _ 76 (by simp) ⟨rfl, (forall_cons rfl (forall_cons ?_ (forall_cons rfl forall_nil))), forall_nil, forall_cons rfl forall_nil⟩; show PV.sl _ _ = PV.sl _ _; rw [hts, hln, List.map_append]; simp)
          | trace_state
    rw [Bool.not_eq_true] at c5
    by_cases c6 : (kk == 6) = true
    · have hv : kk = 6 := by simpa using c6
      rw [hv] at hln
      simp only [wordM, Int.reduceEq, if_true, if_false, or_true, true_or, or_self] at hln
      rcases hid with rfl | rfl | rfl | rfl | rfl | rfl | rfl
      all_goals
        simp only [go_sem, fts, h, List.length_map]
        refine vDrawQ (by kernel_rfl) (by kernel_rfl) ?_
        simp only [go_sem, fts, h, List.length_map, getD_ft hka, ft, i1]
        refine vCall_of (hP) ?_ ?_ ?_; (focus simp only [go_sem, ref]); (focus simp only [go_sem, ref])
        simp only [go_sem, fts, h, List.length_map, getD_ft hka, ft, i1]
        refine vCall_of (hQ) ?_ ?_ ?_; (focus simp only [go_sem, ref]); (focus simp only [go_sem, ref])
        simp only [go_sem, fts, h, List.length_map, getD_ft hka, ft, i1, hkk, c1, c2, c3, c4, c5, c6, sized_str, hlk, hrm, w1]
        first
          | (refine nx _ 83 (by simp) ⟨rfl, (forall_cons rfl (forall_cons ?_ (forall_cons rfl forall_nil))), forall_nil, forall_cons rfl forall_nil⟩; show PV.sl _ _ = PV.sl _ _; rw [hts, hln, List.map_append]; simp)
          | (refine ⟨by first | omega | (simp only [List.length_append, List.length_cons, List.length_nil]; omega), ?_⟩; refine nx _ 83 (by simp) ⟨rfl, (forall_cons rfl (forall_cons ?_ (forall_cons rfl forall_nil))), forall_nil, forall_cons rfl forall_nil⟩; show PV.sl _ _ = PV.sl _ _; rw [hts, hln, List.map_append]; simp)
          | (refine ⟨by first | omega | (simp only [List.length_append, List.length_cons, List.length_nil]; omega), by first | omega | (simp only [List.length_append, List.length_cons, List.length_nil]; omega), ?_⟩; refine nx _ 83 (by simp) ⟨rfl, (forall_cons rfl (forall_cons ?_ (forall_cons rfl forall_nil))), forall_nil, forall_cons rfl forall_nil⟩; show PV.sl _ _ = PV.sl _ _; rw [hts, hln, List.map_append]; simp)
          | (refine ⟨by first | omega | (simp only [List.length_append, List.length_cons, List.length_nil]; omega), by first | omega | (simp only [List.length_append, List.length_cons, List.length_nil]; omega), by first | omega | (simp only [List.length_append, List.length_cons, List.length_nil]; omega), ?_⟩; refine nx _ 83 (by simp) ⟨rfl, (forall_cons rfl (forall_cons ?_ (forall_cons rfl forall_nil))), forall_nil, forall_cons rfl forall_nil⟩; show PV.sl _ _ = PV.sl _ _; rw [hts, hln, List.map_append]; simp)
          | trace_state
    rw [Bool.not_eq_true] at c6
    have hv : wordM kk = [63] := by
      simp only [beq_eq_false_iff_ne, ne_eq] at c1 c2 c3 c4 c5 c6
      simp only [wordM, c1, c2, c3, c4, c5, c6, if_false]
    have hv2 : ¬ (kk = 1 ∨ kk = 2) := by
      simp only [beq_eq_false_iff_ne, ne_eq] at c1 c2
      omega
    rw [hv, if_neg hv2] at hln
    rcases hid with rfl | rfl | rfl | rfl | rfl | rfl | rfl
    all_goals
      simp only [go_sem, fts, h, List.length_map]
      refine vDrawQ (by kernel_rfl) (by kernel_rfl) ?_
      simp only [go_sem, fts, h, List.length_map, getD_ft hka, ft, i1]
      refine vCall_of (hP) ?_ ?_ ?_; (focus simp only [go_sem, ref]); (focus simp only [go_sem, ref])
      simp only [go_sem, fts, h, List.length_map, getD_ft hka, ft, i1]
      refine vCall_of (hQ) ?_ ?_ ?_; (focus simp only [go_sem, ref]); (focus simp only [go_sem, ref])
      simp only [go_sem, fts, h, List.length_map, getD_ft hka, ft, i1, hkk, c1, c2, c3, c4, c5, c6, sized_str, hlk, hrm, w1]
      first
        | (refine nx _ 35 (by simp) ⟨rfl, (forall_cons rfl (forall_cons ?_ (forall_cons rfl forall_nil))), forall_nil, forall_cons rfl forall_nil⟩; show PV.sl _ _ = PV.sl _ _; rw [hts, hln, List.map_append]; simp)
        | (refine ⟨by first | omega | (simp only [List.length_append, List.length_cons, List.length_nil]; omega), ?_⟩; refine nx _ 35 (by simp) ⟨rfl, (forall_cons rfl (forall_cons ?_ (forall_cons rfl forall_nil))), forall_nil, forall_cons rfl forall_nil⟩; show PV.sl _ _ = PV.sl _ _; rw [hts, hln, List.map_append]; simp)
        | (refine ⟨by first | omega | (simp only [List.length_append, List.length_cons, List.length_nil]; omega), by first | omega | (simp only [List.length_append, List.length_cons, List.length_nil]; omega), ?_⟩; refine nx _ 35 (by simp) ⟨rfl, (forall_cons rfl (forall_cons ?_ (forall_cons rfl forall_nil))), forall_nil, forall_cons rfl forall_nil⟩; show PV.sl _ _ = PV.sl _ _; rw [hts, hln, List.map_append]; simp)
        | (refine ⟨by first | omega | (simp only [List.length_append, List.length_cons, List.length_nil]; omega), by first | omega | (simp only [List.length_append, List.length_cons, List.length_nil]; omega), by first | omega | (simp only [List.length_append, List.length_cons, List.length_nil]; omega), ?_⟩; refine nx _ 35 (by simp) ⟨rfl, (forall_cons rfl (forall_cons ?_ (forall_cons rfl forall_nil))), forall_nil, forall_cons rfl forall_nil⟩; show PV.sl _ _ = PV.sl _ _; rw [hts, hln, List.map_append]; simp)
        | trace_state
  · obtain rfl : k = l.length := by omega
    have htl : l.take l.length = l := List.take_length
    rcases hid with rfl | rfl | rfl | rfl | rfl | rfl | rfl
    all_goals simp only [go_sem, fts, List.length_map, h, htl, strs]
end Go.Proofs.Ytnadlkjmdimjkaa

set_option linter.unusedSimpArgs false
set_option linter.unusedVariables false
set_option linter.unusedSimpArgs false
set_option linter.unusedVariables false
namespace Go.Proofs.Ytnadlkjmdimjkaa
open Go.PL
def twA : Eg := ⟨⟨1, 1⟩, default, ⟨6, ⟨1, [], [113, 116, 121]⟩, [117, 110, 105, 116], [98, 111, 120], 12, default, [], []⟩⟩
def twB : Eg := ⟨⟨1, 2⟩, default, ⟨1, ⟨1, [], [110, 111, 116, 101]⟩, [109, 101, 109, 111], [], 0, default, [], []⟩⟩
theorem okTwA : OkLn twA.ln := ⟨by decide, by decide, by decide⟩
theorem okTwB : OkLn twB.ln := ⟨by decide, by decide, by decide⟩
theorem putTA : putM [] twA = ([twA], 0) := by decide +kernel
theorem putTB : putM [twA] twB = ([twA, twB], 0) := by decide +kernel
theorem okTA : OkM [twA] := by have := okPut okM_nil (e := twA) okTwA; rw [putTA] at this; exact this
theorem okTB : OkM [twA, twB] := by have := okPut okTA (e := twB) okTwB; rw [putTB] at this; exact this
theorem rightTB : RightM [twA, twB] := by
  have := rightGrown [twA, twB] right_nil
  have e : List.foldl (fun m e => (putM m e).1) [] [twA, twB] = [twA, twB] := by
    simp only [List.foldl_cons, List.foldl_nil, putTA, putTB]
  rwa [e] at this
theorem fatesTC : (fatesM [twA, twB] default ⟨1, 1⟩).2 = 0 ∧ (fatesM [twA, twB] default ⟨1, 1⟩).1.length = 11 ∧ ((fatesM [twA, twB] default ⟨1, 1⟩).1.getD 2 default).k = 1 ∧ ((fatesM [twA, twB] default ⟨1, 1⟩).1.getD 5 default).k = 4 ∧ ((fatesM [twA, twB] default ⟨1, 1⟩).1.getD 6 default).k = 6 ∧ ((fatesM [twA, twB] default ⟨1, 1⟩).1.getD 10 default).k = 5 := by decide +kernel
theorem twinsTB : pathC [twA, twB] default ⟨1, 2⟩ = 0 ∧ twinsM [twA, twB] default ⟨1, 2⟩ = true := by decide +kernel
theorem nomap_ftsc (x : List Ft × Int) : (ftsc x).nomap = true := by simp only [ftsc, fts, PV.nomap, PV.nomapL, nomapL_map ft (fun _ => rfl), Bool.and_self]
set_option maxRecDepth 20000 in
set_option maxHeartbeats 16000000 in
theorem awake39_pure : PL.Pure Try.prog 4 [] (.bool true) := by
  have h1 := put_wr [] twA okM_nil okTwA
  have h2 := put_wr [twA] twB okTA okTwB
  have hF := LFates_pure [twA, twB] default ⟨1, 1⟩ okTB rightTB
  have hT := LTwins_pure [twA, twB] default ⟨1, 2⟩ okTB rightTB
  obtain ⟨f1, f2, f3, f4, f5, f6⟩ := fatesTC
  obtain ⟨t1, t2⟩ := twinsTB
  rw [putTA] at h1
  rw [putTB] at h2
  have hn := nomap_ftsc (fatesM [twA, twB] default ⟨1, 1⟩)
  have e : twinsc [twA, twB] default ⟨1, 2⟩ = .tup [.bool true, .int .i64 0] := by unfold twinsc; rw [t1, t2]; rfl
  rw [e] at hT
  generalize fatesM [twA, twB] default ⟨1, 1⟩ = y at *
  obtain ⟨l, c⟩ := y
  simp only at f1 f2 f3 f4 f5 f6
  subst f1
  have g2 := getD_ft (l := l) (i := 2) (by omega)
  have g5 := getD_ft (l := l) (i := 5) (by omega)
  have g6 := getD_ft (l := l) (i := 6) (by omega)
  have g10 := getD_ft (l := l) (i := 10) (by omega)
  refine PL.Pure.of_vs Try.func4 (by decide) rfl Try.ntmps4 Try.results4 (by simp) rfl ?_
  simp only [go_sem]
  refine vCall_mk mk_new ?_ ?_ (fun b hb => ?_)
  · simp only [go_sem]
  · simp only [go_sem]
  simp only [go_sem]
  refine vCall_wr b h1 ?_ ?_ ?_ ?_
  · simp only [go_sem]
  · simp only [go_sem]
    rfl
  · simp [upd]; rfl
  simp only [go_sem]
  refine vCall_wr b h2 ?_ ?_ ?_ ?_
  · simp only [go_sem]
  · simp only [go_sem]
    rfl
  · simp [upd]
  simp only [go_sem]
  refine vCall_sl hF hn ?_ ?_ ?_
  · simp only [go_sem]
  · simp only [go_sem, mc]
    rfl
  simp only [go_sem, ftsc, fts]
  refine vCall_sl hT rfl ?_ ?_ ?_
  · simp only [go_sem]
  · simp only [go_sem, mc]
    rfl
  simp only [go_sem, List.length_map, f2, g2, g5, g6, g10, ft, f3, f4, f5, f6]
  exact ⟨_, rfl, rfl⟩
end Go.Proofs.Ytnadlkjmdimjkaa

set_option linter.unusedSimpArgs false
set_option linter.unusedVariables false
set_option linter.unusedSimpArgs false
set_option linter.unusedVariables false
namespace Go.Proofs.Ytnadlkjmdimjkaa
open Go.PL
open Go.ChangeShapes Go.WideShapes Go.ChangeAt Go.RowKit
theorem oddFts : oddB Try.prog 22 = false := by kernel_rfl
theorem pa_fate {p : PV} (h : PA Try.prog 27 p) : ∃ x : Ft, p = ft x := by
  obtain ⟨cs, rfl, h1⟩ := PA.agg tagg_27 h
  have h1 : PTs Try.prog [3, 25, 25] cs := h1.struct_inv Try.underlying27
  obtain ⟨a1, b1, rfl, h2, h3⟩ := h1.cons_inv
  obtain ⟨a2, b2, rfl, h4, h5⟩ := h3.cons_inv
  obtain ⟨a3, b3, rfl, h6, h7⟩ := h5.cons_inv
  obtain ⟨x1, rfl, _⟩ := h2.int_inv Try.underlying3
  obtain ⟨x2, rfl⟩ := pt_ref h4
  obtain ⟨x3, rfl⟩ := pt_ref h6
  rw [h7.nil_inv]
  exact ⟨⟨x1, x2, x3⟩, rfl⟩
theorem pa_fates {p : PV} (h : PA Try.prog 22 p) : ∃ l : List Ft, p = fts l ∧ l.length ≤ maxLen := by
  obtain ⟨l, rfl, h1, h2⟩ := h.slice oddFts Try.underlying22
  obtain ⟨xs, rfl, _⟩ := all_told (enc := ft) (Q := fun _ => True) (fun p hp => by
    obtain ⟨x, rfl⟩ := pa_fate (h2 p hp)
    exact ⟨x, rfl, trivial⟩)
  exact ⟨xs, rfl, by simpa using h1⟩
end Go.Proofs.Ytnadlkjmdimjkaa

set_option linter.unusedSimpArgs false
set_option linter.unusedVariables false
set_option linter.unusedSimpArgs false
set_option linter.unusedVariables false
namespace Go.Proofs.Ytnadlkjmdimjkaa
open Go.PL
set_option maxRecDepth 20000 in
set_option maxHeartbeats 16000000 in
theorem LossLines_pure (l : List Ft) (hl : l.length ≤ maxLen) : PL.Pure Try.prog 3 [fts l] (.bool true) := by
  by_cases h40 : 40 < (l.length : Int)
  · refine PL.Pure.of_v Try.func3 (by decide) rfl Try.ntmps3 Try.results3 (by simp) rfl ?_
    simp only [go_sem, fts]
    refine vCall_of (awake39_pure) ?_ ?_ ?_; (focus simp only [go_sem]); (focus simp only [go_sem])
    simp only [go_sem, List.length_map, h40]
  · have hP := LLines_pure l (by omega)
    have hQ := RLines_pure l (by omega)
    have hM := RSame_pure (l.map lineF) (l.map lineF) (by rw [List.length_map, maxLen_eq]; omega) (by rw [List.length_map, maxLen_eq]; omega)
    rw [decide_eq_true rfl] at hM
    refine PL.Pure.of_v Try.func3 (by decide) rfl Try.ntmps3 Try.results3 (by simp) rfl ?_
    simp only [go_sem, fts]
    refine vCall_of (awake39_pure) ?_ ?_ ?_; (focus simp only [go_sem]); (focus simp only [go_sem])
    simp only [go_sem, List.length_map, h40]
    refine vLoopM (ι := { x : Nat // x ≤ (l).length }) 52 (fun x => [(0, fts l), (3, .int .i64 (x.1 : Int))]) (fun x => []) (fun x => []) (fun x => (l).length - x.1) ⟨0, Nat.zero_le _⟩ ⟨rfl, (forall_cons rfl (forall_cons rfl forall_nil)), forall_nil, forall_nil⟩ (fun x => ⟨(forall_cons rfl (forall_cons rfl forall_nil)), forall_nil⟩) (fun x => ?_); obtain ⟨k, hk⟩ := x; simp only at hk ⊢
    by_cases h : (k : Int) < (l.length : Int)
    · (have hka : k < (l).length := by omega); (have w1 := w64s hka (hl)); (have i1 : (0 : Int) ≤ (k : Int) := by omega)
      by_cases hs : 200 < IntKind.i64.wrap (IntKind.i64.wrap (IntKind.i64.wrap (((l.getD k default).at'.gr.length : Int) + ((l.getD k default).at'.nm.length : Int)) + ((l.getD k default).to.gr.length : Int)) + ((l.getD k default).to.nm.length : Int))
      · simp only [go_sem, fts, h, List.length_map]
        refine vDrawQ (by kernel_rfl) (by kernel_rfl) ?_
        simp only [go_sem, fts, h, List.length_map, getD_ft hka, ft, i1, hs]
      · simp only [go_sem, fts, h, List.length_map]
        refine vDrawQ (by kernel_rfl) (by kernel_rfl) ?_
        simp only [go_sem, fts, h, List.length_map, getD_ft hka, ft, i1, hs, w1]
        exact ⟨⟨k + 1, by (try simp only); omega⟩, by show (l).length - (k + 1) < (l).length - k; omega, ⟨rfl, (forall_cons rfl (forall_cons rfl forall_nil)), forall_nil, forall_nil⟩⟩
    · simp only [go_sem, fts, h, List.length_map]
      refine vCall_of (hP) ?_ ?_ ?_; (focus simp only [go_sem, fts]); (focus simp only [go_sem, fts])
      simp only [go_sem, fts]
      refine vCall_of (hQ) ?_ ?_ ?_; (focus simp only [go_sem, fts]); (focus simp only [go_sem, fts])
      simp only [go_sem, strs]
      refine vCall_of (hM) ?_ ?_ ?_; (focus simp only [go_sem, strs]); (focus simp only [go_sem, strs])
      simp only [go_sem]
end Go.Proofs.Ytnadlkjmdimjkaa
