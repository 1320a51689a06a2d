/- Contracts of functions and laws of this seat, each for every input that it names: lemmas of the proof. -/
import Derived.Test.YtbojhapdidieoaaEb
set_option linter.unusedSimpArgs false
set_option linter.unusedVariables false
set_option linter.unusedSimpArgs false
set_option linter.unusedVariables false
namespace Go.Proofs.Ytbojhapdidieoaa
open Go.PL
def caseM (l : List Pr) (s : Str) : Str × Bool := match l.find? (fun p => p.fr' == s) with | some p => (p.to', true) | none => ([], false)
def strb (x : Str × Bool) : PV := .tup [.str x.1, .bool x.2]
theorem find_found {α : Type} {p : α → Bool} {l : List α} {k : Nat} {d : α} (hk : k < l.length) (h : ∀ j, j < k → p (l.getD j d) = false) (hp : p (l.getD k d) = true) : l.find? p = some (l.getD k d) := by
  have h1 := idx_found hk h hp
  rw [List.find?_eq_some_iff_getElem]
  refine ⟨hp, k, hk, by rw [List.getD_eq_getElem?_getD, List.getElem?_eq_getElem hk]; rfl, fun j hj => ?_⟩
  have := h j hj
  rw [List.getD_eq_getElem?_getD, List.getElem?_eq_getElem (by omega)] at this
  simpa using this
theorem find_none {α : Type} {p : α → Bool} {l : List α} {d : α} (h : ∀ j, j < l.length → p (l.getD j d) = false) : l.find? p = none := by
  rw [List.find?_eq_none]
  intro x hx
  obtain ⟨j, hj, rfl⟩ := List.getElem_of_mem hx
  have := h j hj
  rw [List.getD_eq_getElem?_getD, List.getElem?_eq_getElem hj] at this
  simpa using this
set_option maxHeartbeats 1000000 in
theorem Case_pure (l : List Pr) (s : Str) (hl : l.length ≤ maxLen) : PL.Pure Try.prog 122 [prs l, .str s] (strb (caseM l s)) := by
  refine PL.Pure.of_v Try.func122 (by decide) rfl Try.ntmps122 Try.results122 (by simp) rfl ?_
  simp only [go_sem, reduceIte, Nat.reduceEqDiff, reduceCtorEq, Nat.reduceLT, Nat.reduceAdd, Nat.reduceSub, Nat.reduceMul, Nat.reduceLeDiff, Int.reduceLT, Int.reduceLE, Int.reduceToNat, Int.reduceEq, Int.reduceAdd, Int.reduceSub, Int.reduceNeg, Int.reduceBNe, Int.reduceBEq, prs]
  refine vLoopM (ι := { x : Nat // x ≤ (l).length ∧ (∀ j, j < x → ((l.getD j default).fr' == s) = false) }) 21 (fun x => [(1, .str s), (8, prs l), (9, .int .i64 (l.length : Int)), (10, .int .i64 (x.1 : Int))]) (fun x => []) (fun x => []) (fun x => (l).length - x.1) ⟨0, Nat.zero_le _, fun j hj => absurd hj (Nat.not_lt_zero j)⟩ ⟨rfl, (forall_cons rfl (forall_cons rfl (forall_cons rfl (forall_cons rfl forall_nil)))), forall_nil, forall_nil⟩ (fun x => ⟨(forall_cons rfl (forall_cons rfl (forall_cons rfl (forall_cons rfl forall_nil)))), forall_nil⟩) (fun x => ?_); obtain ⟨k, hk, hI⟩ := x; simp only at hk hI ⊢
  by_cases h : (k : Int) < (l.length : Int)
  · (have hka : k < (l).length := by omega); (have w1 := w64s hka (hl)); (have i1 : (0 : Int) ≤ (k : Int) := by omega)
    cases he : ((l.getD k default).fr' == s)
    · simp only [go_sem, reduceIte, Nat.reduceEqDiff, reduceCtorEq, Nat.reduceLT, Nat.reduceAdd, Nat.reduceSub, Nat.reduceMul, Nat.reduceLeDiff, Int.reduceLT, Int.reduceLE, Int.reduceToNat, Int.reduceEq, Int.reduceAdd, Int.reduceSub, Int.reduceNeg, Int.reduceBNe, Int.reduceBEq, prs, h, getD_pr hka, pr, i1, he, w1]
      exact ⟨⟨k + 1, by (try simp only); omega, below_succ hI he⟩, by show (l).length - (k + 1) < (l).length - k; omega, ⟨rfl, (forall_cons rfl (forall_cons rfl (forall_cons rfl (forall_cons rfl forall_nil)))), forall_nil, forall_nil⟩⟩
    · have hx := find_found (p := fun p : Pr => p.fr' == s) hka hI he
      simp only [go_sem, reduceIte, Nat.reduceEqDiff, reduceCtorEq, Nat.reduceLT, Nat.reduceAdd, Nat.reduceSub, Nat.reduceMul, Nat.reduceLeDiff, Int.reduceLT, Int.reduceLE, Int.reduceToNat, Int.reduceEq, Int.reduceAdd, Int.reduceSub, Int.reduceNeg, Int.reduceBNe, Int.reduceBEq, prs, h, getD_pr hka, pr, i1, he, strb, caseM, hx]
  · have hx := find_none (p := fun p : Pr => p.fr' == s) (d := default) (l := l) (fun j hj => hI j (by omega))
    simp only [go_sem, reduceIte, Nat.reduceEqDiff, reduceCtorEq, Nat.reduceLT, Nat.reduceAdd, Nat.reduceSub, Nat.reduceMul, Nat.reduceLeDiff, Int.reduceLT, Int.reduceLE, Int.reduceToNat, Int.reduceEq, Int.reduceAdd, Int.reduceSub, Int.reduceNeg, Int.reduceBNe, Int.reduceBEq, prs, h, strb, caseM, hx]
set_option maxHeartbeats 1000000 in
theorem RCase_pure (l : List Pr) (s : Str) (hl : l.length ≤ maxLen) : PL.Pure Try.prog 135 [prs l, .str s] (strb (caseM l s)) := by
  refine PL.Pure.of_v Try.func135 (by decide) rfl Try.ntmps135 Try.results135 (by simp) rfl ?_
  simp only [go_sem, reduceIte, Nat.reduceEqDiff, reduceCtorEq, Nat.reduceLT, Nat.reduceAdd, Nat.reduceSub, Nat.reduceMul, Nat.reduceLeDiff, Int.reduceLT, Int.reduceLE, Int.reduceToNat, Int.reduceEq, Int.reduceAdd, Int.reduceSub, Int.reduceNeg, Int.reduceBNe, Int.reduceBEq, prs]
  refine vLoopM (ι := { x : Nat // x ≤ (l).length ∧ (∀ j, j < x → ((l.getD j default).fr' == s) = false) }) 25 (fun x => [(0, prs l), (1, .str s), (6, .int .i64 (x.1 : Int))]) (fun x => []) (fun x => []) (fun x => (l).length - x.1) ⟨0, Nat.zero_le _, fun j hj => absurd hj (Nat.not_lt_zero j)⟩ ⟨rfl, (forall_cons rfl (forall_cons rfl (forall_cons rfl forall_nil))), forall_nil, forall_nil⟩ (fun x => ⟨(forall_cons rfl (forall_cons rfl (forall_cons rfl forall_nil))), forall_nil⟩) (fun x => ?_); obtain ⟨k, hk, hI⟩ := x; simp only at hk hI ⊢
  by_cases h : (k : Int) < (l.length : Int)
  · (have hka : k < (l).length := by omega); (have w1 := w64s hka (hl)); (have i1 : (0 : Int) ≤ (k : Int) := by omega)
    cases he : ((l.getD k default).fr' == s)
    · simp only [go_sem, reduceIte, Nat.reduceEqDiff, reduceCtorEq, Nat.reduceLT, Nat.reduceAdd, Nat.reduceSub, Nat.reduceMul, Nat.reduceLeDiff, Int.reduceLT, Int.reduceLE, Int.reduceToNat, Int.reduceEq, Int.reduceAdd, Int.reduceSub, Int.reduceNeg, Int.reduceBNe, Int.reduceBEq, prs, h, getD_pr hka, pr, i1, he, w1]
      exact ⟨⟨k + 1, by (try simp only); omega, below_succ hI he⟩, by show (l).length - (k + 1) < (l).length - k; omega, ⟨rfl, (forall_cons rfl (forall_cons rfl (forall_cons rfl forall_nil))), forall_nil, forall_nil⟩⟩
    · have hx := find_found (p := fun p : Pr => p.fr' == s) hka hI he
      simp only [go_sem, reduceIte, Nat.reduceEqDiff, reduceCtorEq, Nat.reduceLT, Nat.reduceAdd, Nat.reduceSub, Nat.reduceMul, Nat.reduceLeDiff, Int.reduceLT, Int.reduceLE, Int.reduceToNat, Int.reduceEq, Int.reduceAdd, Int.reduceSub, Int.reduceNeg, Int.reduceBNe, Int.reduceBEq, prs, h, getD_pr hka, pr, i1, he, strb, caseM, hx]
  · have hx := find_none (p := fun p : Pr => p.fr' == s) (d := default) (l := l) (fun j hj => hI j (by omega))
    simp only [go_sem, reduceIte, Nat.reduceEqDiff, reduceCtorEq, Nat.reduceLT, Nat.reduceAdd, Nat.reduceSub, Nat.reduceMul, Nat.reduceLeDiff, Int.reduceLT, Int.reduceLE, Int.reduceToNat, Int.reduceEq, Int.reduceAdd, Int.reduceSub, Int.reduceNeg, Int.reduceBNe, Int.reduceBEq, prs, h, strb, caseM, hx]
theorem map_snoc {α β : Type} [Inhabited α] (f : α → β) {l : List α} {k : Nat} (h : k < l.length) : (l.take (k + 1)).map f = (l.take k).map f ++ [f (l.getD k default)] := by
  rw [take_snoc h (d := default), List.map_append]; rfl
theorem take_le_len {α : Type} (l : List α) (k : Nat) : (l.take k).length ≤ l.length := by rw [List.length_take]; omega
def fromsM (l : List Pr) : List Str := l.map (·.fr')
set_option maxHeartbeats 1000000 in
theorem froms_pure (l : List Pr) (hl : l.length ≤ 1000000) : PL.Pure Try.prog 113 [prs l] (strs (fromsM l)) := by
  have hm : l.length ≤ maxLen := by rw [maxLen_eq]; omega
  have hr0 := room1 hl (show 16 ≤ 1000 by omega)
  refine PL.Pure.of_v Try.func113 (by decide) rfl Try.ntmps113 Try.results113 (by simp) (strs_dids _) ?_
  simp only [go_sem, reduceIte, Nat.reduceEqDiff, reduceCtorEq, Nat.reduceLT, Nat.reduceAdd, Nat.reduceSub, Nat.reduceMul, Nat.reduceLeDiff, Int.reduceLT, Int.reduceLE, Int.reduceToNat, Int.reduceEq, Int.reduceAdd, Int.reduceSub, Int.reduceNeg, Int.reduceBNe, Int.reduceBEq, prs, hr0, hm]
  refine ⟨by omega, ?_⟩
  refine awp_moveRow 3 8 19 0 1 9 [] rfl rfl rfl ?_
  refine vLoopM (ι := { x : Nat × (List Str) // x.1 ≤ (l).length ∧ (x.2 = (l.take x.1).map (·.fr')) }) 22 (fun x => [(3, .sl (.row 19) (x.1.2.map .str)), (9, prs l), (10, .int .i64 (l.length : Int)), (11, .int .i64 (x.1.1 : Int))]) (fun x => []) (fun x => [(19, .live (x.1.2.length) (1) (9))]) (fun x => (l).length - x.1.1) ⟨(0, []), Nat.zero_le _, rfl⟩ ⟨rfl, (forall_cons rfl (forall_cons rfl (forall_cons rfl (forall_cons rfl forall_nil)))), forall_nil, (forall_cons rfl forall_nil)⟩ (fun x => ⟨(forall_cons (by simp [PV.ids, refInM]) (forall_cons rfl (forall_cons rfl (forall_cons rfl forall_nil)))), forall_nil⟩) (fun x => ?_); obtain ⟨⟨k, acc⟩, hk, hI⟩ := x; simp only at hk hI ⊢
  have hacc : acc.length ≤ l.length := by rw [hI, List.length_map]; exact take_le_len _ _
  by_cases h : (k : Int) < (l.length : Int)
  · (have hka : k < (l).length := by omega); (have w1 := w64s hka (hm)); (have i1 : (0 : Int) ≤ (k : Int) := by omega)
    have hr := room1 (show acc.length + 1 ≤ 1000000 by rw [hI, List.length_map, List.length_take]; omega) (show 16 ≤ 1000 by omega)
    simp only [go_sem, reduceIte, Nat.reduceEqDiff, reduceCtorEq, Nat.reduceLT, Nat.reduceAdd, Nat.reduceSub, Nat.reduceMul, Nat.reduceLeDiff, Int.reduceLT, Int.reduceLE, Int.reduceToNat, Int.reduceEq, Int.reduceAdd, Int.reduceSub, Int.reduceNeg, Int.reduceBNe, Int.reduceBEq, prs, h, getD_pr hka, pr, i1, sized_str, hr, w1]
    exact ⟨⟨(k + 1, acc ++ [(l.getD k default).fr']), by (try simp only); omega, by simp only; rw [map_snoc _ hka, hI]⟩, by show (l).length - (k + 1) < (l).length - k; omega, ⟨rfl, (forall_cons (by simp [upd]) (forall_cons rfl (forall_cons rfl (forall_cons rfl forall_nil)))), forall_nil, (forall_cons (by simp [upd]) forall_nil)⟩⟩
  · obtain rfl : k = l.length := by omega
    rw [List.take_length] at hI
    subst hI
    simp only [go_sem, reduceIte, Nat.reduceEqDiff, reduceCtorEq, Nat.reduceLT, Nat.reduceAdd, Nat.reduceSub, Nat.reduceMul, Nat.reduceLeDiff, Int.reduceLT, Int.reduceLE, Int.reduceToNat, Int.reduceEq, Int.reduceAdd, Int.reduceSub, Int.reduceNeg, Int.reduceBNe, Int.reduceBEq, prs, h, strs, fromsM]
set_option maxHeartbeats 1000000 in
theorem RFroms_pure (l : List Pr) (hl : l.length ≤ 1000000) : PL.Pure Try.prog 156 [prs l] (strs (fromsM l)) := by
  have hm : l.length ≤ maxLen := by rw [maxLen_eq]; omega
  refine PL.Pure.of_v Try.func156 (by decide) rfl Try.ntmps156 Try.results156 (by simp) (strs_dids _) ?_
  simp only [go_sem, reduceIte, Nat.reduceEqDiff, reduceCtorEq, Nat.reduceLT, Nat.reduceAdd, Nat.reduceSub, Nat.reduceMul, Nat.reduceLeDiff, Int.reduceLT, Int.reduceLE, Int.reduceToNat, Int.reduceEq, Int.reduceAdd, Int.reduceSub, Int.reduceNeg, Int.reduceBNe, Int.reduceBEq, prs]
  refine awp_moveRow 3 5 19 0 1 9 [] rfl rfl rfl ?_
  refine vLoopM (ι := { x : Nat × (List Str) // x.1 ≤ (l).length ∧ (x.2 = (l.take x.1).map (·.fr')) }) 21 (fun x => [(0, prs l), (3, .sl (.row 19) (x.1.2.map .str)), (4, .int .i64 (x.1.1 : Int))]) (fun x => []) (fun x => [(19, .live (x.1.2.length) (1) (9))]) (fun x => (l).length - x.1.1) ⟨(0, []), Nat.zero_le _, rfl⟩ ⟨rfl, (forall_cons rfl (forall_cons rfl (forall_cons rfl forall_nil))), forall_nil, (forall_cons rfl forall_nil)⟩ (fun x => ⟨(forall_cons rfl (forall_cons (by simp [PV.ids, refInM]) (forall_cons rfl forall_nil))), forall_nil⟩) (fun x => ?_); obtain ⟨⟨k, acc⟩, hk, hI⟩ := x; simp only at hk hI ⊢
  have hacc : acc.length ≤ l.length := by rw [hI, List.length_map]; exact take_le_len _ _
  by_cases h : (k : Int) < (l.length : Int)
  · (have hka : k < (l).length := by omega); (have w1 := w64s hka (hm)); (have i1 : (0 : Int) ≤ (k : Int) := by omega)
    have hr := room1 (show acc.length + 1 ≤ 1000000 by rw [hI, List.length_map, List.length_take]; omega) (show 16 ≤ 1000 by omega)
    simp only [go_sem, reduceIte, Nat.reduceEqDiff, reduceCtorEq, Nat.reduceLT, Nat.reduceAdd, Nat.reduceSub, Nat.reduceMul, Nat.reduceLeDiff, Int.reduceLT, Int.reduceLE, Int.reduceToNat, Int.reduceEq, Int.reduceAdd, Int.reduceSub, Int.reduceNeg, Int.reduceBNe, Int.reduceBEq, prs, h, getD_pr hka, pr, i1, sized_str, hr, w1]
    exact ⟨⟨(k + 1, acc ++ [(l.getD k default).fr']), by (try simp only); omega, by simp only; rw [map_snoc _ hka, hI]⟩, by show (l).length - (k + 1) < (l).length - k; omega, ⟨rfl, (forall_cons rfl (forall_cons (by simp [upd]) (forall_cons rfl forall_nil))), forall_nil, (forall_cons (by simp [upd]) forall_nil)⟩⟩
  · obtain rfl : k = l.length := by omega
    rw [List.take_length] at hI
    subst hI
    simp only [go_sem, reduceIte, Nat.reduceEqDiff, reduceCtorEq, Nat.reduceLT, Nat.reduceAdd, Nat.reduceSub, Nat.reduceMul, Nat.reduceLeDiff, Int.reduceLT, Int.reduceLE, Int.reduceToNat, Int.reduceEq, Int.reduceAdd, Int.reduceSub, Int.reduceNeg, Int.reduceBNe, Int.reduceBEq, prs, h, strs, fromsM]
theorem map_fld1 (l : List Fd) (f : Fd) : l.map fld ++ [fld f] = (l ++ [f]).map fld := by simp
set_option maxHeartbeats 1000000 in
theorem SOwn_pure (l : List Fd) (hl : l.length ≤ 100000) (hc : ∀ f ∈ l, f.cases'.length ≤ 1000000) : PL.Pure Try.prog 58 [flds l] (flds l) := by
  have hm : l.length ≤ maxLen := by rw [maxLen_eq]; omega
  have hr0 := room1 (show l.length ≤ 1000000 by omega) (show 96 ≤ 1000 by omega)
  refine PL.Pure.of_v Try.func58 (by decide) rfl Try.ntmps58 Try.results58 (by simp) (flds_dids _) ?_
  simp only [go_sem, reduceIte, Nat.reduceEqDiff, reduceCtorEq, Nat.reduceLT, Nat.reduceAdd, Nat.reduceSub, Nat.reduceMul, Nat.reduceLeDiff, Int.reduceLT, Int.reduceLE, Int.reduceToNat, Int.reduceEq, Int.reduceAdd, Int.reduceSub, Int.reduceNeg, Int.reduceBNe, Int.reduceBEq, flds, hr0, hm]
  refine ⟨by omega, ?_⟩
  refine awp_moveRow 3 8 19 0 7 46 [] rfl rfl rfl ?_
  refine vLoopM (ι := { x : Nat × (List Fd) // x.1 ≤ (l).length ∧ (x.2 = l.take x.1) }) 22 (fun x => [(3, .sl (.row 19) (x.1.2.map fld)), (9, flds l), (10, .int .i64 (l.length : Int)), (11, .int .i64 (x.1.1 : Int))]) (fun x => []) (fun x => [(19, .live (x.1.2.length) (7) (46))]) (fun x => (l).length - x.1.1) ⟨(0, []), Nat.zero_le _, rfl⟩ ⟨rfl, (forall_cons rfl (forall_cons rfl (forall_cons rfl (forall_cons rfl forall_nil)))), forall_nil, (forall_cons rfl forall_nil)⟩ (fun x => ⟨(forall_cons (by simp [PV.ids, refInM]) (forall_cons rfl (forall_cons rfl (forall_cons rfl forall_nil)))), forall_nil⟩) (fun x => ?_); obtain ⟨⟨k, acc⟩, hk, hI⟩ := x; simp only at hk hI ⊢
  have hacc : acc.length ≤ l.length := by rw [hI]; exact take_le_len _ _
  by_cases h : (k : Int) < (l.length : Int)
  · (have hka : k < (l).length := by omega); (have w1 := w64s hka (hm)); (have i1 : (0 : Int) ≤ (k : Int) := by omega)
    have hr := room1 (show acc.length + 1 ≤ 1000000 by omega) (show 96 ≤ 1000 by omega)
    have hO := FOwn_pure (l.getD k default) (hc _ (getD_mem' hka))
    simp only [go_sem, reduceIte, Nat.reduceEqDiff, reduceCtorEq, Nat.reduceLT, Nat.reduceAdd, Nat.reduceSub, Nat.reduceMul, Nat.reduceLeDiff, Int.reduceLT, Int.reduceLE, Int.reduceToNat, Int.reduceEq, Int.reduceAdd, Int.reduceSub, Int.reduceNeg, Int.reduceBNe, Int.reduceBEq, flds, h, getD_fld hka, fld, i1]
    refine vCall_of (hO) ?_ ?_ ?_; (focus simp only [go_sem, reduceIte, Nat.reduceEqDiff, reduceCtorEq, Nat.reduceLT, Nat.reduceAdd, Nat.reduceSub, Nat.reduceMul, Nat.reduceLeDiff, Int.reduceLT, Int.reduceLE, Int.reduceToNat, Int.reduceEq, Int.reduceAdd, Int.reduceSub, Int.reduceNeg, Int.reduceBNe, Int.reduceBEq, fld]); (focus simp only [go_sem, reduceIte, Nat.reduceEqDiff, reduceCtorEq, Nat.reduceLT, Nat.reduceAdd, Nat.reduceSub, Nat.reduceMul, Nat.reduceLeDiff, Int.reduceLT, Int.reduceLE, Int.reduceToNat, Int.reduceEq, Int.reduceAdd, Int.reduceSub, Int.reduceNeg, Int.reduceBNe, Int.reduceBEq, fld])
    simp only [go_sem, reduceIte, Nat.reduceEqDiff, reduceCtorEq, Nat.reduceLT, Nat.reduceAdd, Nat.reduceSub, Nat.reduceMul, Nat.reduceLeDiff, Int.reduceLT, Int.reduceLE, Int.reduceToNat, Int.reduceEq, Int.reduceAdd, Int.reduceSub, Int.reduceNeg, Int.reduceBNe, Int.reduceBEq, fld, sized_fld, hr, w1]
    exact ⟨⟨(k + 1, acc ++ [l.getD k default]), by (try simp only); omega, by simp only; rw [take_snoc hka (d := default), hI]⟩, by show (l).length - (k + 1) < (l).length - k; omega, ⟨rfl, (forall_cons (by simp [upd, fld]) (forall_cons rfl (forall_cons rfl (forall_cons rfl forall_nil)))), forall_nil, (forall_cons (by simp [upd]) forall_nil)⟩⟩
  · obtain rfl : k = l.length := by omega
    rw [List.take_length] at hI
    subst hI
    simp only [go_sem, reduceIte, Nat.reduceEqDiff, reduceCtorEq, Nat.reduceLT, Nat.reduceAdd, Nat.reduceSub, Nat.reduceMul, Nat.reduceLeDiff, Int.reduceLT, Int.reduceLE, Int.reduceToNat, Int.reduceEq, Int.reduceAdd, Int.reduceSub, Int.reduceNeg, Int.reduceBNe, Int.reduceBEq, h, flds]
end Go.Proofs.Ytbojhapdidieoaa
