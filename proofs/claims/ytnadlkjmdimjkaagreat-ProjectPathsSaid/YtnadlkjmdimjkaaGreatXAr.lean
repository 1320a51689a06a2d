/- Contracts of functions and laws of this seat, each for every input that it names: lemmas of the proof. -/
import Derived.Test.YtnadlkjmdimjkaaGreatXAp
import Derived.Test.YtnadlkjmdimjkaaGreatPlF
set_option linter.unusedSimpArgs false
set_option linter.unusedVariables false
set_option linter.unusedSimpArgs false
set_option linter.unusedVariables false
namespace Go.Proofs.YtnadlkjmdimjkaaGreat
open Go.PL
def caseM (l : List Pr) (s : Str) : Str × Bool := match l.find? (fun p => p.fr' == s) with | some p => (p.to', true) | none => ([], false)
def strb (x : Str × Bool) : PV := .tup [.str x.1, .bool x.2]
theorem find_found {α : Type} {p : α → Bool} {l : List α} {k : Nat} {d : α} (hk : k < l.length) (h : ∀ j, j < k → p (l.getD j d) = false) (hp : p (l.getD k d) = true) : l.find? p = some (l.getD k d) := by
  have h1 := idx_found hk h hp
  rw [List.find?_eq_some_iff_getElem]
  refine ⟨hp, k, hk, by rw [List.getD_eq_getElem?_getD, List.getElem?_eq_getElem hk]; rfl, fun j hj => ?_⟩
  have := h j hj
  rw [List.getD_eq_getElem?_getD, List.getElem?_eq_getElem (by omega)] at this
  simpa using this
theorem find_none {α : Type} {p : α → Bool} {l : List α} {d : α} (h : ∀ j, j < l.length → p (l.getD j d) = false) : l.find? p = none := by
  rw [List.find?_eq_none]
  intro x hx
  obtain ⟨j, hj, rfl⟩ := List.getElem_of_mem hx
  have := h j hj
  rw [List.getD_eq_getElem?_getD, List.getElem?_eq_getElem hj] at this
  simpa using this
set_option maxHeartbeats 1000000 in
theorem Case_pure (l : List Pr) (s : Str) (hl : l.length ≤ maxLen) : PL.Pure Tryz.prog 217 [prs l, .str s] (strb (caseM l s)) := by
  refine PL.Pure.of_v Tryz.func217 (by decide) rfl Tryz.ntmps217 Tryz.results217 (by simp) rfl ?_
  simp only [go_sem, prs]
  refine vLoopM (ι := { x : Nat // x ≤ (l).length ∧ (∀ j, j < x → ((l.getD j default).fr' == s) = false) }) 21 (fun x => [(1, .str s), (8, prs l), (9, .int .i64 (l.length : Int)), (10, .int .i64 (x.1 : Int))]) (fun x => []) (fun x => []) (fun x => (l).length - x.1) ⟨0, Nat.zero_le _, fun j hj => absurd hj (Nat.not_lt_zero j)⟩ ⟨rfl, (forall_cons rfl (forall_cons rfl (forall_cons rfl (forall_cons rfl forall_nil)))), forall_nil, forall_nil⟩ (fun x => ⟨(forall_cons rfl (forall_cons rfl (forall_cons rfl (forall_cons rfl forall_nil)))), forall_nil⟩) (fun x => ?_); obtain ⟨k, hk, hI⟩ := x; simp only at hk hI ⊢
  by_cases h : (k : Int) < (l.length : Int)
  · (have hka : k < (l).length := by omega); (have w1 := w64s hka (hl)); (have i1 : (0 : Int) ≤ (k : Int) := by omega)
    cases he : ((l.getD k default).fr' == s)
    · simp only [go_sem, prs, h, getD_pr hka, pr, i1, he, w1]
      exact ⟨⟨k + 1, by (try simp only); omega, below_succ hI he⟩, by show (l).length - (k + 1) < (l).length - k; omega, ⟨rfl, (forall_cons rfl (forall_cons rfl (forall_cons rfl (forall_cons rfl forall_nil)))), forall_nil, forall_nil⟩⟩
    · have hx := find_found (p := fun p : Pr => p.fr' == s) hka hI he
      simp only [go_sem, prs, h, getD_pr hka, pr, i1, he, strb, caseM, hx]
  · have hx := find_none (p := fun p : Pr => p.fr' == s) (d := default) (l := l) (fun j hj => hI j (by omega))
    simp only [go_sem, prs, h, strb, caseM, hx]
set_option maxHeartbeats 1000000 in
theorem RCase_pure (l : List Pr) (s : Str) (hl : l.length ≤ maxLen) : PL.Pure Tryz.prog 209 [prs l, .str s] (strb (caseM l s)) := by
  refine PL.Pure.of_v Tryz.func209 (by decide) rfl Tryz.ntmps209 Tryz.results209 (by simp) rfl ?_
  simp only [go_sem, prs]
  refine vLoopM (ι := { x : Nat // x ≤ (l).length ∧ (∀ j, j < x → ((l.getD j default).fr' == s) = false) }) 25 (fun x => [(0, prs l), (1, .str s), (6, .int .i64 (x.1 : Int))]) (fun x => []) (fun x => []) (fun x => (l).length - x.1) ⟨0, Nat.zero_le _, fun j hj => absurd hj (Nat.not_lt_zero j)⟩ ⟨rfl, (forall_cons rfl (forall_cons rfl (forall_cons rfl forall_nil))), forall_nil, forall_nil⟩ (fun x => ⟨(forall_cons rfl (forall_cons rfl (forall_cons rfl forall_nil))), forall_nil⟩) (fun x => ?_); obtain ⟨k, hk, hI⟩ := x; simp only at hk hI ⊢
  by_cases h : (k : Int) < (l.length : Int)
  · (have hka : k < (l).length := by omega); (have w1 := w64s hka (hl)); (have i1 : (0 : Int) ≤ (k : Int) := by omega)
    cases he : ((l.getD k default).fr' == s)
    · simp only [go_sem, prs, h, getD_pr hka, pr, i1, he, w1]
      exact ⟨⟨k + 1, by (try simp only); omega, below_succ hI he⟩, by show (l).length - (k + 1) < (l).length - k; omega, ⟨rfl, (forall_cons rfl (forall_cons rfl (forall_cons rfl forall_nil))), forall_nil, forall_nil⟩⟩
    · have hx := find_found (p := fun p : Pr => p.fr' == s) hka hI he
      simp only [go_sem, prs, h, getD_pr hka, pr, i1, he, strb, caseM, hx]
  · have hx := find_none (p := fun p : Pr => p.fr' == s) (d := default) (l := l) (fun j hj => hI j (by omega))
    simp only [go_sem, prs, h, strb, caseM, hx]
theorem map_snoc {α β : Type} [Inhabited α] (f : α → β) {l : List α} {k : Nat} (h : k < l.length) : (l.take (k + 1)).map f = (l.take k).map f ++ [f (l.getD k default)] := by
  rw [take_snoc h (d := default), List.map_append]; rfl
theorem take_le_len {α : Type} (l : List α) (k : Nat) : (l.take k).length ≤ l.length := by rw [List.length_take]; omega
def fromsM (l : List Pr) : List Str := l.map (·.fr')
set_option maxHeartbeats 1000000 in
theorem froms_pure (l : List Pr) (hl : l.length ≤ 1000000) : PL.Pure Tryz.prog 202 [prs l] (strs (fromsM l)) := by
  have hm : l.length ≤ maxLen := by rw [maxLen_eq]; omega
  have hr0 := room1 hl (show 16 ≤ 1000 by omega)
  refine PL.Pure.of_v Tryz.func202 (by decide) rfl Tryz.ntmps202 Tryz.results202 (by simp) (strs_dids _) ?_
  simp only [go_sem, prs, hr0, hm]
  refine ⟨by omega, ?_⟩
  refine awp_moveRow 3 8 19 0 1 9 [] rfl rfl rfl ?_
  refine vLoopM (ι := { x : Nat × (List Str) // x.1 ≤ (l).length ∧ (x.2 = (l.take x.1).map (·.fr')) }) 22 (fun x => [(3, .sl (.row 19) (x.1.2.map .str)), (9, prs l), (10, .int .i64 (l.length : Int)), (11, .int .i64 (x.1.1 : Int))]) (fun x => []) (fun x => [(19, .live (x.1.2.length) (1) (9))]) (fun x => (l).length - x.1.1) ⟨(0, []), Nat.zero_le _, rfl⟩ ⟨rfl, (forall_cons rfl (forall_cons rfl (forall_cons rfl (forall_cons rfl forall_nil)))), forall_nil, (forall_cons rfl forall_nil)⟩ (fun x => ⟨(forall_cons (by simp [PV.ids, refInM]) (forall_cons rfl (forall_cons rfl (forall_cons rfl forall_nil)))), forall_nil⟩) (fun x => ?_); obtain ⟨⟨k, acc⟩, hk, hI⟩ := x; simp only at hk hI ⊢
  have hacc : acc.length ≤ l.length := by rw [hI, List.length_map]; exact take_le_len _ _
  by_cases h : (k : Int) < (l.length : Int)
  · (have hka : k < (l).length := by omega); (have w1 := w64s hka (hm)); (have i1 : (0 : Int) ≤ (k : Int) := by omega)
    have hr := room1 (show acc.length + 1 ≤ 1000000 by rw [hI, List.length_map, List.length_take]; omega) (show 16 ≤ 1000 by omega)
    simp only [go_sem, prs, h, getD_pr hka, pr, i1, sized_str, hr, w1]
    exact ⟨⟨(k + 1, acc ++ [(l.getD k default).fr']), by (try simp only); omega, by simp only; rw [map_snoc _ hka, hI]⟩, by show (l).length - (k + 1) < (l).length - k; omega, ⟨rfl, (forall_cons (by simp [upd]) (forall_cons rfl (forall_cons rfl (forall_cons rfl forall_nil)))), forall_nil, (forall_cons (by simp [upd]) forall_nil)⟩⟩
  · obtain rfl : k = l.length := by omega
    rw [List.take_length] at hI
    subst hI
    simp only [go_sem, prs, h, strs, fromsM]
set_option maxHeartbeats 1000000 in
theorem RFroms_pure (l : List Pr) (hl : l.length ≤ 1000000) : PL.Pure Tryz.prog 155 [prs l] (strs (fromsM l)) := by
  have hm : l.length ≤ maxLen := by rw [maxLen_eq]; omega
  refine PL.Pure.of_v Tryz.func155 (by decide) rfl Tryz.ntmps155 Tryz.results155 (by simp) (strs_dids _) ?_
  simp only [go_sem, prs]
  refine awp_moveRow 3 5 19 0 1 9 [] rfl rfl rfl ?_
  refine vLoopM (ι := { x : Nat × (List Str) // x.1 ≤ (l).length ∧ (x.2 = (l.take x.1).map (·.fr')) }) 21 (fun x => [(0, prs l), (3, .sl (.row 19) (x.1.2.map .str)), (4, .int .i64 (x.1.1 : Int))]) (fun x => []) (fun x => [(19, .live (x.1.2.length) (1) (9))]) (fun x => (l).length - x.1.1) ⟨(0, []), Nat.zero_le _, rfl⟩ ⟨rfl, (forall_cons rfl (forall_cons rfl (forall_cons rfl forall_nil))), forall_nil, (forall_cons rfl forall_nil)⟩ (fun x => ⟨(forall_cons rfl (forall_cons (by simp [PV.ids, refInM]) (forall_cons rfl forall_nil))), forall_nil⟩) (fun x => ?_); obtain ⟨⟨k, acc⟩, hk, hI⟩ := x; simp only at hk hI ⊢
  have hacc : acc.length ≤ l.length := by rw [hI, List.length_map]; exact take_le_len _ _
  by_cases h : (k : Int) < (l.length : Int)
  · (have hka : k < (l).length := by omega); (have w1 := w64s hka (hm)); (have i1 : (0 : Int) ≤ (k : Int) := by omega)
    have hr := room1 (show acc.length + 1 ≤ 1000000 by rw [hI, List.length_map, List.length_take]; omega) (show 16 ≤ 1000 by omega)
    simp only [go_sem, prs, h, getD_pr hka, pr, i1, sized_str, hr, w1]
    exact ⟨⟨(k + 1, acc ++ [(l.getD k default).fr']), by (try simp only); omega, by simp only; rw [map_snoc _ hka, hI]⟩, by show (l).length - (k + 1) < (l).length - k; omega, ⟨rfl, (forall_cons rfl (forall_cons (by simp [upd]) (forall_cons rfl forall_nil))), forall_nil, (forall_cons (by simp [upd]) forall_nil)⟩⟩
  · obtain rfl : k = l.length := by omega
    rw [List.take_length] at hI
    subst hI
    simp only [go_sem, prs, h, strs, fromsM]
set_option maxHeartbeats 1000000 in
theorem SOwn_pure (l : List Fd) (hl : l.length ≤ 100000) (hc : ∀ f ∈ l, f.cases'.length ≤ 1000000) : PL.Pure Tryz.prog 70 [flds l] (flds l) := by
  have hm : l.length ≤ maxLen := by rw [maxLen_eq]; omega
  have hr0 := room1 (show l.length ≤ 1000000 by omega) (show 96 ≤ 1000 by omega)
  refine PL.Pure.of_v Tryz.func70 (by decide) rfl Tryz.ntmps70 Tryz.results70 (by simp) (flds_dids _) ?_
  simp only [go_sem, flds, hr0, hm]
  refine ⟨by omega, ?_⟩
  refine awp_moveRow 3 8 19 0 7 84 [] rfl rfl rfl ?_
  refine vLoopM (ι := { x : Nat × (List Fd) // x.1 ≤ (l).length ∧ (x.2 = l.take x.1) }) 22 (fun x => [(3, .sl (.row 19) (x.1.2.map fld)), (9, flds l), (10, .int .i64 (l.length : Int)), (11, .int .i64 (x.1.1 : Int))]) (fun x => []) (fun x => [(19, .live (x.1.2.length) (7) (84))]) (fun x => (l).length - x.1.1) ⟨(0, []), Nat.zero_le _, rfl⟩ ⟨rfl, (forall_cons rfl (forall_cons rfl (forall_cons rfl (forall_cons rfl forall_nil)))), forall_nil, (forall_cons rfl forall_nil)⟩ (fun x => ⟨(forall_cons (by simp [PV.ids, refInM]) (forall_cons rfl (forall_cons rfl (forall_cons rfl forall_nil)))), forall_nil⟩) (fun x => ?_); obtain ⟨⟨k, acc⟩, hk, hI⟩ := x; simp only at hk hI ⊢
  have hacc : acc.length ≤ l.length := by rw [hI]; exact take_le_len _ _
  by_cases h : (k : Int) < (l.length : Int)
  · (have hka : k < (l).length := by omega); (have w1 := w64s hka (hm)); (have i1 : (0 : Int) ≤ (k : Int) := by omega)
    have hr := room1 (show acc.length + 1 ≤ 1000000 by omega) (show 96 ≤ 1000 by omega)
    have hO := FOwn_pure (l.getD k default) (hc _ (getD_mem' hka))
    simp only [go_sem, flds, h, getD_fld hka, fld, i1]
    refine vCall_of (hO) ?_ ?_ ?_; (focus simp only [go_sem, fld]); (focus simp only [go_sem, fld])
    simp only [go_sem, fld, sized_fld, hr, w1]
    exact ⟨⟨(k + 1, acc ++ [l.getD k default]), by (try simp only); omega, by simp only; rw [take_snoc hka (d := default), hI]⟩, by show (l).length - (k + 1) < (l).length - k; omega, ⟨rfl, (forall_cons (by simp [upd, fld]) (forall_cons rfl (forall_cons rfl (forall_cons rfl forall_nil)))), forall_nil, (forall_cons (by simp [upd]) forall_nil)⟩⟩
  · obtain rfl : k = l.length := by omega
    rw [List.take_length] at hI
    subst hI
    simp only [go_sem, h, flds]
end Go.Proofs.YtnadlkjmdimjkaaGreat

set_option linter.unusedSimpArgs false
set_option linter.unusedVariables false
set_option linter.unusedSimpArgs false
set_option linter.unusedVariables false
namespace Go.Proofs.YtnadlkjmdimjkaaGreat
open Go.PL
set_option maxHeartbeats 1000000 in
theorem Scope_pure (l : List Fd) (sc : Int) (hl : l.length ≤ 100000) (hc : ∀ f ∈ l, f.cases'.length ≤ 1000000) : PL.Pure Tryz.prog 85 [flds l, .int .i64 sc] (flds (scopeM l sc)) := by
  have hm : l.length ≤ maxLen := by rw [maxLen_eq]; omega
  refine PL.Pure.of_v Tryz.func85 (by decide) rfl Tryz.ntmps85 Tryz.results85 (by simp) (flds_dids _) ?_
  simp only [go_sem, flds]
  refine awp_nilRow 5 23 7 84 rfl rfl ?_
  refine vLoopM (ι := { x : Nat × (List Fd) // x.1 ≤ (l).length ∧ (x.2 = scopeM (l.take x.1) sc) }) 26 (fun x => [(1, .int .i64 sc), (5, .sl (.row 23) (x.1.2.map fld)), (8, flds l), (9, .int .i64 (l.length : Int)), (10, .int .i64 (x.1.1 : Int))]) (fun x => []) (fun x => [(23, .live (x.1.2.length) (7) (84))]) (fun x => (l).length - x.1.1) ⟨(0, []), Nat.zero_le _, rfl⟩ ⟨rfl, (forall_cons rfl (forall_cons rfl (forall_cons rfl (forall_cons rfl (forall_cons rfl forall_nil))))), forall_nil, (forall_cons rfl forall_nil)⟩ (fun x => ⟨(forall_cons rfl (forall_cons (by simp [PV.ids, refInM]) (forall_cons rfl (forall_cons rfl (forall_cons rfl forall_nil))))), forall_nil⟩) (fun x => ?_); obtain ⟨⟨k, acc⟩, hk, hI⟩ := x; simp only at hk hI ⊢
  have hacc : acc.length ≤ l.length := by
    rw [hI]; exact Nat.le_trans (List.length_filter_le _ _) (take_le_len _ _)
  by_cases h : (k : Int) < (l.length : Int)
  · (have hka : k < (l).length := by omega); (have w1 := w64s hka (hm)); (have i1 : (0 : Int) ≤ (k : Int) := by omega)
    have hr := room1 (show acc.length + 1 ≤ 1000000 by omega) (show 96 ≤ 1000 by omega)
    have hO := FOwn_pure (l.getD k default) (hc _ (getD_mem' hka))
    cases he : ((l.getD k default).at'.sc == sc)
    · have hs : scopeM (l.take (k + 1)) sc = scopeM (l.take k) sc := by
        rw [take_snoc hka (d := default)]
        simp only [scopeM, List.filter_append, List.filter_cons, he, Bool.false_eq_true, if_false, List.filter_nil, List.append_nil]
      simp only [go_sem, flds, h, getD_fld hka, fld, i1, he, w1]
      exact ⟨⟨(k + 1, acc), by (try simp only); omega, by simp only; rw [hs, hI]⟩, by show (l).length - (k + 1) < (l).length - k; omega, ⟨rfl, (forall_cons rfl (forall_cons (by simp [upd, fld]) (forall_cons rfl (forall_cons rfl (forall_cons rfl forall_nil))))), forall_nil, (forall_cons (by simp [upd]) forall_nil)⟩⟩
    · have hs : scopeM (l.take (k + 1)) sc = scopeM (l.take k) sc ++ [l.getD k default] := by
        rw [take_snoc hka (d := default)]
        simp only [scopeM, List.filter_append, List.filter_cons, he, if_true, List.filter_nil]
      simp only [go_sem, flds, h, getD_fld hka, fld, i1, he]
      refine vCall_of (hO) ?_ ?_ ?_; (focus simp only [go_sem, fld]); (focus simp only [go_sem, fld])
      simp only [go_sem, fld, sized_fld, hr, w1]
      exact ⟨⟨(k + 1, acc ++ [l.getD k default]), by (try simp only); omega, by simp only; rw [hs, hI]⟩, by show (l).length - (k + 1) < (l).length - k; omega, ⟨rfl, (forall_cons rfl (forall_cons (by simp [upd, fld]) (forall_cons rfl (forall_cons rfl (forall_cons rfl forall_nil))))), forall_nil, (forall_cons (by simp [upd]) forall_nil)⟩⟩
  · obtain rfl : k = l.length := by omega
    rw [List.take_length] at hI
    subst hI
    simp only [go_sem, h, flds]
def atF (r : Rf) : Fd → Bool := fun x => decide (x.at' = r)
def findF (l : List Fd) (r : Rf) : Fd × Int := if idx (atF r) l < 0 then (default, 6) else (l.getD (idx (atF r) l).toNat default, 0)
def fldc (x : Fd × Int) : PV := .tup [fld x.1, .int .i64 x.2]
def fldsc (x : List Fd × Int) : PV := .tup [flds x.1, .int .i64 x.2]
theorem fldc_dids (x : Fd × Int) : (fldc x).dids = [] := by simp only [fldc, PV.dids, PV.didsL, fld_dids, List.append_nil]
theorem fldsc_dids (x : List Fd × Int) : (fldsc x).dids = [] := by simp only [fldsc, PV.dids, PV.didsL, flds_dids, List.append_nil]
theorem fld_default : fld default = .agg [.int .i64 0, .str [], .str [], .int .i64 0, .str [], .sl .no [], .int .i64 0] := rfl
set_option maxHeartbeats 1000000 in
theorem SFind_pure (l : List Fd) (r : Rf) (hl : l.length ≤ 100000) (hc : ∀ f ∈ l, f.cases'.length ≤ 1000000) : PL.Pure Tryz.prog 71 [flds l, ref r] (fldc (findF l r)) := by
  have hm : l.length ≤ maxLen := by rw [maxLen_eq]; omega
  have hI : PL.Pure Tryz.prog 134 [flds l, ref r] (.int .i64 (idx (atF r) l)) := Index_pure l r hm
  unfold findF
  rcases idx_cases (atF r) l with h2 | ⟨k, hk, h2⟩
  · rw [h2] at hI ⊢
    refine PL.Pure.of_v Tryz.func71 (by decide) rfl Tryz.ntmps71 Tryz.results71 (by simp) (fldc_dids _) ?_
    simp only [go_sem, flds, ref]
    refine vCall_of (hI) ?_ ?_ ?_; (focus simp only [go_sem, flds, ref]); (focus simp only [go_sem, flds, ref])
    simp only [go_sem, fldc, fld_default]
  · have i1 : (0 : Int) ≤ (k : Int) := by omega
    have i2 : (k : Int) < (l.length : Int) := by omega
    have i3 : ¬ (k : Int) < 0 := by omega
    have hO := FOwn_pure (l.getD k default) (hc _ (getD_mem' hk))
    rw [h2] at hI
    rw [h2, if_neg i3]
    refine PL.Pure.of_v Tryz.func71 (by decide) rfl Tryz.ntmps71 Tryz.results71 (by simp) (fldc_dids _) ?_
    simp only [go_sem, flds, ref]
    refine vCall_of (hI) ?_ ?_ ?_; (focus simp only [go_sem, flds, ref]); (focus simp only [go_sem, flds, ref])
    simp only [go_sem, i1, i2, i3, getD_fld hk, fld]
    refine vCall_of (hO) ?_ ?_ ?_; (focus simp only [go_sem, fld]); (focus simp only [go_sem, fld])
    simp only [go_sem, fldc, fld]
set_option maxRecDepth 20000 in
set_option maxHeartbeats 8000000 in
theorem SRight_pure (l : List Fd) (hl : l.length ≤ maxLen) (hl' : ∀ f ∈ l, f.cases'.length ≤ maxLen) : PL.Pure Tryz.prog 83 [flds l] (.bool (rightL l)) := by
  by_cases h16 : 16 < (l.length : Int)
  · refine PL.Pure.of_v Tryz.func83 (by decide) rfl Tryz.ntmps83 Tryz.results83 (by simp) rfl ?_
    simp only [go_sem, flds, h16, rightL, Bool.false_and]
  · have hx : rightL l = (List.range l.length).all (fldOk l) := by simp only [rightL, h16, decide_false, Bool.not_false, Bool.true_and]
    rw [hx]
    refine PL.Pure.of_v Tryz.func83 (by decide) rfl Tryz.ntmps83 Tryz.results83 (by simp) rfl ?_
    simp only [go_sem, flds, h16]
    refine vLoopM (ι := { x : Nat // x ≤ (l).length ∧ (∀ j, j < x → fldOk l j = true) }) 33 (fun x => [(0, flds l), (8, flds l), (9, .int .i64 (l.length : Int)), (10, .int .i64 (x.1 : Int))]) (fun x => []) (fun x => []) (fun x => (l).length - x.1) ⟨0, Nat.zero_le _, fun j hj => absurd hj (Nat.not_lt_zero j)⟩ ⟨rfl, (forall_cons rfl (forall_cons rfl (forall_cons rfl (forall_cons rfl forall_nil)))), forall_nil, forall_nil⟩ (fun x => ⟨(forall_cons rfl (forall_cons rfl (forall_cons rfl (forall_cons rfl forall_nil)))), forall_nil⟩) (fun x => ?_); obtain ⟨k, hk, hI⟩ := x; simp only at hk hI ⊢
    by_cases h : (k : Int) < (l.length : Int)
    · (have hka : k < (l).length := by omega); (have w1 := w64s hka (hl)); (have i1 : (0 : Int) ≤ (k : Int) := by omega)
      have hR := Right_pure (l.getD k default) (hl' _ (getD_mem' hka))
      cases hr : rightF (l.getD k default)
      · rw [hr] at hR
        have hz := rall_false (p := fldOk l) hka (by simp only [fldOk, hr, Bool.false_and])
        simp only [go_sem, flds, h, getD_fld hka, fld, i1]
        refine vCall_of (hR) ?_ ?_ ?_; (focus simp only [go_sem, fld]); (focus simp only [go_sem, fld])
        simp only [go_sem, hz]
      · rw [hr] at hR
        by_cases h0 : 0 < (k : Int)
        · have hk1 : k - 1 < l.length := by omega
          have w2 : IntKind.i64.wrap ((k : Int) - 1) = ((k - 1 : Nat) : Int) := by
            rw [maxLen_eq] at hl
            rw [w64 (by omega)]; omega
          have j1 : (0 : Int) ≤ ((k - 1 : Nat) : Int) := by omega
          have j2 : ((k - 1 : Nat) : Int) < (l.length : Int) := by omega
          have hL := Less_pure (l.getD (k - 1) default).at' (l.getD k default).at'
          cases hb : lessB (l.getD (k - 1) default).at' (l.getD k default).at'
          · rw [hb] at hL
            have hz := rall_false (p := fldOk l) hka (by simp only [fldOk, hb, decide_eq_false (show ¬ k = 0 by omega), Bool.or_self, Bool.and_false])
            simp only [go_sem, flds, h, getD_fld hka, fld, i1]
            refine vCall_of (hR) ?_ ?_ ?_; (focus simp only [go_sem, fld]); (focus simp only [go_sem, fld])
            simp only [go_sem]
            refine vDrawQ (by kernel_rfl) (by kernel_rfl) ?_
            simp only [go_sem, h0, w2, getD_fld hk1, getD_fld hka, fld, h, i1, j1, j2]
            refine vCall_of (hL) ?_ ?_ ?_; (focus simp only [go_sem, ref]); (focus simp only [go_sem, ref])
            simp only [go_sem, hz]
          · rw [hb] at hL
            have ok : fldOk l k = true := by simp only [fldOk, hr, hb, Bool.or_true, Bool.and_self]
            simp only [go_sem, flds, h, getD_fld hka, fld, i1]
            refine vCall_of (hR) ?_ ?_ ?_; (focus simp only [go_sem, fld]); (focus simp only [go_sem, fld])
            simp only [go_sem]
            refine vDrawQ (by kernel_rfl) (by kernel_rfl) ?_
            simp only [go_sem, h0, w2, getD_fld hk1, getD_fld hka, fld, h, i1, j1, j2]
            refine vCall_of (hL) ?_ ?_ ?_; (focus simp only [go_sem, ref]); (focus simp only [go_sem, ref])
            simp only [go_sem, w1]
            exact ⟨⟨k + 1, by (try simp only); omega, below_succ hI ok⟩, by show (l).length - (k + 1) < (l).length - k; omega, ⟨rfl, (forall_cons rfl (forall_cons rfl (forall_cons rfl (forall_cons rfl forall_nil)))), forall_nil, forall_nil⟩⟩
        · have ok : fldOk l k = true := by simp only [fldOk, hr, decide_eq_true (show k = 0 by omega), Bool.true_or, Bool.and_self]
          simp only [go_sem, flds, h, getD_fld hka, fld, i1]
          refine vCall_of (hR) ?_ ?_ ?_; (focus simp only [go_sem, fld]); (focus simp only [go_sem, fld])
          simp only [go_sem]
          refine vDrawQ (by kernel_rfl) (by kernel_rfl) ?_
          simp only [go_sem, h0, w1]
          exact ⟨⟨k + 1, by (try simp only); omega, below_succ hI ok⟩, by show (l).length - (k + 1) < (l).length - k; omega, ⟨rfl, (forall_cons rfl (forall_cons rfl (forall_cons rfl (forall_cons rfl forall_nil)))), forall_nil, forall_nil⟩⟩
    · have hz := rall_true (p := fldOk l) (n := l.length) (fun j hj => hI j (by omega))
      simp only [go_sem, flds, h, hz]

theorem erase_snoc {α : Type} {l : List α} {k g : Nat} {d : α} (h : k < l.length) : (l.take (k + 1)).eraseIdx g = (l.take k).eraseIdx g ++ (if k = g then [] else [l.getD k d]) := by
  have hlen : (l.take k).length = k := by rw [List.length_take]; omega
  rw [take_snoc h (d := d)]
  rcases Nat.lt_or_ge g k with h1 | h1
  · rw [List.eraseIdx_append_of_lt_length (by omega), if_neg (by omega)]
  · have e2 : (l.take k).eraseIdx g = l.take k := List.eraseIdx_of_length_le (by omega)
    rw [List.eraseIdx_append_of_length_le (by omega), e2, hlen]
    by_cases e : k = g
    · subst e; simp
    · rw [if_neg e, List.eraseIdx_of_length_le (by simp; omega)]
def withoutM (l : List Fd) (r : Rf) : List Fd × Int := if rightL l = false then ([], 5) else if idx (atF r) l < 0 then ([], 6) else (l.eraseIdx (idx (atF r) l).toNat, 0)
set_option maxHeartbeats 4000000 in
theorem Without_pure (l : List Fd) (r : Rf) (hl : l.length ≤ 100000) (hc : ∀ f ∈ l, f.cases'.length ≤ 1000000) : PL.Pure Tryz.prog 144 [flds l, ref r] (fldsc (withoutM l r)) := by
  have hm : l.length ≤ maxLen := by rw [maxLen_eq]; omega
  have hR := SRight_pure l hm (fun f hf => by have := hc f hf; rw [maxLen_eq]; omega)
  have hI : PL.Pure Tryz.prog 134 [flds l, ref r] (.int .i64 (idx (atF r) l)) := Index_pure l r hm
  unfold withoutM
  cases hr : rightL l
  · rw [hr] at hR
    refine PL.Pure.of_v Tryz.func144 (by decide) rfl Tryz.ntmps144 Tryz.results144 (by simp) (fldsc_dids _) ?_
    simp only [go_sem, flds, ref]
    refine vCall_of (hR) ?_ ?_ ?_; (focus simp only [go_sem, flds]); (focus simp only [go_sem, flds])
    simp only [go_sem, fldsc, flds]
  · rw [hr] at hR
    rcases idx_cases (atF r) l with h2 | ⟨g, hg, h2⟩
    · rw [h2] at hI ⊢
      refine PL.Pure.of_v Tryz.func144 (by decide) rfl Tryz.ntmps144 Tryz.results144 (by simp) (fldsc_dids _) ?_
      simp only [go_sem, flds, ref]
      refine vCall_of (hR) ?_ ?_ ?_; (focus simp only [go_sem, flds]); (focus simp only [go_sem, flds])
      simp only [go_sem, flds]
      refine vCall_of (hI) ?_ ?_ ?_; (focus simp only [go_sem, flds, ref]); (focus simp only [go_sem, flds, ref])
      simp only [go_sem, fldsc, flds]
    · have i3 : ¬ (g : Int) < 0 := by omega
      have w2 : IntKind.i64.wrap ((l.length : Int) - 1) = ((l.length - 1 : Nat) : Int) := by rw [w64 (by omega)]; omega
      rw [h2] at hI
      rw [h2, if_neg i3]
      simp only [Bool.true_eq_false, if_false, Int.toNat_natCast]
      refine PL.Pure.of_v Tryz.func144 (by decide) rfl Tryz.ntmps144 Tryz.results144 (by simp) (fldsc_dids _) ?_
      simp only [go_sem, flds, ref]
      refine vCall_of (hR) ?_ ?_ ?_; (focus simp only [go_sem, flds]); (focus simp only [go_sem, flds])
      simp only [go_sem, flds]
      refine vCall_of (hI) ?_ ?_ ?_; (focus simp only [go_sem, flds, ref]); (focus simp only [go_sem, flds, ref])
      simp only [go_sem, flds, i3, w2]
      refine ⟨by omega, ?_⟩
      refine awp_moveRow 7 21 36 0 7 84 [] rfl rfl rfl ?_
      refine vLoopM (ι := { x : Nat × (List Fd) // x.1 ≤ (l).length ∧ (x.2 = (l.take x.1).eraseIdx g) }) 39 (fun x => [(6, .int .i64 (g : Int)), (7, .sl (.row 36) (x.1.2.map fld)), (22, flds l), (23, .int .i64 (l.length : Int)), (24, .int .i64 (x.1.1 : Int))]) (fun x => []) (fun x => [(36, .live (x.1.2.length) (7) (84))]) (fun x => (l).length - x.1.1) ⟨(0, []), Nat.zero_le _, rfl⟩ ⟨rfl, (forall_cons rfl (forall_cons rfl (forall_cons rfl (forall_cons rfl (forall_cons rfl forall_nil))))), forall_nil, (forall_cons rfl forall_nil)⟩ (fun x => ⟨(forall_cons rfl (forall_cons (by simp [PV.ids, refInM]) (forall_cons rfl (forall_cons rfl (forall_cons rfl forall_nil))))), forall_nil⟩) (fun x => ?_); obtain ⟨⟨k, acc⟩, hk, hI⟩ := x; simp only at hk hI ⊢
      have hacc : acc.length ≤ l.length := by
        rw [hI]; exact Nat.le_trans (List.length_eraseIdx_le _ _) (take_le_len _ _)
      by_cases h : (k : Int) < (l.length : Int)
      · (have hka : k < (l).length := by omega); (have w1 := w64s hka (hm)); (have i1 : (0 : Int) ≤ (k : Int) := by omega)
        have hr := room1 (show acc.length + 1 ≤ 1000000 by omega) (show 96 ≤ 1000 by omega)
        have hO := FOwn_pure (l.getD k default) (hc _ (getD_mem' hka))
        have hs := erase_snoc (l := l) (k := k) (g := g) (d := default) hka
        by_cases he : k = g
        · have he' : ((k : Int) != (g : Int)) = false := by rw [he]; exact bne_self_eq_false _
          rw [if_pos he, List.append_nil] at hs
          simp only [go_sem, flds, h, getD_fld hka, fld, i1, he', w1]
          exact ⟨⟨(k + 1, acc), by (try simp only); omega, by simp only; rw [hs, hI]⟩, by show (l).length - (k + 1) < (l).length - k; omega, ⟨rfl, (forall_cons rfl (forall_cons (by simp [upd, fld]) (forall_cons rfl (forall_cons rfl (forall_cons rfl forall_nil))))), forall_nil, (forall_cons (by simp [upd]) forall_nil)⟩⟩
        · have he' : ((k : Int) != (g : Int)) = true := bne_iff_ne.2 (by omega)
          rw [if_neg he] at hs
          simp only [go_sem, flds, h, getD_fld hka, fld, i1, he']
          refine vCall_of (hO) ?_ ?_ ?_; (focus simp only [go_sem, fld]); (focus simp only [go_sem, fld])
          simp only [go_sem, fld, sized_fld, hr, w1]
          exact ⟨⟨(k + 1, acc ++ [l.getD k default]), by (try simp only); omega, by simp only; rw [hs, hI]⟩, by show (l).length - (k + 1) < (l).length - k; omega, ⟨rfl, (forall_cons rfl (forall_cons (by simp [upd, fld]) (forall_cons rfl (forall_cons rfl (forall_cons rfl forall_nil))))), forall_nil, (forall_cons (by simp [upd]) forall_nil)⟩⟩
      · obtain rfl : k = l.length := by omega
        rw [List.take_length] at hI
        subst hI
        simp only [go_sem, h, flds, fldsc]
end Go.Proofs.YtnadlkjmdimjkaaGreat

set_option linter.unusedSimpArgs false
set_option linter.unusedVariables false
set_option linter.unusedSimpArgs false
set_option linter.unusedVariables false
namespace Go.Proofs.YtnadlkjmdimjkaaGreat
open Go.PL
def less' (r : Rf) : Fd → Bool := fun f => lessB f.at' r
def insM (l : List Fd) (f : Fd) : List Fd := l.takeWhile (less' f.at') ++ f :: l.dropWhile (less' f.at')
def withM (l : List Fd) (f : Fd) : List Fd × Int := if rightL l = false ∨ rightF f = false then ([], 5) else if 0 ≤ idx (atF f.at') l then ([], 7) else if 16 ≤ (l.length : Int) then ([], 14) else (insM l f, 0)
structure WA (l : List Fd) (f : Fd) where
  k : Nat
  acc : List Fd
  hk : k ≤ l.length
  h : acc ++ insM (l.drop k) f = insM l f
structure WB (l : List Fd) (f : Fd) where
  k : Nat
  acc : List Fd
  hk : k ≤ l.length
  h : acc ++ l.drop k = insM l f
theorem drop_cons' {α : Type} {l : List α} {k : Nat} {d : α} (h : k < l.length) : l.drop k = l.getD k d :: l.drop (k + 1) := by
  rw [List.getD_eq_getElem?_getD, List.getElem?_eq_getElem h]; exact List.drop_eq_getElem_cons h
theorem ins_t {l : List Fd} {f x : Fd} (h : lessB x.at' f.at' = true) : insM (x :: l) f = x :: insM l f := by
  simp [insM, less', h]
theorem ins_f {l : List Fd} {f x : Fd} (h : lessB x.at' f.at' = false) : insM (x :: l) f = f :: x :: l := by
  simp [insM, less', h]
theorem ins_len (l : List Fd) (f : Fd) : (insM l f).length = l.length + 1 := by
  unfold insM
  have := congrArg List.length (List.takeWhile_append_dropWhile (p := less' f.at') (l := l))
  simp only [List.length_append, List.length_cons] at *
  omega
def fcells (f : Fd) : List PV := [.int .i64 f.at'.sc, .str f.at'.gr, .str f.at'.nm, .int .i64 f.kind, .str f.df, .sl .no (f.cases'.map .str), .int .i64 f.worth]
set_option maxRecDepth 20000 in
set_option maxHeartbeats 8000000 in
theorem With_pure (l : List Fd) (f : Fd) (hl : l.length ≤ 100000) (hc : ∀ f ∈ l, f.cases'.length ≤ 1000000) (hf : f.cases'.length ≤ 1000000) : PL.Pure Tryz.prog 145 [flds l, fld f] (fldsc (withM l f)) := by
  have hm : l.length ≤ maxLen := by rw [maxLen_eq]; omega
  have hR := SRight_pure l hm (fun f hf => by have := hc f hf; rw [maxLen_eq]; omega)
  have hF := Right_pure f (by rw [maxLen_eq]; omega)
  have hI : PL.Pure Tryz.prog 134 [flds l, ref f.at'] (.int .i64 (idx (atF f.at') l)) := Index_pure l f.at' hm
  have hOf := FOwn_pure f hf
  unfold withM
  cases hr : rightL l
  · rw [hr] at hR
    simp only [true_or, if_true]
    refine PL.Pure.of_v Tryz.func145 (by decide) rfl Tryz.ntmps145 Tryz.results145 (by simp) (fldsc_dids _) ?_
    simp only [go_sem, flds, fld]
    refine vScope0 ?_
    simp only [go_sem]
    refine vCall_of (hR) ?_ ?_ ?_; (focus simp only [go_sem, flds]); (focus simp only [go_sem, flds])
    simp only [go_sem, fldsc, flds]
  · rw [hr] at hR
    cases hrf : rightF f
    · rw [hrf] at hF
      simp only [or_true, if_true]
      refine PL.Pure.of_v Tryz.func145 (by decide) rfl Tryz.ntmps145 Tryz.results145 (by simp) (fldsc_dids _) ?_
      simp only [go_sem, flds, fld]
      refine vScope0 ?_
      simp only [go_sem]
      refine vCall_of (hR) ?_ ?_ ?_; (focus simp only [go_sem, flds]); (focus simp only [go_sem, flds])
      simp only [go_sem]
      refine vCall_of (hF) ?_ ?_ ?_; (focus simp only [go_sem, fld]); (focus simp only [go_sem, fld])
      simp only [go_sem, fldsc, flds]
    · rw [hrf] at hF
      simp only [Bool.true_eq_false, or_self, if_false]
      by_cases h2 : (0 : Int) ≤ idx (atF f.at') l
      · rw [if_pos h2]
        refine PL.Pure.of_v Tryz.func145 (by decide) rfl Tryz.ntmps145 Tryz.results145 (by simp) (fldsc_dids _) ?_
        simp only [go_sem, flds, fld]
        refine vScope0 ?_
        simp only [go_sem]
        refine vCall_of (hR) ?_ ?_ ?_; (focus simp only [go_sem, flds]); (focus simp only [go_sem, flds])
        simp only [go_sem]
        refine vCall_of (hF) ?_ ?_ ?_; (focus simp only [go_sem, fld]); (focus simp only [go_sem, fld])
        simp only [go_sem]
        refine vCall_of (hI) ?_ ?_ ?_; (focus simp only [go_sem, flds, ref]); (focus simp only [go_sem, flds, ref])
        simp only [go_sem, h2, fldsc, flds]
      · rw [if_neg h2]
        by_cases h3 : (16 : Int) ≤ (l.length : Int)
        · rw [if_pos h3]
          refine PL.Pure.of_v Tryz.func145 (by decide) rfl Tryz.ntmps145 Tryz.results145 (by simp) (fldsc_dids _) ?_
          simp only [go_sem, flds, fld]
          refine vScope0 ?_
          simp only [go_sem]
          refine vCall_of (hR) ?_ ?_ ?_; (focus simp only [go_sem, flds]); (focus simp only [go_sem, flds])
          simp only [go_sem]
          refine vCall_of (hF) ?_ ?_ ?_; (focus simp only [go_sem, fld]); (focus simp only [go_sem, fld])
          simp only [go_sem]
          refine vCall_of (hI) ?_ ?_ ?_; (focus simp only [go_sem, flds, ref]); (focus simp only [go_sem, flds, ref])
          simp only [go_sem, h2, h3, fldsc, flds]
        · rw [if_neg h3]
          have w0 : IntKind.i64.wrap ((l.length : Int) + 1) = ((l.length + 1 : Nat) : Int) := by rw [w64 (by omega)]; rfl
          refine PL.Pure.of_v Tryz.func145 (by decide) rfl Tryz.ntmps145 Tryz.results145 (by simp) (fldsc_dids _) ?_
          simp only [go_sem, flds, fld]
          refine vScope2 (ι0 := WA l f) (ι1 := WB l f) 72
            (fun x => [(0, flds l), (3, .ptr 3 0), (6, .sl (.row 49) (x.acc.map fld)), (7, .int .i64 (x.k : Int))]) (fun x => [(3, fcells f, false)]) (fun x => [(49, .live x.acc.length 7 84)]) (fun x => l.length - x.k)
            (fun x => [(0, flds l), (6, .sl (.row 68) (x.acc.map fld)), (7, .int .i64 (x.k : Int))]) (fun x => []) (fun x => [(68, .live x.acc.length 7 84)]) (fun x => l.length - x.k) (l.length + 1) (fun j => by show l.length - j.k < l.length + 1; omega)
            0 1 _ _ (by exact rfl) (by exact rfl)
            (fun x => ⟨forall_cons rfl (forall_cons rfl (forall_cons (by simp [PV.ids, refInM]) (forall_cons rfl (forall_nil)))), (forall_cons rfl (forall_nil))⟩)
            (fun x => ⟨forall_cons rfl (forall_cons (by simp [PV.ids, refInM]) (forall_cons rfl (forall_nil))), forall_nil⟩)
            (fun x cut => ?_) (fun x => ?_) (fun cut => ?_)
          · obtain ⟨k, acc, hk, hx⟩ := x
            simp only at cut ⊢
            have hacc : acc.length ≤ l.length + 1 := by rw [← ins_len l f, ← hx, List.length_append]; omega
            have hrm := room1 (show acc.length + 1 ≤ 1000000 by omega) (show 96 ≤ 1000 by omega)
            by_cases h : (k : Int) < (l.length : Int)
            · have hka : k < l.length := by omega
              have w1 := w64s hka hm
              have i1 : (0 : Int) ≤ (k : Int) := by omega
              have hL := Less_pure (l.getD k default).at' f.at'
              have hO := FOwn_pure (l.getD k default) (hc _ (getD_mem' hka))
              rw [drop_cons' hka (d := default)] at hx
              cases hb : lessB (l.getD k default).at' f.at'
              · rw [hb] at hL
                rw [ins_f hb] at hx
                simp only [go_sem, flds, fcells]
                refine vDrawQ (by kernel_rfl) (by kernel_rfl) ?_
                simp only [go_sem, h, i1, getD_fld hka, fld]
                refine vCall_of (hL) ?_ ?_ ?_; (focus simp only [go_sem, ref]); (focus simp only [go_sem, ref])
                simp only [go_sem]
                refine vCall_of (hOf) ?_ ?_ ?_; (focus simp only [go_sem, fld]); (focus simp only [go_sem, fld])
                simp only [go_sem, fld, sized_fld, hrm]
                refine awp_moveRow 6 56 68 (acc.length + 1) 7 84 ((acc ++ [f]).map fld) (by simp [upd, fld]) rfl rfl ?_
                refine awp_label_seq (cut ⟨k, acc ++ [f], hk, by rw [drop_cons' hka (d := default), ← hx]; simp⟩ _ ⟨rfl, forall_cons rfl (forall_cons rfl (forall_cons rfl (forall_nil))), forall_nil, forall_cons (by simp [upd, Hp.setq, St.with]) forall_nil⟩)
              · rw [hb] at hL
                rw [ins_t hb] at hx
                simp only [go_sem, flds, fcells]
                refine vDrawQ (by kernel_rfl) (by kernel_rfl) ?_
                simp only [go_sem, h, i1, getD_fld hka, fld]
                refine vCall_of (hL) ?_ ?_ ?_; (focus simp only [go_sem, ref]); (focus simp only [go_sem, ref])
                simp only [go_sem, h, i1, getD_fld hka, fld]
                refine vCall_of (hO) ?_ ?_ ?_; (focus simp only [go_sem, fld]); (focus simp only [go_sem, fld])
                simp only [go_sem, fld, sized_fld, hrm, w1]
                exact Or.inl ⟨rfl, ⟨k + 1, acc ++ [l.getD k default], by omega, by rw [← hx]; simp⟩, by show l.length - (k + 1) < l.length - k; omega, ⟨rfl, forall_cons rfl (forall_cons rfl (forall_cons (by simp [upd, fld]) (forall_cons rfl (forall_nil)))), forall_cons ⟨rfl, rfl⟩ forall_nil, forall_cons (by simp [upd]) forall_nil⟩⟩
            · obtain rfl : k = l.length := by omega
              simp only [go_sem, flds, fcells]
              refine vDrawQ (by kernel_rfl) (by kernel_rfl) ?_
              simp only [go_sem, h]
              refine vCall_of (hOf) ?_ ?_ ?_; (focus simp only [go_sem, fld]); (focus simp only [go_sem, fld])
              simp only [go_sem, fld, sized_fld, hrm]
              refine awp_moveRow 6 56 68 (acc.length + 1) 7 84 ((acc ++ [f]).map fld) (by simp [upd, fld]) rfl rfl ?_
              refine awp_label_seq (cut ⟨l.length, acc ++ [f], hk, by rw [← hx]; simp [insM]⟩ _ ⟨rfl, forall_cons rfl (forall_cons rfl (forall_cons rfl (forall_nil))), forall_nil, forall_cons (by simp [upd, Hp.setq, St.with]) forall_nil⟩)
          · obtain ⟨k, acc, hk, hx⟩ := x
            simp only
            have hacc : acc.length ≤ l.length + 1 := by rw [← ins_len l f, ← hx, List.length_append]; omega
            have hrm := room1 (show acc.length + 1 ≤ 1000000 by omega) (show 96 ≤ 1000 by omega)
            by_cases h : (k : Int) < (l.length : Int)
            · have hka : k < l.length := by omega
              have w1 := w64s hka hm
              have i1 : (0 : Int) ≤ (k : Int) := by omega
              have hO := FOwn_pure (l.getD k default) (hc _ (getD_mem' hka))
              rw [drop_cons' hka (d := default)] at hx
              simp only [go_sem, flds, h, i1, getD_fld hka, fld]
              refine vCall_of (hO) ?_ ?_ ?_; (focus simp only [go_sem, fld]); (focus simp only [go_sem, fld])
              simp only [go_sem, fld, sized_fld, hrm, w1]
              exact ⟨⟨k + 1, acc ++ [l.getD k default], by omega, by rw [← hx]; simp⟩, by show l.length - (k + 1) < l.length - k; omega, ⟨rfl, forall_cons rfl (forall_cons (by simp [upd, fld]) (forall_cons rfl (forall_nil))), forall_nil, forall_cons (by simp [upd]) forall_nil⟩⟩
            · obtain rfl : k = l.length := by omega
              rw [List.drop_length, List.append_nil] at hx
              subst hx
              simp only [go_sem, flds, h, fldsc]
          · simp only [go_sem]
            refine vCall_of (hR) ?_ ?_ ?_; (focus simp only [go_sem, flds]); (focus simp only [go_sem, flds])
            simp only [go_sem]
            refine vCall_of (hF) ?_ ?_ ?_; (focus simp only [go_sem, fld]); (focus simp only [go_sem, fld])
            simp only [go_sem]
            refine vCall_of (hI) ?_ ?_ ?_; (focus simp only [go_sem, flds, ref]); (focus simp only [go_sem, flds, ref])
            simp only [go_sem, h2, h3, w0]
            refine ⟨by omega, ?_⟩
            refine awp_moveRow 6 27 49 0 7 84 [] rfl rfl rfl ?_
            exact awp_label_seq (cut ⟨0, [], Nat.zero_le _, rfl⟩ _ ⟨rfl, (forall_cons rfl (forall_cons rfl (forall_cons rfl (forall_cons rfl (forall_nil))))), forall_cons ⟨rfl, rfl⟩ forall_nil, forall_cons rfl forall_nil⟩)
end Go.Proofs.YtnadlkjmdimjkaaGreat
