/- Contracts of functions and laws of this seat, each for every input that it names: lemmas of the proof. -/
import Derived.Test.YtcomkajmhlhphaaGreatXCr
import Derived.Test.YtcomkajmhlhphaaGreatXCi
set_option linter.unusedSimpArgs false
set_option linter.unusedVariables false
set_option linter.unusedSimpArgs false
set_option linter.unusedVariables false
namespace Go.Proofs.YtcomkajmhlhphaaGreat
open Go.PL
/-- how many of a list's fates aren't whole -/
def lossN (l : List Ft) : Nat := (l.filter fun x => x.k != 1).length
def worseN (l : List Ft) : Nat := (l.filter fun x => x.k == 2 || x.k == 3).length
def lostN (m : List Eg) (a b : Tg) : Nat := lossN ((schM (treeOf m) a).1.map fun f => goesF m a b f.at')
def costM (m : List Eg) (a b : Tg) : Int × Int × Int := if pathC m a b ≠ 0 then (0, 0, pathC m a b) else ((lostN m a b : Int), ((pathM m a b).1.length : Int), 0)
def costc (x : Int × Int × Int) : PV := .tup [.int .i64 x.1, .int .i64 x.2.1, .int .i64 x.2.2]
theorem lossN_snoc (l : List Ft) (x : Ft) : lossN (l ++ [x]) = lossN l + (if x.k = 1 then 0 else 1) := by
  unfold lossN
  rw [List.filter_append, List.length_append]
  congr 1
  simp only [List.filter_cons, List.filter_nil]
  by_cases h : x.k = 1
  · rw [if_neg (by simp [h]), if_pos h]; rfl
  · rw [if_pos (by simpa using h), if_neg h]; rfl
theorem worseN_snoc (l : List Ft) (x : Ft) : worseN (l ++ [x]) = worseN l + (if x.k = 2 ∨ x.k = 3 then 1 else 0) := by
  unfold worseN
  rw [List.filter_append, List.length_append]
  congr 1
  simp only [List.filter_cons, List.filter_nil]
  by_cases h : x.k = 2 ∨ x.k = 3
  · rw [if_pos (by simpa using h), if_pos h]; rfl
  · rw [if_neg (by simpa using h), if_neg h]; rfl
theorem lossN_le (l : List Ft) : lossN l ≤ l.length := List.length_filter_le _ _
theorem worseN_le (l : List Ft) : worseN l ≤ l.length := List.length_filter_le _ _
theorem goesF_kinds (m : List Eg) (a b : Tg) (r : Rf) : (goesF m a b r).k = 1 ∨ (goesF m a b r).k = 2 ∨ (goesF m a b r).k = 3 := by
  unfold goesF
  split
  · exact .inr (.inr rfl)
  · split
    · exact .inl rfl
    · exact .inr (.inl rfl)
theorem lateF_kinds (m : List Eg) (a b : Tg) (met : List Rf) (r : Rf) : 4 ≤ (lateF m a b met r).k := by
  unfold lateF
  simp only
  split
  · decide
  · split <;> decide
theorem worse_fates (m : List Eg) (a b : Tg) (hc : pathC m a b = 0) : worseN (fatesM m a b).1 = lostN m a b := by
  unfold fatesM lostN
  rw [if_neg (by rw [hc]; simp)]
  simp only
  unfold worseN lossN
  rw [List.filter_append, List.length_append]
  have e2 : List.filter (fun x : Ft => x.k == 2 || x.k == 3) ((schM (treeOf m) b).1.map fun f => lateF m a b (metF m a b (schM (treeOf m) a).1) f.at') = [] := by
    rw [List.filter_eq_nil_iff]
    intro x hx
    obtain ⟨f, _, rfl⟩ := List.mem_map.1 hx
    have := lateF_kinds m a b (metF m a b (schM (treeOf m) a).1) f.at'
    simp only [Bool.or_eq_true, beq_iff_eq]
    omega
  rw [e2, List.length_nil, Nat.add_zero]
  congr 1
  apply List.filter_congr
  intro x hx
  obtain ⟨f, _, rfl⟩ := List.mem_map.1 hx
  rcases goesF_kinds m a b f.at' with h | h | h <;> rw [h] <;> rfl
set_option maxRecDepth 20000 in
set_option maxHeartbeats 8000000 in
theorem LCosts_pure (m : List Eg) (a b : Tg) (hm : OkM m) (hr : RightM m) : PL.Pure Tryz.prog 17 [tr (treeOf m), tg a, tg b] (costc (costM m a b)) := by
  have hE := LEnds_pure m a b hm
  have hP := Path_pure m a b hm
  have hpl := legs_len m a b hm
  have hpc : (pathM m a b).2 = pathC m a b := by unfold pathM; split <;> simp_all
  unfold endsM at hE
  unfold costM
  by_cases hc : pathC m a b = 0
  · have hG := fun r => LGoes_pure m a b r hm hr hc
    have okA := okSchL hm (pathC_zero.1 hc).1
    have okB := okSchL hm (pathC_zero.1 hc).2
    unfold lostN
    rw [hc] at hE hpc ⊢
    simp only [ne_eq, not_true_eq_false, if_false] at hE ⊢
    generalize (schM (treeOf m) a).1 = A at *
    generalize (schM (treeOf m) b).1 = B at *
    generalize pathM m a b = pm at *
    obtain ⟨legs, c2⟩ := pm
    simp only at hpc hpl ⊢
    subst hpc
    have hAn := okA.n
    have hAm : A.length ≤ maxLen := by rw [maxLen_eq]; omega
    refine PL.Pure.of_v Tryz.func17 (by decide) rfl Tryz.ntmps17 Tryz.results17 (by simp) rfl ?_
    simp only [go_sem, tr, tg]
    refine vCall_of (hE) ?_ ?_ ?_; (focus simp only [go_sem, tr, tg]); (focus simp only [go_sem, tr, tg])
    simp only [go_sem, flds]
    refine vLoopM (ι := { x : Nat // x ≤ (A).length }) 64 (fun x => [(0, tr (treeOf m)), (4, .ptr 4 0), (5, .ptr 5 0), (12, .int .i64 ((lossN ((A.take x.1).map fun f => goesF m a b f.at') : Nat) : Int)), (29, flds A), (30, .int .i64 (A.length : Int)), (31, .int .i64 (x.1 : Int))]) (fun x => [(4, tcells a, false), (5, tcells b, false)]) (fun x => []) (fun x => (A).length - x.1) ⟨0, Nat.zero_le _⟩ ⟨rfl, (forall_cons rfl (forall_cons rfl (forall_cons rfl (forall_cons rfl (forall_cons rfl (forall_cons rfl (forall_cons rfl forall_nil))))))), (forall_cons ⟨rfl, rfl⟩ (forall_cons ⟨rfl, rfl⟩ forall_nil)), forall_nil⟩ (fun x => ⟨(forall_cons rfl (forall_cons rfl (forall_cons rfl (forall_cons rfl (forall_cons rfl (forall_cons rfl (forall_cons rfl forall_nil))))))), (forall_cons rfl (forall_cons rfl forall_nil))⟩) (fun x => ?_); obtain ⟨k, hk⟩ := x; simp only at hk ⊢
    by_cases h : (k : Int) < (A.length : Int)
    · (have hka : k < (A).length := by omega); (have w1 := w64s hka (hAm)); (have i1 : (0 : Int) ≤ (k : Int) := by omega)
      have i0 : (0 : Int) ≤ (k : Int) := by omega
      have hts : lossN ((A.take (k + 1)).map fun f => goesF m a b f.at') = lossN ((A.take k).map fun f => goesF m a b f.at') + (if (goesF m a b (A.getD k default).at').k = 1 then 0 else 1) := by rw [take_snoc (d := default) hka, List.map_append]; exact lossN_snoc _ _
      have hle := lossN_le ((A.take k).map fun f => goesF m a b f.at')
      have hlk : ((A.take k).map fun f => goesF m a b f.at').length = k := by simp; omega
      rw [hlk] at hle
      have g1 := hG (A.getD k default).at'
      generalize goesF m a b (A.getD k default).at' = g at *
      generalize lossN ((A.take k).map fun f => goesF m a b f.at') = z at *
      by_cases k1 : g.k = 1
      · have e1 : (g.k != 1) = false := by simpa using k1
        rw [if_pos k1, Nat.add_zero] at hts
        simp only [go_sem, flds, h, List.length_map, getD_fld hka, fld, i0, tcells]
        refine vCall_of (g1) ?_ ?_ ?_; (focus simp only [go_sem, tr, tg, ref]); (focus simp only [go_sem, tr, tg, ref])
        simp only [go_sem, ftc, ft, e1, w1]
        exact ⟨⟨k + 1, by (try simp only); omega⟩, by show (A).length - (k + 1) < (A).length - k; omega, ⟨rfl, (forall_cons rfl (forall_cons rfl (forall_cons rfl (forall_cons (by (show PV.int _ _ = PV.int _ _; rw [hts]; try rfl)) (forall_cons rfl (forall_cons rfl (forall_cons rfl forall_nil))))))), (forall_cons ⟨rfl, rfl⟩ (forall_cons ⟨rfl, rfl⟩ forall_nil)), forall_nil⟩⟩
      · have e1 : (g.k != 1) = true := by simpa using k1
        rw [if_neg k1] at hts
        have w2 : IntKind.i64.wrap ((z : Int) + 1) = ((z + 1 : Nat) : Int) := by rw [w64 (by omega)]; rfl
        simp only [go_sem, flds, h, List.length_map, getD_fld hka, fld, i0, tcells]
        refine vCall_of (g1) ?_ ?_ ?_; (focus simp only [go_sem, tr, tg, ref]); (focus simp only [go_sem, tr, tg, ref])
        simp only [go_sem, ftc, ft, e1, w1, w2]
        exact ⟨⟨k + 1, by (try simp only); omega⟩, by show (A).length - (k + 1) < (A).length - k; omega, ⟨rfl, (forall_cons rfl (forall_cons rfl (forall_cons rfl (forall_cons (by (show PV.int _ _ = PV.int _ _; rw [hts]; try rfl)) (forall_cons rfl (forall_cons rfl (forall_cons rfl forall_nil))))))), (forall_cons ⟨rfl, rfl⟩ (forall_cons ⟨rfl, rfl⟩ forall_nil)), forall_nil⟩⟩
    · obtain rfl : k = A.length := by omega
      have htl : A.take A.length = A := List.take_length
      simp only [go_sem, flds, h, htl, List.length_map, tcells]
      refine vCall_of (hP) ?_ ?_ ?_; (focus simp only [go_sem, tr, tg]); (focus simp only [go_sem, tr, tg])
      simp only [go_sem, legsc, lgs, costc, List.length_map]
  · have hc' : (pathC m a b != 0) = true := by simpa using hc
    simp only [ne_eq, hc, not_false_eq_true, if_true] at hE ⊢
    refine PL.Pure.of_v Tryz.func17 (by decide) rfl Tryz.ntmps17 Tryz.results17 (by simp) rfl ?_
    simp only [go_sem, tr, tg]
    refine vCall_of (hE) ?_ ?_ ?_; (focus simp only [go_sem, tr, tg]); (focus simp only [go_sem, tr, tg])
    simp only [go_sem, flds, List.map_nil, hc', costc]
set_option maxRecDepth 20000 in
set_option maxHeartbeats 8000000 in
theorem RWorse_pure (l : List Ft) (hl : l.length ≤ 1000000) : PL.Pure Tryz.prog 22 [fts l] (.int .i64 (worseN l : Int)) := by
  have hlm : l.length ≤ maxLen := by rw [maxLen_eq]; omega
  refine PL.Pure.of_v Tryz.func22 (by decide) rfl Tryz.ntmps22 Tryz.results22 (by simp) rfl ?_
  simp only [go_sem, fts]
  refine vLoopM (ι := { x : Nat // x ≤ (l).length }) 28 (fun x => [(0, fts l), (3, .int .i64 ((worseN (l.take x.1) : Nat) : Int)), (4, .int .i64 (x.1 : Int))]) (fun x => []) (fun x => []) (fun x => (l).length - x.1) ⟨0, Nat.zero_le _⟩ ⟨rfl, (forall_cons rfl (forall_cons rfl (forall_cons rfl forall_nil))), forall_nil, forall_nil⟩ (fun x => ⟨(forall_cons rfl (forall_cons rfl (forall_cons rfl forall_nil))), forall_nil⟩) (fun x => ?_); obtain ⟨k, hk⟩ := x; simp only at hk ⊢
  by_cases h : (k : Int) < (l.length : Int)
  · (have hka : k < (l).length := by omega); (have w1 := w64s hka (hlm)); (have i1 : (0 : Int) ≤ (k : Int) := by omega)
    have i0 : (0 : Int) ≤ (k : Int) := by omega
    have hts : worseN (l.take (k + 1)) = worseN (l.take k) + (if (l.getD k default).k = 2 ∨ (l.getD k default).k = 3 then 1 else 0) := by rw [take_snoc (d := default) hka]; exact worseN_snoc _ _
    have hle := worseN_le (l.take k)
    rw [List.length_take] at hle
    have hgd := getD_ft hka
    generalize l.getD k default = g at *
    generalize worseN (l.take k) = z at *
    have w2 : IntKind.i64.wrap ((z : Int) + 1) = ((z + 1 : Nat) : Int) := by rw [w64 (by omega)]; rfl
    by_cases k2 : g.k = 2
    · have e2 : (g.k == 2) = true := by simpa using k2
      rw [if_pos (.inl k2)] at hts
      simp only [go_sem, fts, h, List.length_map, hgd, ft, i0, e2, w1, w2]
      exact ⟨⟨k + 1, by (try simp only); omega⟩, by show (l).length - (k + 1) < (l).length - k; omega, ⟨rfl, (forall_cons rfl (forall_cons (by (show PV.int _ _ = PV.int _ _; rw [hts]; try rfl)) (forall_cons rfl forall_nil))), forall_nil, forall_nil⟩⟩
    · have e2 : (g.k == 2) = false := by simpa using k2
      by_cases k3 : g.k = 3
      · have e3 : (g.k == 3) = true := by simpa using k3
        rw [if_pos (.inr k3)] at hts
        simp only [go_sem, fts, h, List.length_map, hgd, ft, i0, e2, e3, w1, w2]
        exact ⟨⟨k + 1, by (try simp only); omega⟩, by show (l).length - (k + 1) < (l).length - k; omega, ⟨rfl, (forall_cons rfl (forall_cons (by (show PV.int _ _ = PV.int _ _; rw [hts]; try rfl)) (forall_cons rfl forall_nil))), forall_nil, forall_nil⟩⟩
      · have e3 : (g.k == 3) = false := by simpa using k3
        rw [if_neg (fun hh => hh.elim k2 k3), Nat.add_zero] at hts
        simp only [go_sem, fts, h, List.length_map, hgd, ft, i0, e2, e3, w1, w2]
        exact ⟨⟨k + 1, by (try simp only); omega⟩, by show (l).length - (k + 1) < (l).length - k; omega, ⟨rfl, (forall_cons rfl (forall_cons (by (show PV.int _ _ = PV.int _ _; rw [hts]; try rfl)) (forall_cons rfl forall_nil))), forall_nil, forall_nil⟩⟩
  · obtain rfl : k = l.length := by omega
    have htl : l.take l.length = l := List.take_length
    simp only [go_sem, fts, h, htl, List.length_map]
end Go.Proofs.YtcomkajmhlhphaaGreat

set_option linter.unusedSimpArgs false
set_option linter.unusedVariables false
set_option linter.unusedSimpArgs false
set_option linter.unusedVariables false
namespace Go.Proofs.YtcomkajmhlhphaaGreat
open Go.PL
theorem trace_bad : ∀ (row : List Ln) (r : Rf), (traceL row r).2 = false → traceL row r = (default, false) ∧ keptL row r = false
  | [], r, h => by cases h
  | x :: xs, r, h => by
    rw [traceL_cons] at h ⊢
    rw [keptL_cons]
    split at h
    · rename_i hz
      rw [if_pos hz, if_pos hz]
      exact ⟨rfl, by split <;> rfl⟩
    · rename_i hz
      rw [if_neg hz, if_neg hz]
      obtain ⟨h1, h2⟩ := trace_bad xs _ h
      exact ⟨h1, by rw [h2]; split <;> rfl⟩
theorem along_eq (row : List Ln) (r : Rf) : alongD row r = ((traceL row r).1, (traceL row r).2, keptL row r) := by
  unfold alongD
  cases h : (traceL row r).2
  · obtain ⟨h1, h2⟩ := trace_bad row r h
    rw [if_pos rfl, h1, h2]
  · rw [if_neg (by simp)]
end Go.Proofs.YtcomkajmhlhphaaGreat

set_option linter.unusedSimpArgs false
set_option linter.unusedVariables false
set_option linter.unusedSimpArgs false
set_option linter.unusedVariables false
namespace Go.Proofs.YtcomkajmhlhphaaGreat
open Go.PL
theorem goesF_row (m : List Eg) (a b : Tg) (r : Rf) (hc : pathC m a b = 0) : goesF m a b r = if (traceL (rowM m a b).1 r).2 = false then ⟨3, r, default⟩ else if keptL (rowM m a b).1 r = true then ⟨1, r, (traceL (rowM m a b).1 r).1⟩ else ⟨2, r, (traceL (rowM m a b).1 r).1⟩ := by
  have e1 : traceT m a b r = traceL (rowM m a b).1 r := by unfold traceT; rw [if_neg (by rw [hc]; simp)]
  have e2 : keptT m a b r = keptL (rowM m a b).1 r := by unfold keptT; rw [if_neg (by rw [hc]; simp)]
  unfold goesF
  rw [e1, e2]
theorem sureT_row (m : List Eg) (a b : Tg) (r : Rf) (hc : pathC m a b = 0) : sureT m a b r = sureR (rowM m a b).1.reverse r := by
  unfold sureT
  rw [if_neg (by rw [hc]; simp), sureE_all]
  simp
set_option maxRecDepth 20000 in
set_option maxHeartbeats 32000000 in
theorem RFates_pure (m : List Eg) (a b : Tg) (hm : OkM m) (hr : RightM m) : PL.Pure Tryz.prog 20 [egs m, tg a, tg b] (ftsc (fatesM m a b)) := by
  have hR := RRow_pure m a b hm hr
  obtain ⟨hrl, hro⟩ := row_ok (a := a) (b := b) hm
  have hc2 : (rowM m a b).2 = pathC m a b := by unfold rowM; split <;> simp_all
  unfold fatesM
  by_cases hc : pathC m a b = 0
  · have hSa := RSchema_pure m a hm
    have hSb := RSchema_pure m b hm
    have okA := okSchL hm (pathC_zero.1 hc).1
    have okB := okSchL hm (pathC_zero.1 hc).2
    have hA := fun r => Along_pure (rowM m a b).1 r hrl hro
    have hQ := fun r => RSureAt_pure _ (rowM m a b).1 r rfl hrl hro
    have g0 := fun r => goesF_row m a b r hc
    have s0 := fun r => sureT_row m a b r hc
    have snoc : ∀ k, k < (schM (treeOf m) a).1.length → metF m a b ((schM (treeOf m) a).1.take (k + 1)) = metF m a b ((schM (treeOf m) a).1.take k) ++ (if (goesF m a b ((schM (treeOf m) a).1.getD k default).at').k = 3 then [] else [(goesF m a b ((schM (treeOf m) a).1.getD k default).at').to]) := fun k hk => metF_snoc m a b hk
    have va : (schM (treeOf m) a).2 = 0 := (pathC_zero.1 hc).1
    have vb : (schM (treeOf m) b).2 = 0 := (pathC_zero.1 hc).2
    have ml : ∀ l : List Fd, (metF m a b l).length ≤ l.length := fun l => by
      unfold metF
      have := List.length_filterMap_le (fun x : Ft => if x.k = 3 then none else some x.to) (l.map fun f => goesF m a b f.at')
      simpa using this
    have along : ∀ r, alongD (rowM m a b).1 r = ((traceL (rowM m a b).1 r).1, (traceL (rowM m a b).1 r).2, keptL (rowM m a b).1 r) := fun r => along_eq _ r
    have bad : ∀ r, (traceL (rowM m a b).1 r).2 = false → keptL (rowM m a b).1 r = false := fun r h => (trace_bad _ r h).2
    simp only [← s0] at hQ
    simp only [along] at hA
    rw [hc] at hc2
    rw [hc]
    simp only [ne_eq, not_true_eq_false, if_false]
    generalize schM (treeOf m) a = ya at *
    obtain ⟨A, ca⟩ := ya
    generalize schM (treeOf m) b = yb at *
    obtain ⟨B, cb⟩ := yb
    generalize rowM m a b = rw0 at *
    obtain ⟨row, c0⟩ := rw0
    simp only at *
    subst va vb hc2
    have hAn := okA.n
    have hBn := okB.n
    have hAm : A.length ≤ maxLen := by rw [maxLen_eq]; omega
    have hBm : B.length ≤ maxLen := by rw [maxLen_eq]; omega
    refine PL.Pure.of_v Tryz.func20 (by decide) rfl Tryz.ntmps20 Tryz.results20 (by simp) (ftsc_dids _) ?_
    simp only [go_sem, egs, tg]
    refine vCall_of (hR) ?_ ?_ ?_; (focus simp only [go_sem, egs, tg]); (focus simp only [go_sem, egs, tg])
    simp only [go_sem, lnsc, egs]
    refine vCall_of (hSa) ?_ ?_ ?_; (focus simp only [go_sem, egs, tg]); (focus simp only [go_sem, egs, tg])
    simp only [go_sem, fldsc]
    refine awp_moveRow 10 34 78 0 7 53 [] rfl rfl rfl ?_
    refine awp_moveRow 11 35 72 0 3 38 [] rfl rfl rfl ?_
    refine vLoopM (ι := { x : Nat × (List Rf) // x.1 ≤ (A).length ∧ (x.2 = metF m a b (A.take x.1)) }) 127 (fun x => [(0, egs m), (5, .ptr 5 0), (8, lnss row), (10, .sl (.row 78) (((A.take x.1.1).map fun f => goesF m a b f.at').map ft)), (11, .sl (.row 72) (x.1.2.map ref)), (12, flds A), (14, .int .i64 (x.1.1 : Int))]) (fun x => [(5, tcells b, false)]) (fun x => [(78, .live (x.1.1) (7) (53)), (72, .live (x.1.2.length) (3) (38))]) (fun x => (A).length - x.1.1) ⟨(0, []), Nat.zero_le _, rfl⟩ ⟨rfl, (forall_cons rfl (forall_cons rfl (forall_cons rfl (forall_cons rfl (forall_cons rfl (forall_cons rfl (forall_cons rfl forall_nil))))))), (forall_cons ⟨rfl, rfl⟩ forall_nil), (forall_cons rfl (forall_cons rfl forall_nil))⟩ (fun x => ⟨(forall_cons rfl (forall_cons rfl (forall_cons rfl (forall_cons (by simp [PV.ids, refInM]) (forall_cons (by simp [PV.ids, refInM]) (forall_cons rfl (forall_cons rfl forall_nil))))))), (forall_cons rfl forall_nil)⟩) (fun x => ?_); obtain ⟨⟨k, met⟩, hk, hI⟩ := x; simp only at hk hI ⊢
    by_cases h : (k : Int) < (A.length : Int)
    · (have hka : k < (A).length := by omega); (have w1 := w64s hka (hAm)); (have i1 : (0 : Int) ≤ (k : Int) := by omega)
      have i0 : (0 : Int) ≤ (k : Int) := by omega
      have hsn := snoc k hka
      have htk : ((A.take (k + 1)).map fun f => goesF m a b f.at') = ((A.take k).map fun f => goesF m a b f.at') ++ [goesF m a b (A.getD k default).at'] := by rw [take_snoc (d := default) hka, List.map_append]; rfl
      have hlk : ((A.take k).map fun f => goesF m a b f.at').length = k := by simp; omega
      have hrm := room1 (show k + 1 ≤ 1000000 by omega) (show 88 ≤ 1000 by omega)
      have hml := ml (A.take k)
      rw [← hI] at hml hsn
      have hml2 : met.length ≤ 1000 := by rw [List.length_take] at hml; omega
      have hrm2 := room1 (show met.length + 1 ≤ 1000000 by omega) (show 40 ≤ 1000 by omega)
      have a1 := hA (A.getD k default).at'
      have g1 := g0 (A.getD k default).at'
      have b1 := bad (A.getD k default).at'
      generalize goesF m a b (A.getD k default).at' = g at *
      generalize traceL row (A.getD k default).at' = t at *
      generalize keptL row (A.getD k default).at' = kp at *
      obtain ⟨w, ok⟩ := t
      simp only at g1 a1 b1
      cases ok
      · have := b1 rfl
        subst this
        simp only [if_true] at g1
        subst g1
        simp only [if_true, List.append_nil] at hsn
        simp only [go_sem, flds, h, List.length_map, lnss, getD_fld hka, fld, i0, i1]
        refine vCall_of (a1) ?_ ?_ ?_; (focus simp only [go_sem, lnss, ref]); (focus simp only [go_sem, lnss, ref])
        simp only [go_sem, alc, ref, flds, h, List.length_map, getD_fld hka, fld, i0, i1, sized_ft, hlk, hrm, w1]
        exact ⟨⟨(k + 1, met), by (try simp only); omega, hsn.symm⟩, by show (A).length - (k + 1) < (A).length - k; omega, ⟨rfl, (forall_cons rfl (forall_cons rfl (forall_cons rfl (forall_cons (by (show PV.sl _ _ = PV.sl _ _; rw [htk, List.map_append]; rfl)) (forall_cons (by simp [upd, ref]) (forall_cons rfl (forall_cons rfl forall_nil))))))), (forall_cons ⟨rfl, rfl⟩ forall_nil), (forall_cons rfl (forall_cons (by simp [upd, Hp.setq, St.with]) forall_nil))⟩⟩
      · cases kp
        · simp only [Bool.true_eq_false, if_false, Bool.false_eq_true] at g1
          subst g1
          simp only [Int.reduceEq, if_false] at hsn
          simp only [go_sem, flds, h, List.length_map, lnss, getD_fld hka, fld, i0, i1]
          refine vCall_of (a1) ?_ ?_ ?_; (focus simp only [go_sem, lnss, ref]); (focus simp only [go_sem, lnss, ref])
          simp only [go_sem, alc, ref, flds, h, List.length_map, getD_fld hka, fld, i0, i1, sized_ref, hrm2, sized_ft, hlk, hrm, w1]
          exact ⟨⟨(k + 1, met ++ [w]), by (try simp only); omega, hsn.symm⟩, by show (A).length - (k + 1) < (A).length - k; omega, ⟨rfl, (forall_cons rfl (forall_cons rfl (forall_cons rfl (forall_cons (by (show PV.sl _ _ = PV.sl _ _; rw [htk, List.map_append]; rfl)) (forall_cons (by simp [upd, ref]) (forall_cons rfl (forall_cons rfl forall_nil))))))), (forall_cons ⟨rfl, rfl⟩ forall_nil), (forall_cons rfl (forall_cons (by simp [upd, Hp.setq, St.with]) forall_nil))⟩⟩
        · simp only [Bool.true_eq_false, if_false, if_true] at g1
          subst g1
          simp only [Int.reduceEq, if_false] at hsn
          simp only [go_sem, flds, h, List.length_map, lnss, getD_fld hka, fld, i0, i1]
          refine vCall_of (a1) ?_ ?_ ?_; (focus simp only [go_sem, lnss, ref]); (focus simp only [go_sem, lnss, ref])
          simp only [go_sem, alc, ref, flds, h, List.length_map, getD_fld hka, fld, i0, i1, sized_ref, hrm2, sized_ft, hlk, hrm, w1]
          exact ⟨⟨(k + 1, met ++ [w]), by (try simp only); omega, hsn.symm⟩, by show (A).length - (k + 1) < (A).length - k; omega, ⟨rfl, (forall_cons rfl (forall_cons rfl (forall_cons rfl (forall_cons (by (show PV.sl _ _ = PV.sl _ _; rw [htk, List.map_append]; rfl)) (forall_cons (by simp [upd, ref]) (forall_cons rfl (forall_cons rfl forall_nil))))))), (forall_cons ⟨rfl, rfl⟩ forall_nil), (forall_cons rfl (forall_cons (by simp [upd, Hp.setq, St.with]) forall_nil))⟩⟩
    · obtain rfl : k = A.length := by omega
      have htl : A.take A.length = A := List.take_length
      rw [htl] at hI
      have hml := ml A
      rw [← hI] at hml
      have hmm : met.length ≤ maxLen := by rw [maxLen_eq]; omega
      have hla : (A.map fun f => goesF m a b f.at').length = A.length := by simp
      rw [← hI]
      simp only [go_sem, flds, h, htl, List.length_map, egs, tcells]
      refine vCall_of (hSb) ?_ ?_ ?_; (focus simp only [go_sem, egs, tg]); (focus simp only [go_sem, egs, tg])
      simp only [go_sem, fldsc]
      refine awp_moveRow 10 78 125 A.length 7 53 ((A.map fun f => goesF m a b f.at').map ft) rfl rfl rfl ?_
      refine vLoopM (ι := { k : Nat // k ≤ B.length }) 127 (fun x => [(8, lnss row), (10, .sl (.row 125) (((A.map fun f => goesF m a b f.at') ++ ((B.take x.1).map fun f => lateF m a b met f.at')).map ft)), (11, .sl (.row 72) (met.map ref)), (19, flds B), (21, .int .i64 (x.1 : Int))]) (fun x => []) (fun x => [(125, .live (A.length + x.1) 7 53), (72, .live met.length 3 38)]) (fun x => B.length - x.1) ⟨0, Nat.zero_le _⟩
        ⟨rfl, (forall_cons rfl (forall_cons ?_ (forall_cons rfl (forall_cons rfl (forall_cons rfl forall_nil))))), forall_nil, forall_cons rfl (forall_cons rfl forall_nil)⟩ (fun x => ⟨(forall_cons rfl (forall_cons rfl (forall_cons rfl (forall_cons rfl (forall_cons rfl (forall_nil)))))), forall_nil⟩) (fun x => ?_)
      · show PV.sl _ _ = PV.sl _ _
        simp
      obtain ⟨kc, hkc⟩ := x
      simp only
      by_cases hb : (kc : Int) < (B.length : Int)
      · have hkac : kc < B.length := by omega
        have w1c : IntKind.i64.wrap ((kc : Int) + 1) = ((kc + 1 : Nat) : Int) := by rw [w64 (by omega)]; rfl
        have j0 : (0 : Int) ≤ (kc : Int) := by omega
        have htkc : (A.map fun f => goesF m a b f.at') ++ ((B.take (kc + 1)).map fun f => lateF m a b met f.at') = ((A.map fun f => goesF m a b f.at') ++ ((B.take kc).map fun f => lateF m a b met f.at')) ++ [lateF m a b met (B.getD kc default).at'] := by rw [take_snoc (d := default) hkac, List.map_append, List.append_assoc]; rfl
        have hll : ((A.map fun f => goesF m a b f.at') ++ ((B.take kc).map fun f => lateF m a b met f.at')).length = A.length + kc := by simp; omega
        have hrm := room1 (show A.length + kc + 1 ≤ 1000000 by omega) (show 88 ≤ 1000 by omega)
        have q1 := hQ (B.getD kc default).at'
        have hlate : lateF m a b met (B.getD kc default).at' = ⟨if sureT m a b (B.getD kc default).at' = true then 4 else if (B.getD kc default).at' ∈ met then 5 else 6, (B.getD kc default).at', default⟩ := rfl
        rw [hlate] at htkc
        clear hlate
        generalize sureT m a b (B.getD kc default).at' = su at *
        simp only [go_sem, flds, hb, List.length_map, getD_fld hkac, fld, j0]
        refine vLoopM (ι := { x : Nat × (Int) // x.1 ≤ (met).length ∧ (x.2 = if (B.getD kc default).at' ∈ met.take x.1 then 5 else 6) }) 127 (fun x => [(8, lnss row), (10, .sl (.row 125) (((A.map fun f => goesF m a b f.at') ++ ((B.take kc).map fun f => lateF m a b met f.at')).map ft)), (11, .sl (.row 72) (met.map ref)), (19, flds B), (21, .int .i64 (kc : Int)), (22, .ptr 22 0), (23, .int .i64 (x.1.1 : Int))]) (fun x => [(22, [.int .i64 x.1.2, .int .i64 (B.getD kc default).at'.sc, .str (B.getD kc default).at'.gr, .str (B.getD kc default).at'.nm, .int .i64 0, .str [], .str []], false)]) (fun x => [(125, .live (A.length + kc) (7) (53)), (72, .live (met.length) (3) (38))]) (fun x => (met).length - x.1.1) ⟨(0, 6), Nat.zero_le _, rfl⟩ ⟨rfl, (forall_cons rfl (forall_cons rfl (forall_cons rfl (forall_cons rfl (forall_cons rfl (forall_cons rfl (forall_cons rfl forall_nil))))))), (forall_cons ⟨rfl, rfl⟩ forall_nil), (forall_cons rfl (forall_cons rfl forall_nil))⟩ (fun x => ⟨(forall_cons rfl (forall_cons (by simp [PV.ids, refInM]) (forall_cons (by simp [PV.ids, refInM]) (forall_cons rfl (forall_cons rfl (forall_cons rfl (forall_cons rfl forall_nil))))))), (forall_cons rfl forall_nil)⟩) (fun x => ?_); obtain ⟨⟨ke, kd⟩, hke, hIe⟩ := x; simp only at hke hIe ⊢
        by_cases hd : (ke : Int) < (met.length : Int)
        · (have hkae : ke < (met).length := by omega); (have w1e := w64s hkae (hmm)); (have i1e : (0 : Int) ≤ (ke : Int) := by omega)
          have hts : met.take (ke + 1) = met.take ke ++ [met.getD ke default] := take_snoc (d := default) hkae
          by_cases he : met.getD ke default = (B.getD kc default).at'
          · have he' : decide (met.getD ke default = (B.getD kc default).at') = true := by simpa using he
            simp only [go_sem, hd, List.length_map]
            refine vDrawQ (by kernel_rfl) (by kernel_rfl) ?_
            simp only [go_sem, getD_ref hkae, flds, ref, fld, getD_fld hkac, j0, i1e, hb, hd, List.length_map, ref_fold, he', w1e]
            exact ⟨⟨(ke + 1, 5), by (try simp only); omega, by rw [if_pos]; rw [hts, List.mem_append, List.mem_singleton]; exact .inr he.symm⟩, by show (met).length - (ke + 1) < (met).length - ke; omega, ⟨rfl, (forall_cons rfl (forall_cons rfl (forall_cons rfl (forall_cons rfl (forall_cons rfl (forall_cons rfl (forall_cons rfl forall_nil))))))), (forall_cons ⟨rfl, rfl⟩ forall_nil), (forall_cons rfl (forall_cons rfl forall_nil))⟩⟩
          · have he' : decide (met.getD ke default = (B.getD kc default).at') = false := by simpa using he
            simp only [go_sem, hd, List.length_map]
            refine vDrawQ (by kernel_rfl) (by kernel_rfl) ?_
            simp only [go_sem, getD_ref hkae, flds, ref, fld, getD_fld hkac, j0, i1e, hb, hd, List.length_map, ref_fold, he', w1e]
            exact ⟨⟨(ke + 1, kd), by (try simp only); omega, by rw [hIe, hts]; simp only [List.mem_append, List.mem_singleton, show ¬ (B.getD kc default).at' = met.getD ke default from fun e => he e.symm, or_false]⟩, by show (met).length - (ke + 1) < (met).length - ke; omega, ⟨rfl, (forall_cons rfl (forall_cons rfl (forall_cons rfl (forall_cons rfl (forall_cons rfl (forall_cons rfl (forall_cons rfl forall_nil))))))), (forall_cons ⟨rfl, rfl⟩ forall_nil), (forall_cons rfl (forall_cons rfl forall_nil))⟩⟩
        · obtain rfl : ke = met.length := by omega
          rw [show met.take met.length = met from List.take_length] at hIe
          rw [← hIe] at htkc
          cases su
          all_goals
            simp only [go_sem, hd, flds, List.length_map, getD_fld hkac, fld, j0, hb]
            refine vCall_of (q1) ?_ ?_ ?_; (focus simp only [go_sem, lnss, ref]); (focus simp only [go_sem, lnss, ref])
            simp only [go_sem, sized_ft, List.length_map, hll, hrm, w1c]
            refine ⟨⟨kc + 1, by omega⟩, by show B.length - (kc + 1) < B.length - kc; omega, ⟨rfl, (forall_cons rfl (forall_cons ?_ (forall_cons rfl (forall_cons rfl (forall_cons rfl forall_nil))))), forall_nil, forall_cons rfl (forall_cons rfl forall_nil)⟩⟩
            show PV.sl _ _ = PV.sl _ _
            rw [htkc]
            simp only [List.map_append, List.map_cons, List.map_nil]
            rfl
      · obtain rfl : kc = B.length := by omega
        have htb : B.take B.length = B := List.take_length
        simp only [go_sem, flds, hb, htb, List.length_map, ftsc, fts]
  · have hc' : (pathC m a b != 0) = true := by simpa using hc
    simp only [ne_eq, hc, not_false_eq_true, if_true]
    generalize rowM m a b = rw0 at *
    obtain ⟨row, c0⟩ := rw0
    simp only at hc2
    subst hc2
    refine PL.Pure.of_v Tryz.func20 (by decide) rfl Tryz.ntmps20 Tryz.results20 (by simp) (ftsc_dids _) ?_
    simp only [go_sem, egs, tg]
    refine vCall_of (hR) ?_ ?_ ?_; (focus simp only [go_sem, egs, tg]); (focus simp only [go_sem, egs, tg])
    simp only [go_sem, lnsc, hc', ftsc, fts, List.map_nil]
end Go.Proofs.YtcomkajmhlhphaaGreat

set_option linter.unusedSimpArgs false
set_option linter.unusedVariables false
set_option linter.unusedSimpArgs false
set_option linter.unusedVariables false
namespace Go.Proofs.YtcomkajmhlhphaaGreat
open Go.PL
/-- the best so far: its tag, whether there is one, how many fields it costs, over how many legs -/
structure Nb where
  t : Tg
  f : Bool
  n : Nat
  k : Nat
def nearS (m : List Eg) (a : Tg) (s : Nb) (t : Tg) : Nb :=
  if t = a then s else if s.f = false ∨ lostN m a t < s.n ∨ (lostN m a t = s.n ∧ (pathM m a t).1.length < s.k) then ⟨t, true, lostN m a t, (pathM m a t).1.length⟩ else s
def nearF (m : List Eg) (a : Tg) (l : List Tg) : Nb := l.foldl (nearS m a) ⟨default, false, 0, 0⟩
def nearM (m : List Eg) (a : Tg) (l : List Tg) : Tg × Int := if (schM (treeOf m) a).2 ≠ 0 then (default, (schM (treeOf m) a).2) else if (nearF m a l).f = true then ((nearF m a l).t, 0) else (default, 6)
def nearc (x : Tg × Int) : PV := .tup [tg x.1, .int .i64 x.2]
theorem nearF_snoc (m : List Eg) (a : Tg) {l : List Tg} {k : Nat} (hk : k < l.length) : nearF m a (l.take (k + 1)) = nearS m a (nearF m a (l.take k)) (l.getD k default) := by
  unfold nearF
  rw [take_snoc (d := default) hk, List.foldl_append]
  rfl
structure NrI (m : List Eg) (a : Tg) (l : List Tg) where
  k : Nat
  hk : k ≤ l.length
set_option maxRecDepth 20000 in
set_option maxHeartbeats 32000000 in
theorem LNearest_pure (m : List Eg) (a : Tg) (L : List Tg) (hm : OkM m) (hr : RightM m) (hLive : PL.Pure Tryz.prog 16 [tr (treeOf m)] (tgs L)) (hLl : L.length ≤ 1000000) (hLok : ∀ t ∈ L, (schM (treeOf m) t).2 = 0) : PL.Pure Tryz.prog 7 [tr (treeOf m), tg a] (nearc (nearM m a L)) := by
  have hS := Schema_pure m a hm
  unfold nearM
  by_cases hc : (schM (treeOf m) a).2 = 0
  · have hC := fun t => LCosts_pure m a t hm hr
    have hpc : ∀ t ∈ L, pathC m a t = 0 := fun t ht => pathC_zero.2 ⟨hc, hLok t ht⟩
    have hco : ∀ t ∈ L, costM m a t = ((lostN m a t : Int), ((pathM m a t).1.length : Int), 0) := fun t ht => by unfold costM; rw [if_neg (by rw [hpc t ht]; simp)]
    have hsn := fun k (hk : k < L.length) => nearF_snoc m a hk
    generalize schM (treeOf m) a = ya at *
    obtain ⟨A, ca⟩ := ya
    simp only at hc ⊢
    subst hc
    simp only [ne_eq, not_true_eq_false, if_false]
    refine PL.Pure.of_v Tryz.func7 (by decide) rfl Tryz.ntmps7 Tryz.results7 (by simp) rfl ?_
    simp only [go_sem, tr, tg]
    refine vScopeM (ι := NrI m a L) 79 (fun x => [(0, tr (treeOf m)), (3, .ptr 3 0), (4, .ptr 4 0), (8, tgs L), (9, .ptr 9 0), (10, .int .i64 ((nearF m a (L.take x.k)).n : Int)), (11, .int .i64 ((nearF m a (L.take x.k)).k : Int)), (12, .bool (nearF m a (L.take x.k)).f), (13, .int .i64 (x.k : Int))])
      (fun x => [(3, tcells a, false), (4, tcells default, false), (9, tcells (nearF m a (L.take x.k)).t, false)]) (fun x => []) (fun x => L.length - x.k) 0 _ (by exact rfl) (fun x => ⟨(forall_cons rfl (forall_cons rfl (forall_cons rfl (forall_cons rfl (forall_cons rfl (forall_cons rfl (forall_cons rfl (forall_cons rfl (forall_cons rfl (forall_nil)))))))))), (forall_cons rfl (forall_cons rfl (forall_cons rfl (forall_nil))))⟩) (fun x => ?_) (fun cut => ?_)
    · obtain ⟨k, hk⟩ := x
      simp only
      by_cases hlt : k = L.length
      · subst hlt
        have hb : ((L.length : Int) == (L.length : Int)) = true := by simp
        rw [List.take_length]
        generalize nearF m a L = s at *
        obtain ⟨t, f, n, k⟩ := s
        simp only
        cases f
        · simp only [go_sem, tgs, List.length_map, hb, tcells, nearc, tg, Bool.false_eq_true, if_false]
          try rfl
        · simp only [go_sem, tgs, List.length_map, hb, tcells, nearc, tg, if_true]
          try rfl
      · have hka : k < L.length := by omega
        have hb : ((k : Int) == (L.length : Int)) = false := by rw [beq_eq_false_iff_ne]; omega
        have i0 : (0 : Int) ≤ (k : Int) := by omega
        have i1 : (k : Int) < (L.length : Int) := by omega
        have w1 : IntKind.i64.wrap ((k : Int) + 1) = ((k + 1 : Nat) : Int) := by rw [w64 (by omega)]; rfl
        have hs := hsn k hka
        have hgd := getD_tg hka
        have hct := hC (L.getD k default)
        rw [hco _ (getD_mem hka)] at hct
        have nx : ∀ (s' : St) (y : Nb), nearF m a (L.take (k + 1)) = y → Has 79 [(0, tr (treeOf m)), (3, .ptr 3 0), (4, .ptr 4 0), (8, tgs L), (9, .ptr 9 0), (10, .int .i64 (y.n : Int)), (11, .int .i64 (y.k : Int)), (12, .bool y.f), (13, .int .i64 ((k + 1 : Nat) : Int))]
            [(3, tcells a, false), (4, tcells default, false), (9, tcells y.t, false)] [] s' → PL.Next 79 (fun x : NrI m a L => [(0, tr (treeOf m)), (3, .ptr 3 0), (4, .ptr 4 0), (8, tgs L), (9, .ptr 9 0), (10, .int .i64 ((nearF m a (L.take x.k)).n : Int)), (11, .int .i64 ((nearF m a (L.take x.k)).k : Int)), (12, .bool (nearF m a (L.take x.k)).f), (13, .int .i64 (x.k : Int))])
            (fun x => [(3, tcells a, false), (4, tcells default, false), (9, tcells (nearF m a (L.take x.k)).t, false)]) (fun x => []) (fun x => L.length - x.k) ⟨k, hk⟩ s' := fun s' y hy hh => ⟨⟨k + 1, by omega⟩, by show L.length - (k + 1) < L.length - k; omega, by rw [← hy] at hh; exact hh⟩
        generalize nearF m a (L.take k) = s at *
        generalize nearF m a (L.take (k + 1)) = s2 at *
        generalize L.getD k default = t at *
        obtain ⟨bt, bf, bn, bk⟩ := s
        unfold nearS at hs
        simp only at hs ⊢
        by_cases ht : t = a
        · have hd : decide (t = a) = true := by simpa using ht
          rw [if_pos ht] at hs
          simp only [go_sem, tgs, List.length_map, hb, tcells, hgd, tg, i0, i1, w1, tg_fold, hd]
          refine nx _ _ hs ⟨rfl, (forall_cons rfl (forall_cons rfl (forall_cons rfl (forall_cons rfl (forall_cons rfl (forall_cons rfl (forall_cons rfl (forall_cons rfl (forall_cons rfl (forall_nil)))))))))), forall_cons ⟨rfl, rfl⟩ (forall_cons ⟨rfl, rfl⟩ (forall_cons ⟨rfl, rfl⟩ forall_nil)), forall_nil⟩
        · have hd : decide (t = a) = false := by simpa using ht
          rw [if_neg ht] at hs
          generalize lostN m a t = n at *
          generalize (pathM m a t).1.length = q at *
          cases bf
          · rw [if_pos (.inl rfl)] at hs
            simp only [go_sem, tgs, List.length_map, hb, tcells, hgd, tg, i0, i1, w1, tg_fold, hd]
            refine vCall_of (hct) ?_ ?_ ?_; (focus simp only [go_sem, tr, tg]); (focus simp only [go_sem, tr, tg])
            simp only [go_sem, costc]
            refine nx _ _ hs ⟨rfl, (forall_cons rfl (forall_cons rfl (forall_cons rfl (forall_cons rfl (forall_cons rfl (forall_cons rfl (forall_cons rfl (forall_cons rfl (forall_cons rfl (forall_nil)))))))))), forall_cons ⟨rfl, rfl⟩ (forall_cons ⟨rfl, rfl⟩ (forall_cons ⟨rfl, rfl⟩ forall_nil)), forall_nil⟩
          · by_cases c1 : n < bn
            · have c1' : (n : Int) < (bn : Int) := by omega
              rw [if_pos (.inr (.inl c1))] at hs
              simp only [go_sem, tgs, List.length_map, hb, tcells, hgd, tg, i0, i1, w1, tg_fold, hd]
              refine vCall_of (hct) ?_ ?_ ?_; (focus simp only [go_sem, tr, tg]); (focus simp only [go_sem, tr, tg])
              simp only [go_sem, costc, c1']
              refine nx _ _ hs ⟨rfl, (forall_cons rfl (forall_cons rfl (forall_cons rfl (forall_cons rfl (forall_cons rfl (forall_cons rfl (forall_cons rfl (forall_cons rfl (forall_cons rfl (forall_nil)))))))))), forall_cons ⟨rfl, rfl⟩ (forall_cons ⟨rfl, rfl⟩ (forall_cons ⟨rfl, rfl⟩ forall_nil)), forall_nil⟩
            · have c1' : ¬ (n : Int) < (bn : Int) := by omega
              by_cases c2 : n = bn
              · have c2' : ((n : Int) == (bn : Int)) = true := by rw [beq_iff_eq]; omega
                by_cases c3 : q < bk
                · have c3' : (q : Int) < (bk : Int) := by omega
                  rw [if_pos (.inr (.inr ⟨c2, c3⟩))] at hs
                  simp only [go_sem, tgs, List.length_map, hb, tcells, hgd, tg, i0, i1, w1, tg_fold, hd]
                  refine vCall_of (hct) ?_ ?_ ?_; (focus simp only [go_sem, tr, tg]); (focus simp only [go_sem, tr, tg])
                  simp only [go_sem, costc, c1', c2', c3']
                  refine nx _ _ hs ⟨rfl, (forall_cons rfl (forall_cons rfl (forall_cons rfl (forall_cons rfl (forall_cons rfl (forall_cons rfl (forall_cons rfl (forall_cons rfl (forall_cons rfl (forall_nil)))))))))), forall_cons ⟨rfl, rfl⟩ (forall_cons ⟨rfl, rfl⟩ (forall_cons ⟨rfl, rfl⟩ forall_nil)), forall_nil⟩
                · have c3' : ¬ (q : Int) < (bk : Int) := by omega
                  rw [if_neg (fun hh => by rcases hh with hh | hh | hh; exact Bool.noConfusion hh; exact c1 hh; exact c3 hh.2)] at hs
                  simp only [go_sem, tgs, List.length_map, hb, tcells, hgd, tg, i0, i1, w1, tg_fold, hd]
                  refine vCall_of (hct) ?_ ?_ ?_; (focus simp only [go_sem, tr, tg]); (focus simp only [go_sem, tr, tg])
                  simp only [go_sem, costc, c1', c2', c3']
                  refine nx _ _ hs ⟨rfl, (forall_cons rfl (forall_cons rfl (forall_cons rfl (forall_cons rfl (forall_cons rfl (forall_cons rfl (forall_cons rfl (forall_cons rfl (forall_cons rfl (forall_nil)))))))))), forall_cons ⟨rfl, rfl⟩ (forall_cons ⟨rfl, rfl⟩ (forall_cons ⟨rfl, rfl⟩ forall_nil)), forall_nil⟩
              · have c2' : ((n : Int) == (bn : Int)) = false := by rw [beq_eq_false_iff_ne]; omega
                rw [if_neg (fun hh => by rcases hh with hh | hh | hh; exact Bool.noConfusion hh; exact c1 hh; exact c2 hh.1)] at hs
                simp only [go_sem, tgs, List.length_map, hb, tcells, hgd, tg, i0, i1, w1, tg_fold, hd]
                refine vCall_of (hct) ?_ ?_ ?_; (focus simp only [go_sem, tr, tg]); (focus simp only [go_sem, tr, tg])
                simp only [go_sem, costc, c1', c2']
                refine nx _ _ hs ⟨rfl, (forall_cons rfl (forall_cons rfl (forall_cons rfl (forall_cons rfl (forall_cons rfl (forall_cons rfl (forall_cons rfl (forall_cons rfl (forall_cons rfl (forall_nil)))))))))), forall_cons ⟨rfl, rfl⟩ (forall_cons ⟨rfl, rfl⟩ (forall_cons ⟨rfl, rfl⟩ forall_nil)), forall_nil⟩
    · simp only [go_sem]
      refine vCall_of (hS) ?_ ?_ ?_; (focus simp only [go_sem, tr, tg]); (focus simp only [go_sem, tr, tg])
      simp only [go_sem, fldsc]
      refine vCall_of (hLive) ?_ ?_ ?_; (focus simp only [go_sem, tr]); (focus simp only [go_sem, tr])
      simp only [go_sem, tgs]
      exact awp_label_seq (cut ⟨0, Nat.zero_le _⟩ _ ⟨rfl, (forall_cons rfl (forall_cons rfl (forall_cons rfl (forall_cons rfl (forall_cons rfl (forall_cons rfl (forall_cons rfl (forall_cons rfl (forall_cons rfl (forall_nil)))))))))), forall_cons ⟨rfl, rfl⟩ (forall_cons ⟨rfl, rfl⟩ (forall_cons ⟨rfl, rfl⟩ forall_nil)), forall_nil⟩)
  · have hc' : ((schM (treeOf m) a).2 != 0) = true := by simpa using hc
    simp only [ne_eq, hc, not_false_eq_true, if_true]
    refine PL.Pure.of_v Tryz.func7 (by decide) rfl Tryz.ntmps7 Tryz.results7 (by simp) rfl ?_
    simp only [go_sem, tr, tg]
    refine vScope0 ?_
    simp only [go_sem]
    refine vCall_of (hS) ?_ ?_ ?_; (focus simp only [go_sem, tr, tg]); (focus simp only [go_sem, tr, tg])
    simp only [go_sem, fldsc, hc', nearc, tg]
    try rfl
end Go.Proofs.YtcomkajmhlhphaaGreat
