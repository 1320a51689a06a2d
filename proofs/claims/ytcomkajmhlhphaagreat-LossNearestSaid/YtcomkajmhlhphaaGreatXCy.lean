/- Contracts of functions and laws of this seat, each for every input that it names: lemmas of the proof. -/
import Derived.Test.YtcomkajmhlhphaaGreatXCu
import Derived.Test.YtcomkajmhlhphaaGreatXBq
import Derived.Test.YtcomkajmhlhphaaGreatXCi
import Derived.Test.YtcomkajmhlhphaaGreatXAm
import Derived.Test.YtcomkajmhlhphaaGreatRows
import Derived.ProofKit
set_option linter.unusedSimpArgs false
set_option linter.unusedVariables false
set_option linter.unusedSimpArgs false
set_option linter.unusedVariables false
namespace Go.Proofs.YtcomkajmhlhphaaGreat
open Go.PL
theorem fates_lenB (m : List Eg) (a b : Tg) (hm : OkM m) (hc : pathC m a b = 0) : (fatesM m a b).1.length ≤ 1000000 := by
  have okA := okSchL hm (pathC_zero.1 hc).1
  have okB := okSchL hm (pathC_zero.1 hc).2
  have h1 := okA.n
  have h2 := okB.n
  unfold fatesM
  rw [if_neg (by rw [hc]; simp)]
  simp only [List.length_append, List.length_map]
  omega
set_option maxRecDepth 20000 in
set_option maxHeartbeats 32000000 in
theorem RNearest_pure (m : List Eg) (a : Tg) (L : List Tg) (hm : OkM m) (hr : RightM m) (hLive : PL.Pure Tryz.prog 19 [egs m] (tgs L)) (hLl : L.length ≤ 1000000) (hLok : ∀ t ∈ L, (schM (treeOf m) t).2 = 0) : PL.Pure Tryz.prog 8 [egs m, tg a] (nearc (nearM m a L)) := by
  have hS := RSchema_pure m a hm
  have hLm : L.length ≤ maxLen := by rw [maxLen_eq]; omega
  unfold nearM
  by_cases hc : (schM (treeOf m) a).2 = 0
  · have hF := fun t => RFates_pure m a t hm hr
    have hP := fun t => RPath_pure m a t hm
    have hpc : ∀ t ∈ L, pathC m a t = 0 := fun t ht => pathC_zero.2 ⟨hc, hLok t ht⟩
    have hfc : ∀ t ∈ L, (fatesM m a t).2 = 0 := fun t ht => by unfold fatesM; rw [if_neg (by rw [hpc t ht]; simp)]
    have hW : ∀ t ∈ L, PL.Pure Tryz.prog 22 [fts (fatesM m a t).1] (.int .i64 (lostN m a t : Int)) := fun t ht => by
      have := RWorse_pure (fatesM m a t).1 (fates_lenB m a t hm (hpc t ht))
      rwa [worse_fates m a t (hpc t ht)] at this
    have hsn := fun k (hk : k < L.length) => nearF_snoc m a hk
    generalize schM (treeOf m) a = ya at *
    obtain ⟨A, ca⟩ := ya
    simp only at hc ⊢
    subst hc
    simp only [ne_eq, not_true_eq_false, if_false]
    refine PL.Pure.of_v Tryz.func8 (by decide) rfl Tryz.ntmps8 Tryz.results8 (by simp) rfl ?_
    simp only [go_sem, egs, tg]
    refine vCall_of (hS) ?_ ?_ ?_; (focus simp only [go_sem, egs, tg]); (focus simp only [go_sem, egs, tg])
    simp only [go_sem, fldsc]
    refine vCall_of (hLive) ?_ ?_ ?_; (focus simp only [go_sem, egs]); (focus simp only [go_sem, egs])
    simp only [go_sem, tgs]
    refine vLoopM (ι := NrI m a L) 95 (fun x => [(0, egs m), (3, .ptr 3 0), (4, .ptr 4 0), (8, tgs L), (9, .ptr 9 0), (10, .bool (nearF m a (L.take x.k)).f), (11, .int .i64 ((nearF m a (L.take x.k)).n : Int)), (12, .int .i64 ((nearF m a (L.take x.k)).k : Int)), (13, .int .i64 (x.k : Int))])
      (fun x => [(3, tcells a, false), (4, tcells default, false), (9, tcells (nearF m a (L.take x.k)).t, false)]) (fun x => []) (fun x => L.length - x.k) ⟨0, Nat.zero_le _⟩ ⟨rfl, (forall_cons rfl (forall_cons rfl (forall_cons rfl (forall_cons rfl (forall_cons rfl (forall_cons rfl (forall_cons rfl (forall_cons rfl (forall_cons rfl (forall_nil)))))))))), forall_cons ⟨rfl, rfl⟩ (forall_cons ⟨rfl, rfl⟩ (forall_cons ⟨rfl, rfl⟩ forall_nil)), forall_nil⟩ (fun x => ⟨(forall_cons rfl (forall_cons rfl (forall_cons rfl (forall_cons rfl (forall_cons rfl (forall_cons rfl (forall_cons rfl (forall_cons rfl (forall_cons rfl (forall_nil)))))))))), (forall_cons rfl (forall_cons rfl (forall_cons rfl (forall_nil))))⟩) (fun x => ?_)
    obtain ⟨k, hk⟩ := x
    simp only
    by_cases hlt : (k : Int) < (L.length : Int)
    · have hka : k < L.length := by omega
      have i0 : (0 : Int) ≤ (k : Int) := by omega
      have w1 : IntKind.i64.wrap ((k : Int) + 1) = ((k + 1 : Nat) : Int) := by rw [w64 (by omega)]; rfl
      have hs := hsn k hka
      have hgd := getD_tg hka
      have hft := hF (L.getD k default)
      have hpt := hP (L.getD k default)
      have hwt := hW _ (getD_mem (d := default) hka)
      have hfct := hfc _ (getD_mem (d := default) hka)
      have nx : ∀ (s' : St) (y : Nb), nearF m a (L.take (k + 1)) = y → Has 95 [(0, egs m), (3, .ptr 3 0), (4, .ptr 4 0), (8, tgs L), (9, .ptr 9 0), (10, .bool y.f), (11, .int .i64 (y.n : Int)), (12, .int .i64 (y.k : Int)), (13, .int .i64 ((k + 1 : Nat) : Int))]
          [(3, tcells a, false), (4, tcells default, false), (9, tcells y.t, false)] [] s' → PL.Next 95 (fun x : NrI m a L => [(0, egs m), (3, .ptr 3 0), (4, .ptr 4 0), (8, tgs L), (9, .ptr 9 0), (10, .bool (nearF m a (L.take x.k)).f), (11, .int .i64 ((nearF m a (L.take x.k)).n : Int)), (12, .int .i64 ((nearF m a (L.take x.k)).k : Int)), (13, .int .i64 (x.k : Int))])
          (fun x => [(3, tcells a, false), (4, tcells default, false), (9, tcells (nearF m a (L.take x.k)).t, false)]) (fun x => []) (fun x => L.length - x.k) ⟨k, hk⟩ s' := fun s' y hy hh => ⟨⟨k + 1, by omega⟩, by show L.length - (k + 1) < L.length - k; omega, by rw [← hy] at hh; exact hh⟩
      generalize nearF m a (L.take k) = s at *
      generalize nearF m a (L.take (k + 1)) = s2 at *
      generalize L.getD k default = t at *
      obtain ⟨bt, bf, bn, bk⟩ := s
      unfold nearS at hs
      simp only at hs ⊢
      by_cases ht : t = a
      · have hd : decide (t = a) = true := by simpa using ht
        rw [if_pos ht] at hs
        simp only [go_sem, tgs, hlt, List.length_map, tcells]
        refine vDrawQ (by kernel_rfl) (by kernel_rfl) ?_
        simp only [go_sem, hgd, tg, i0, w1, tg_fold, hd, List.length_map, hlt]
        refine nx _ _ hs ⟨rfl, (forall_cons rfl (forall_cons rfl (forall_cons rfl (forall_cons rfl (forall_cons rfl (forall_cons rfl (forall_cons rfl (forall_cons rfl (forall_cons rfl (forall_nil)))))))))), forall_cons ⟨rfl, rfl⟩ (forall_cons ⟨rfl, rfl⟩ (forall_cons ⟨rfl, rfl⟩ forall_nil)), forall_nil⟩
      · have hd : decide (t = a) = false := by simpa using ht
        rw [if_neg ht] at hs
        generalize lostN m a t = n at *
        generalize fatesM m a t = fm at *
        obtain ⟨fl, fc⟩ := fm
        generalize pathM m a t = pm at *
        obtain ⟨pl, pc⟩ := pm
        simp only at hs hwt hfct
        generalize hq : pl.length = q at *
        simp only [go_sem, tgs, hlt, List.length_map, tcells]
        refine vDrawQ (by kernel_rfl) (by kernel_rfl) ?_
        simp only [go_sem, hgd, tg, i0, w1, tg_fold, hd, List.length_map, hlt]
        refine vDrawQ (by kernel_rfl) (by kernel_rfl) ?_
        simp only [go_sem, hgd, tg, i0, w1, tg_fold, hd, List.length_map, hlt]
        refine vCall_of (hft) ?_ ?_ ?_; (focus simp only [go_sem, egs, tg]); (focus simp only [go_sem, egs, tg])
        simp only [go_sem, ftsc, fts]
        refine vDrawQ (by kernel_rfl) (by kernel_rfl) ?_
        simp only [go_sem, hgd, tg, i0, w1, tg_fold, List.length_map, hlt]
        refine vCall_of (hpt) ?_ ?_ ?_; (focus simp only [go_sem, egs, tg]); (focus simp only [go_sem, egs, tg])
        simp only [go_sem, legsc, lgs]
        refine vCall_of (hwt) ?_ ?_ ?_; (focus simp only [go_sem, fts]); (focus simp only [go_sem, fts])
        simp only [go_sem]
        cases bf
        · rw [if_pos (.inl rfl)] at hs
          simp only [go_sem, hgd, tg, i0, w1, List.length_map, hlt, hq]
          refine nx _ _ hs ⟨rfl, (forall_cons rfl (forall_cons rfl (forall_cons rfl (forall_cons rfl (forall_cons rfl (forall_cons rfl (forall_cons rfl (forall_cons rfl (forall_cons rfl (forall_nil)))))))))), forall_cons ⟨rfl, rfl⟩ (forall_cons ⟨rfl, rfl⟩ (forall_cons ⟨rfl, rfl⟩ forall_nil)), forall_nil⟩
        · by_cases c1 : n < bn
          · have c1' : (n : Int) < (bn : Int) := by omega
            rw [if_pos (.inr (.inl c1))] at hs
            simp only [go_sem, hgd, tg, i0, w1, List.length_map, hlt, hq, c1']
            refine nx _ _ hs ⟨rfl, (forall_cons rfl (forall_cons rfl (forall_cons rfl (forall_cons rfl (forall_cons rfl (forall_cons rfl (forall_cons rfl (forall_cons rfl (forall_cons rfl (forall_nil)))))))))), forall_cons ⟨rfl, rfl⟩ (forall_cons ⟨rfl, rfl⟩ (forall_cons ⟨rfl, rfl⟩ forall_nil)), forall_nil⟩
          · have c1' : ¬ (n : Int) < (bn : Int) := by omega
            by_cases c2 : n = bn
            · have c2' : ((n : Int) == (bn : Int)) = true := by rw [beq_iff_eq]; omega
              by_cases c3 : q < bk
              · have c3' : (q : Int) < (bk : Int) := by omega
                rw [if_pos (.inr (.inr ⟨c2, c3⟩))] at hs
                simp only [go_sem, hgd, tg, i0, w1, List.length_map, hlt, hq, c1', c2', c3']
                refine nx _ _ hs ⟨rfl, (forall_cons rfl (forall_cons rfl (forall_cons rfl (forall_cons rfl (forall_cons rfl (forall_cons rfl (forall_cons rfl (forall_cons rfl (forall_cons rfl (forall_nil)))))))))), forall_cons ⟨rfl, rfl⟩ (forall_cons ⟨rfl, rfl⟩ (forall_cons ⟨rfl, rfl⟩ forall_nil)), forall_nil⟩
              · have c3' : ¬ (q : Int) < (bk : Int) := by omega
                rw [if_neg (fun hh => by rcases hh with hh | hh | hh; exact Bool.noConfusion hh; exact c1 hh; exact c3 hh.2)] at hs
                simp only [go_sem, hgd, tg, i0, w1, List.length_map, hlt, hq, c1', c2', c3']
                refine nx _ _ hs ⟨rfl, (forall_cons rfl (forall_cons rfl (forall_cons rfl (forall_cons rfl (forall_cons rfl (forall_cons rfl (forall_cons rfl (forall_cons rfl (forall_cons rfl (forall_nil)))))))))), forall_cons ⟨rfl, rfl⟩ (forall_cons ⟨rfl, rfl⟩ (forall_cons ⟨rfl, rfl⟩ forall_nil)), forall_nil⟩
            · have c2' : ((n : Int) == (bn : Int)) = false := by rw [beq_eq_false_iff_ne]; omega
              rw [if_neg (fun hh => by rcases hh with hh | hh | hh; exact Bool.noConfusion hh; exact c1 hh; exact c2 hh.1)] at hs
              simp only [go_sem, hgd, tg, i0, w1, List.length_map, hlt, hq, c1', c2']
              refine nx _ _ hs ⟨rfl, (forall_cons rfl (forall_cons rfl (forall_cons rfl (forall_cons rfl (forall_cons rfl (forall_cons rfl (forall_cons rfl (forall_cons rfl (forall_cons rfl (forall_nil)))))))))), forall_cons ⟨rfl, rfl⟩ (forall_cons ⟨rfl, rfl⟩ (forall_cons ⟨rfl, rfl⟩ forall_nil)), forall_nil⟩
    · obtain rfl : k = L.length := by omega
      rw [List.take_length]
      generalize nearF m a L = s at *
      obtain ⟨t, f, n, k⟩ := s
      simp only
      cases f
      · simp only [go_sem, tgs, List.length_map, hlt, tcells, nearc, tg, Bool.false_eq_true, if_false]
        try rfl
      · simp only [go_sem, tgs, List.length_map, hlt, tcells, nearc, tg, if_true]
        try rfl
  · have hc' : ((schM (treeOf m) a).2 != 0) = true := by simpa using hc
    simp only [ne_eq, hc, not_false_eq_true, if_true]
    refine PL.Pure.of_v Tryz.func8 (by decide) rfl Tryz.ntmps8 Tryz.results8 (by simp) rfl ?_
    simp only [go_sem, egs, tg]
    refine vCall_of (hS) ?_ ?_ ?_; (focus simp only [go_sem, egs, tg]); (focus simp only [go_sem, egs, tg])
    simp only [go_sem, fldsc, hc', nearc, tg]
    try rfl
end Go.Proofs.YtcomkajmhlhphaaGreat

set_option linter.unusedSimpArgs false
set_option linter.unusedVariables false
set_option linter.unusedSimpArgs false
set_option linter.unusedVariables false
namespace Go.Proofs.YtcomkajmhlhphaaGreat
open Go.PL
def keepF (x : Ft) : Bool := (x.k == 1) || (x.k == 4)
def safeM (m : List Eg) (a b : Tg) : Bool := (fatesM m a b).1.all keepF
theorem fates_len {m : List Eg} (hm : OkM m) (a b : Tg) : (fatesM m a b).1.length ≤ 2000 := by
  unfold fatesM
  split
  · simp
  · rename_i hc
    have hc := Classical.not_not.1 hc
    have h1 := (okSchL hm (pathC_zero.1 hc).1).n
    have h2 := (okSchL hm (pathC_zero.1 hc).2).n
    simp
    omega
theorem fates_code (m : List Eg) (a b : Tg) : (fatesM m a b).2 = pathC m a b := by
  unfold fatesM
  split
  · rfl
  · rename_i h; exact (Classical.not_not.1 h).symm
def safec (m : List Eg) (a b : Tg) : PV := .tup [.bool (if pathC m a b ≠ 0 then false else safeM m a b), .int .i64 (pathC m a b)]
set_option maxRecDepth 20000 in
set_option maxHeartbeats 16000000 in
theorem LSafe_pure (m : List Eg) (a b : Tg) (hm : OkM m) (hr : RightM m) : PL.Pure Tryz.prog 30 [tr (treeOf m), tg a, tg b] (safec m a b) := by
  have hF := LFates_pure m a b hm hr
  have hl := fates_len hm a b
  have hcode := fates_code m a b
  unfold safec safeM
  generalize fatesM m a b = y at *
  obtain ⟨l, c⟩ := y
  simp only at hl hcode
  subst hcode
  by_cases hc : pathC m a b = 0
  · have hlm : l.length ≤ maxLen := by rw [maxLen_eq]; omega
    rw [hc] at hF ⊢
    simp only [ne_eq, not_true_eq_false, if_false]
    refine PL.Pure.of_v Tryz.func30 (by decide) rfl Tryz.ntmps30 Tryz.results30 (by simp) (rfl) ?_
    simp only [go_sem, tr, tg]
    refine vCall_of (hF) ?_ ?_ ?_; (focus simp only [go_sem, tr, tg]); (focus simp only [go_sem, tr, tg])
    simp only [go_sem, ftsc, fts, List.length_map]
    refine vLoopM (ι := { x : Nat // x ≤ (l).length ∧ (∀ j, j < x → keepF (l.getD j default) = true) }) 37 (fun x => [(22, fts l), (23, .int .i64 (l.length : Int)), (24, .int .i64 (x.1 : Int))]) (fun x => []) (fun x => []) (fun x => (l).length - x.1) ⟨0, Nat.zero_le _, fun j hj => absurd hj (Nat.not_lt_zero j)⟩ ⟨rfl, (forall_cons rfl (forall_cons rfl (forall_cons rfl forall_nil))), forall_nil, forall_nil⟩ (fun x => ⟨(forall_cons rfl (forall_cons rfl (forall_cons rfl forall_nil))), forall_nil⟩) (fun x => ?_); obtain ⟨k, hk, hI⟩ := x; simp only at hk hI ⊢
    by_cases h : (k : Int) < (l.length : Int)
    · (have hka : k < (l).length := by omega); (have w1 := w64s hka (hlm)); (have i1 : (0 : Int) ≤ (k : Int) := by omega)
      cases h1 : ((l.getD k default).k == 1)
      · cases h4 : ((l.getD k default).k == 4)
        · have hz := all_false (p := keepF) (l := l) (d := default) hka (by simp only [keepF, h1, h4, Bool.or_self])
          have e1 : ((l.getD k default).k != 1) = true := by rw [bne, h1]; rfl
          have e4 : ((l.getD k default).k != 4) = true := by rw [bne, h4]; rfl
          simp only [go_sem, fts, h, getD_ft hka, ft, i1, e1, e4, hz]
        · have ok : keepF (l.getD k default) = true := by simp only [keepF, h4, Bool.or_true]
          have e1 : ((l.getD k default).k != 1) = true := by rw [bne, h1]; rfl
          have e4 : ((l.getD k default).k != 4) = false := by rw [bne, h4]; rfl
          simp only [go_sem, fts, h, getD_ft hka, ft, i1, e1, e4, w1]
          exact ⟨⟨k + 1, by (try simp only); omega, below_succ hI ok⟩, by show (l).length - (k + 1) < (l).length - k; omega, ⟨rfl, (forall_cons rfl (forall_cons rfl (forall_cons rfl forall_nil))), forall_nil, forall_nil⟩⟩
      · have ok : keepF (l.getD k default) = true := by simp only [keepF, h1, Bool.true_or]
        have e1 : ((l.getD k default).k != 1) = false := by rw [bne, h1]; rfl
        simp only [go_sem, fts, h, getD_ft hka, ft, i1, e1, w1]
        exact ⟨⟨k + 1, by (try simp only); omega, below_succ hI ok⟩, by show (l).length - (k + 1) < (l).length - k; omega, ⟨rfl, (forall_cons rfl (forall_cons rfl (forall_cons rfl forall_nil))), forall_nil, forall_nil⟩⟩
    · have hz := all_true (p := keepF) (d := default) (l := l) (fun j hj => hI j (by omega))
      simp only [go_sem, fts, h, hz]
  · have hc' : (pathC m a b != 0) = true := by simpa using hc
    rw [if_pos hc]
    refine PL.Pure.of_v Tryz.func30 (by decide) rfl Tryz.ntmps30 Tryz.results30 (by simp) (rfl) ?_
    simp only [go_sem, tr, tg]
    refine vCall_of (hF) ?_ ?_ ?_; (focus simp only [go_sem, tr, tg]); (focus simp only [go_sem, tr, tg])
    simp only [go_sem, ftsc, fts, hc']
theorem path_sym {m : List Eg} {a b : Tg} : pathC m a b = 0 ↔ pathC m b a = 0 := by
  rw [pathC_zero, pathC_zero]; exact And.comm
def twinsM (m : List Eg) (a b : Tg) : Bool := safeM m a b && safeM m b a
def twinsc (m : List Eg) (a b : Tg) : PV := .tup [.bool (if pathC m a b ≠ 0 then false else twinsM m a b), .int .i64 (pathC m a b)]
set_option maxRecDepth 20000 in
set_option maxHeartbeats 16000000 in
theorem LTwins_pure (m : List Eg) (a b : Tg) (hm : OkM m) (hr : RightM m) : PL.Pure Tryz.prog 12 [tr (treeOf m), tg a, tg b] (twinsc m a b) := by
  have h1 := LSafe_pure m a b hm hr
  have h2 := LSafe_pure m b a hm hr
  unfold twinsc twinsM
  unfold safec at h1 h2
  by_cases hc : pathC m a b = 0
  · have hd := path_sym.1 hc
    rw [hc] at h1 ⊢
    rw [hd] at h2
    simp only [ne_eq, not_true_eq_false, if_false] at h1 h2 ⊢
    generalize safeM m a b = x at *
    generalize safeM m b a = y at *
    cases x
    · refine PL.Pure.of_v Tryz.func12 (by decide) rfl Tryz.ntmps12 Tryz.results12 (by simp) (rfl) ?_
      simp only [go_sem, tr, tg]
      refine vCall_of (h1) ?_ ?_ ?_; (focus simp only [go_sem, tr, tg]); (focus simp only [go_sem, tr, tg])
      simp only [go_sem]
      refine vCall_of (h2) ?_ ?_ ?_; (focus simp only [go_sem, tr, tg]); (focus simp only [go_sem, tr, tg])
      simp only [go_sem, Bool.false_and]
    · refine PL.Pure.of_v Tryz.func12 (by decide) rfl Tryz.ntmps12 Tryz.results12 (by simp) (rfl) ?_
      simp only [go_sem, tr, tg]
      refine vCall_of (h1) ?_ ?_ ?_; (focus simp only [go_sem, tr, tg]); (focus simp only [go_sem, tr, tg])
      simp only [go_sem]
      refine vCall_of (h2) ?_ ?_ ?_; (focus simp only [go_sem, tr, tg]); (focus simp only [go_sem, tr, tg])
      simp only [go_sem, Bool.true_and]
  · have hc' : (pathC m a b != 0) = true := by simpa using hc
    rw [if_pos hc] at h1
    rw [if_pos hc]
    refine PL.Pure.of_v Tryz.func12 (by decide) rfl Tryz.ntmps12 Tryz.results12 (by simp) (rfl) ?_
    simp only [go_sem, tr, tg]
    refine vCall_of (h1) ?_ ?_ ?_; (focus simp only [go_sem, tr, tg]); (focus simp only [go_sem, tr, tg])
    simp only [go_sem, hc']
end Go.Proofs.YtcomkajmhlhphaaGreat

set_option linter.unusedSimpArgs false
set_option linter.unusedVariables false
set_option linter.unusedSimpArgs false
set_option linter.unusedVariables false
namespace Go.Proofs.YtcomkajmhlhphaaGreat
open Go.PL
end Go.Proofs.YtcomkajmhlhphaaGreat

set_option linter.unusedSimpArgs false
set_option linter.unusedVariables false
set_option linter.unusedSimpArgs false
set_option linter.unusedVariables false
namespace Go.Proofs.YtcomkajmhlhphaaGreat
open Go.PL
structure LnS (l : List Ft) where
  k : Nat
  id : Nat
  hk : k ≤ l.length
  hid : id = 35 ∨ id = 45 ∨ id = 55 ∨ id = 62 ∨ id = 69 ∨ id = 76 ∨ id = 83
end Go.Proofs.YtcomkajmhlhphaaGreat

set_option linter.unusedSimpArgs false
set_option linter.unusedVariables false
set_option linter.unusedSimpArgs false
set_option linter.unusedVariables false
namespace Go.Proofs.YtcomkajmhlhphaaGreat
open Go.PL
def twA : Eg := ⟨⟨1, 1⟩, default, ⟨6, ⟨1, [], [113, 116, 121]⟩, [117, 110, 105, 116], [98, 111, 120], 12, default, [], []⟩⟩
def twB : Eg := ⟨⟨1, 2⟩, default, ⟨1, ⟨1, [], [110, 111, 116, 101]⟩, [109, 101, 109, 111], [], 0, default, [], []⟩⟩
theorem okTwA : OkLn twA.ln := ⟨by decide, by decide, by decide⟩
theorem okTwB : OkLn twB.ln := ⟨by decide, by decide, by decide⟩
theorem putTA : putM [] twA = ([twA], 0) := by decide +kernel
theorem putTB : putM [twA] twB = ([twA, twB], 0) := by decide +kernel
theorem okTA : OkM [twA] := by have := okPut okM_nil (e := twA) okTwA; rw [putTA] at this; exact this
theorem okTB : OkM [twA, twB] := by have := okPut okTA (e := twB) okTwB; rw [putTB] at this; exact this
theorem rightTB : RightM [twA, twB] := by
  have := rightGrown [twA, twB] right_nil
  have e : List.foldl (fun m e => (putM m e).1) [] [twA, twB] = [twA, twB] := by
    simp only [List.foldl_cons, List.foldl_nil, putTA, putTB]
  rwa [e] at this
theorem fatesTC : (fatesM [twA, twB] default ⟨1, 1⟩).2 = 0 ∧ (fatesM [twA, twB] default ⟨1, 1⟩).1.length = 11 ∧ ((fatesM [twA, twB] default ⟨1, 1⟩).1.getD 2 default).k = 1 ∧ ((fatesM [twA, twB] default ⟨1, 1⟩).1.getD 5 default).k = 4 ∧ ((fatesM [twA, twB] default ⟨1, 1⟩).1.getD 6 default).k = 6 ∧ ((fatesM [twA, twB] default ⟨1, 1⟩).1.getD 10 default).k = 5 := by decide +kernel
theorem twinsTB : pathC [twA, twB] default ⟨1, 2⟩ = 0 ∧ twinsM [twA, twB] default ⟨1, 2⟩ = true := by decide +kernel
theorem nomap_ftsc (x : List Ft × Int) : (ftsc x).nomap = true := by simp only [ftsc, fts, PV.nomap, PV.nomapL, nomapL_map ft (fun _ => rfl), Bool.and_self]
set_option maxRecDepth 20000 in
set_option maxHeartbeats 16000000 in
theorem awake39_pure : PL.Pure Tryz.prog 4 [] (.bool true) := by
  have h1 := put_wr [] twA okM_nil okTwA
  have h2 := put_wr [twA] twB okTA okTwB
  have hF := LFates_pure [twA, twB] default ⟨1, 1⟩ okTB rightTB
  have hT := LTwins_pure [twA, twB] default ⟨1, 2⟩ okTB rightTB
  obtain ⟨f1, f2, f3, f4, f5, f6⟩ := fatesTC
  obtain ⟨t1, t2⟩ := twinsTB
  rw [putTA] at h1
  rw [putTB] at h2
  have hn := nomap_ftsc (fatesM [twA, twB] default ⟨1, 1⟩)
  have e : twinsc [twA, twB] default ⟨1, 2⟩ = .tup [.bool true, .int .i64 0] := by unfold twinsc; rw [t1, t2]; rfl
  rw [e] at hT
  generalize fatesM [twA, twB] default ⟨1, 1⟩ = y at *
  obtain ⟨l, c⟩ := y
  simp only at f1 f2 f3 f4 f5 f6
  subst f1
  have g2 := getD_ft (l := l) (i := 2) (by omega)
  have g5 := getD_ft (l := l) (i := 5) (by omega)
  have g6 := getD_ft (l := l) (i := 6) (by omega)
  have g10 := getD_ft (l := l) (i := 10) (by omega)
  refine PL.Pure.of_vs Tryz.func4 (by decide) rfl Tryz.ntmps4 Tryz.results4 (by simp) rfl ?_
  simp only [go_sem]
  refine vCall_mk mk_new ?_ ?_ (fun b hb => ?_)
  · simp only [go_sem]
  · simp only [go_sem]
  simp only [go_sem]
  refine vCall_wr b h1 ?_ ?_ ?_ ?_
  · simp only [go_sem]
  · simp only [go_sem]
    rfl
  · simp [upd]; rfl
  simp only [go_sem]
  refine vCall_wr b h2 ?_ ?_ ?_ ?_
  · simp only [go_sem]
  · simp only [go_sem]
    rfl
  · simp [upd]
  simp only [go_sem]
  refine vCall_sl hF hn ?_ ?_ ?_
  · simp only [go_sem]
  · simp only [go_sem, mc]
    rfl
  simp only [go_sem, ftsc, fts]
  refine vCall_sl hT rfl ?_ ?_ ?_
  · simp only [go_sem]
  · simp only [go_sem, mc]
    rfl
  simp only [go_sem, List.length_map, f2, g2, g5, g6, g10, ft, f3, f4, f5, f6]
  exact ⟨_, rfl, rfl⟩
end Go.Proofs.YtcomkajmhlhphaaGreat

set_option linter.unusedSimpArgs false
set_option linter.unusedVariables false
set_option linter.unusedSimpArgs false
set_option linter.unusedVariables false
namespace Go.Proofs.YtcomkajmhlhphaaGreat
open Go.PL
set_option maxRecDepth 20000 in
set_option maxHeartbeats 4000000 in
theorem Schema_nil (a : Tg) : PL.Pure Tryz.prog 15 [.nilp, tg a] (fldsc ([], 1)) := by
  refine PL.Pure.of_v Tryz.func15 (by decide) rfl Tryz.ntmps15 Tryz.results15 (by simp) (fldsc_dids _) ?_
  simp only [go_sem, tg, fldsc, flds, List.map_nil]
set_option maxRecDepth 20000 in
set_option maxHeartbeats 4000000 in
theorem LNearest_nil (a : Tg) : PL.Pure Tryz.prog 7 [.nilp, tg a] (nearc (default, 1)) := by
  have hS := Schema_nil a
  refine PL.Pure.of_v Tryz.func7 (by decide) rfl Tryz.ntmps7 Tryz.results7 (by simp) rfl ?_
  simp only [go_sem, tg]
  refine vScope0 ?_
  simp only [go_sem]
  refine vCall_of (hS) ?_ ?_ ?_; (focus simp only [go_sem, tg]); (focus simp only [go_sem, tg])
  simp only [go_sem, fldsc, nearc, tg]
  try rfl
theorem okL20 {l : List Eg} (h : heavyE l 20 = false) : l.length ≤ 20 ∧ ∀ e ∈ l, OkLn e.ln := by
  simp only [heavyE, Bool.or_eq_false_iff, decide_eq_false_iff_not, List.any_eq_false] at h
  exact ⟨by omega, fun e he => okOfHeavy (by simpa using h.2 e he)⟩
set_option maxRecDepth 20000 in
set_option maxHeartbeats 16000000 in
theorem LossNearest_pure (l : List Eg) (a : Tg) (hl : l.length ≤ maxLen) (hx : ∀ e ∈ l, LenLn e.ln) : PL.Pure Tryz.prog 3 [egs l, tg a] (.bool true) := by
  have hH := RHeavyE_pure l 20 hl hx
  cases hh : heavyE l 20
  · rw [hh] at hH
    obtain ⟨o1, o2⟩ := okL20 hh
    have hG := Grown_pure l (by omega) o2
    have hm : OkM (grownM l) := okGrown _ okM_nil o2
    have hr : RightM (grownM l) := rightGrown _ right_nil
    generalize grownM l = m at *
    have hA := LNearest_pure m a (liveM m) hm hr (TLive_pure m hm) (liveM_len hm) (liveM_ok hm)
    have hB := RNearest_pure m a (liveM m) hm hr (by have := RLive_pure m hm; rwa [liveR_eq hm] at this) (liveM_len hm) (liveM_ok hm)
    have hC := LNearest_nil a
    generalize nearM m a (liveM m) = y at *
    obtain ⟨t, c⟩ := y
    have n1 : (c == c) = true := by simp
    have n2 : decide (t = t) = true := by simp
    refine PL.Pure.of_v Tryz.func3 (by decide) rfl Tryz.ntmps3 Tryz.results3 (by simp) rfl ?_
    simp only [go_sem, egs, tg]
    refine vCall_of (awake39_pure) ?_ ?_ ?_; (focus simp only [go_sem]); (focus simp only [go_sem])
    simp only [go_sem]
    refine vCall_of (hH) ?_ ?_ ?_; (focus simp only [go_sem, egs]); (focus simp only [go_sem, egs])
    simp only [go_sem]
    refine vCall_of (hG) ?_ ?_ ?_; (focus simp only [go_sem, egs]); (focus simp only [go_sem, egs])
    simp only [go_sem, grv]
    refine vCall_of (hA) ?_ ?_ ?_; (focus simp only [go_sem, tr, tg]); (focus simp only [go_sem, tr, tg])
    simp only [go_sem, nearc, tg, egs]
    refine vCall_of (hB) ?_ ?_ ?_; (focus simp only [go_sem, egs, tg]); (focus simp only [go_sem, egs, tg])
    simp only [go_sem, nearc, tg]
    refine vCall_of (hC) ?_ ?_ ?_; (focus simp only [go_sem, tg]); (focus simp only [go_sem, tg])
    simp only [go_sem, nearc, tg, n1, tg_fold, n2]
  · rw [hh] at hH
    refine PL.Pure.of_v Tryz.func3 (by decide) rfl Tryz.ntmps3 Tryz.results3 (by simp) rfl ?_
    simp only [go_sem, egs, tg]
    refine vCall_of (awake39_pure) ?_ ?_ ?_; (focus simp only [go_sem]); (focus simp only [go_sem])
    simp only [go_sem]
    refine vCall_of (hH) ?_ ?_ ?_; (focus simp only [go_sem, egs]); (focus simp only [go_sem, egs])
    simp only [go_sem]
end Go.Proofs.YtcomkajmhlhphaaGreat

set_option linter.unusedSimpArgs false
set_option linter.unusedVariables false
set_option linter.unusedSimpArgs false
set_option linter.unusedVariables false
namespace Go.Proofs.YtcomkajmhlhphaaGreat
open Go.PL
open Go.ChangeShapes Go.WideShapes Go.ChangeAt Go.RowKit
theorem Tryz.own : ownKnob Tryz.prog.godebug = Option.none := by kernel_rfl
theorem Tryz.laidOut : laidOutB Tryz.prog = true := by kernel_rfl
theorem Tryz.lays : layAll Tryz.prog = true := by kernel_rfl
theorem oddStrs : oddB Tryz.prog 39 = false := by kernel_rfl
theorem oddPrs : oddB Tryz.prog 42 = false := by kernel_rfl
theorem oddEgs : oddB Tryz.prog 22 = false := by kernel_rfl
structure LenLn' (x : Ln) : Prop where
  c : x.fd.cases'.length ≤ maxLen
  f : x.fo.length ≤ maxLen
  b : x.ba.length ≤ maxLen
theorem pt_strs {cs : List PV} (h : PT Tryz.prog 39 cs) : ∃ l : List Str, cs = [.sl .no (l.map .str)] ∧ l.length ≤ maxLen := by
  obtain ⟨l, rfl, h1, h2⟩ := h.slice_inv oddStrs Tryz.underlying39
  obtain ⟨xs, rfl, _⟩ := all_told (enc := PV.str) (Q := fun _ => True) (fun p hp => by
    obtain ⟨s, rfl, _⟩ := (h2 p hp).string Tryz.underlying9
    exact ⟨s, rfl, trivial⟩)
  exact ⟨xs, rfl, by simpa using h1⟩
theorem pt_tag {cs : List PV} (h : PT Tryz.prog 24 cs) : ∃ r : Tg, cs = [.int .i64 r.r, .int .i64 r.n] := by
  have h1 : PTs Tryz.prog [3, 3] cs := h.struct_inv Tryz.underlying24
  obtain ⟨a, b, rfl, h2, h3⟩ := h1.cons_inv
  obtain ⟨c, d, rfl, h4, h5⟩ := h3.cons_inv
  obtain ⟨x, rfl, _⟩ := h2.int_inv Tryz.underlying3
  obtain ⟨y, rfl, _⟩ := h4.int_inv Tryz.underlying3
  rw [h5.nil_inv]
  exact ⟨⟨x, y⟩, rfl⟩
theorem pt_ref {cs : List PV} (h : PT Tryz.prog 38 cs) : ∃ r : Rf, cs = [.int .i64 r.sc, .str r.gr, .str r.nm] := by
  have h1 : PTs Tryz.prog [3, 9, 9] cs := h.struct_inv Tryz.underlying38
  obtain ⟨a, b, rfl, h2, h3⟩ := h1.cons_inv
  obtain ⟨c, d, rfl, h4, h5⟩ := h3.cons_inv
  obtain ⟨e, f, rfl, h6, h7⟩ := h5.cons_inv
  obtain ⟨x, rfl, _⟩ := h2.int_inv Tryz.underlying3
  obtain ⟨y, rfl, _⟩ := h4.string_inv Tryz.underlying9
  obtain ⟨z, rfl, _⟩ := h6.string_inv Tryz.underlying9
  rw [h7.nil_inv]
  exact ⟨⟨x, y, z⟩, rfl⟩
theorem pt_fld {cs : List PV} (h : PT Tryz.prog 41 cs) : ∃ f : Fd, cs = [.int .i64 f.at'.sc, .str f.at'.gr, .str f.at'.nm, .int .i64 f.kind, .str f.df, .sl .no (f.cases'.map .str), .int .i64 f.worth] ∧ f.cases'.length ≤ maxLen := by
  have h1 : PTs Tryz.prog [38, 3, 9, 39, 2] cs := h.struct_inv Tryz.underlying41
  obtain ⟨a1, b1, rfl, h2, h3⟩ := h1.cons_inv
  obtain ⟨a2, b2, rfl, h4, h5⟩ := h3.cons_inv
  obtain ⟨a3, b3, rfl, h6, h7⟩ := h5.cons_inv
  obtain ⟨a4, b4, rfl, h8, h9⟩ := h7.cons_inv
  obtain ⟨a5, b5, rfl, h10, h11⟩ := h9.cons_inv
  obtain ⟨r, rfl⟩ := pt_ref h2
  obtain ⟨x, rfl, _⟩ := h4.int_inv Tryz.underlying3
  obtain ⟨y, rfl, _⟩ := h6.string_inv Tryz.underlying9
  obtain ⟨l, rfl, hl⟩ := pt_strs h8
  obtain ⟨z, rfl, _⟩ := h10.int_inv Tryz.underlying2
  rw [h11.nil_inv]
  exact ⟨⟨r, x, y, l, z⟩, rfl, hl⟩
theorem pa_pair {p : PV} (h : PA Tryz.prog 123 p) : ∃ e : Pr, p = pr e := by
  obtain ⟨cs, rfl, h1⟩ := PA.agg tagg_123 h
  have h1 : PTs Tryz.prog [9, 9] cs := h1.struct_inv Tryz.underlying123
  obtain ⟨a, b, rfl, h2, h3⟩ := h1.cons_inv
  obtain ⟨c, d, rfl, h4, h5⟩ := h3.cons_inv
  obtain ⟨x, rfl, _⟩ := h2.string_inv Tryz.underlying9
  obtain ⟨y, rfl, _⟩ := h4.string_inv Tryz.underlying9
  rw [h5.nil_inv]
  exact ⟨⟨x, y⟩, rfl⟩
theorem pt_prs {cs : List PV} (h : PT Tryz.prog 42 cs) : ∃ l : List Pr, cs = [.sl .no (l.map pr)] ∧ l.length ≤ maxLen := by
  obtain ⟨l, rfl, h1, h2⟩ := h.slice_inv oddPrs Tryz.underlying42
  obtain ⟨xs, rfl, _⟩ := all_told (enc := pr) (Q := fun _ => True) (fun p hp => by
    obtain ⟨s, rfl⟩ := pa_pair (h2 p hp)
    exact ⟨s, rfl, trivial⟩)
  exact ⟨xs, rfl, by simpa using h1⟩
def lncellsG (x : Ln) : List PV := [.int .i64 x.kind, .int .i64 x.at'.sc, .str x.at'.gr, .str x.at'.nm, .str x.nm, .str x.ot, .int .i64 x.fac, .int .i64 x.fd.at'.sc, .str x.fd.at'.gr, .str x.fd.at'.nm, .int .i64 x.fd.kind, .str x.fd.df, .sl .no (x.fd.cases'.map .str), .int .i64 x.fd.worth, .sl .no (x.fo.map pr), .sl .no (x.ba.map pr)]
theorem pt_lens {cs : List PV} (h : PT Tryz.prog 44 cs) : ∃ x : Ln, cs = lncellsG x ∧ LenLn' x := by
  have h1 : PTs Tryz.prog [3, 38, 9, 9, 2, 41, 42, 42] cs := h.struct_inv Tryz.underlying44
  obtain ⟨a1, b1, rfl, h2, h3⟩ := h1.cons_inv
  obtain ⟨a2, b2, rfl, h4, h5⟩ := h3.cons_inv
  obtain ⟨a3, b3, rfl, h6, h7⟩ := h5.cons_inv
  obtain ⟨a4, b4, rfl, h8, h9⟩ := h7.cons_inv
  obtain ⟨a5, b5, rfl, h10, h11⟩ := h9.cons_inv
  obtain ⟨a6, b6, rfl, h12, h13⟩ := h11.cons_inv
  obtain ⟨a7, b7, rfl, h14, h15⟩ := h13.cons_inv
  obtain ⟨a8, b8, rfl, h16, h17⟩ := h15.cons_inv
  obtain ⟨x1, rfl, _⟩ := h2.int_inv Tryz.underlying3
  obtain ⟨x2, rfl⟩ := pt_ref h4
  obtain ⟨x3, rfl, _⟩ := h6.string_inv Tryz.underlying9
  obtain ⟨x4, rfl, _⟩ := h8.string_inv Tryz.underlying9
  obtain ⟨x5, rfl, _⟩ := h10.int_inv Tryz.underlying2
  obtain ⟨x6, rfl, k6⟩ := pt_fld h12
  obtain ⟨x7, rfl, k7⟩ := pt_prs h14
  obtain ⟨x8, rfl, k8⟩ := pt_prs h16
  rw [h17.nil_inv]
  exact ⟨⟨x1, x2, x3, x4, x5, x6, x7, x8⟩, rfl, ⟨k6, k7, k8⟩⟩
theorem pa_edge {p : PV} (h : PA Tryz.prog 46 p) : ∃ e : Eg, p = eg e ∧ LenLn' e.ln := by
  obtain ⟨cs, rfl, h1⟩ := PA.agg tagg_46 h
  have h1 : PTs Tryz.prog [24, 24, 44] cs := h1.struct_inv Tryz.underlying46
  obtain ⟨a1, b1, rfl, h2, h3⟩ := h1.cons_inv
  obtain ⟨a2, b2, rfl, h4, h5⟩ := h3.cons_inv
  obtain ⟨a3, b3, rfl, h6, h7⟩ := h5.cons_inv
  obtain ⟨x1, rfl⟩ := pt_tag h2
  obtain ⟨x2, rfl⟩ := pt_tag h4
  obtain ⟨x3, rfl, k3⟩ := pt_lens h6
  rw [h7.nil_inv]
  exact ⟨⟨x1, x2, x3⟩, rfl, k3⟩
theorem pa_edges {p : PV} (h : PA Tryz.prog 22 p) : ∃ l : List Eg, p = egs l ∧ l.length ≤ maxLen ∧ ∀ e ∈ l, LenLn' e.ln := by
  obtain ⟨l, rfl, h1, h2⟩ := h.slice oddEgs Tryz.underlying22
  obtain ⟨xs, rfl, h3⟩ := all_told (fun p hp => pa_edge (h2 p hp))
  exact ⟨xs, rfl, by simpa using h1, h3⟩
theorem pa_tag {p : PV} (h : PA Tryz.prog 24 p) : ∃ t : Tg, p = tg t := by
  obtain ⟨cs, rfl, h1⟩ := PA.agg tagg_24 h
  obtain ⟨r, rfl⟩ := pt_tag h1
  exact ⟨r, rfl⟩
end Go.Proofs.YtcomkajmhlhphaaGreat
