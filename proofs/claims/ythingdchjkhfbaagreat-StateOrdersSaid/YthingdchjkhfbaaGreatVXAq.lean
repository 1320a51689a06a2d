/- Contracts of functions and laws of this seat, each for every input that it names: lemmas of the proof. -/
import Derived.Test.YthingdchjkhfbaaGreatVXAn
set_option linter.unusedSimpArgs false
set_option linter.unusedVariables false
set_option linter.unusedSimpArgs false
set_option linter.unusedVariables false
namespace Go.Proofs.YthingdchjkhfbaaGreat
open Go.PL
theorem fld_dids (f : Fd) : (fld f).dids = [] := by simp only [fld, PV.dids, PV.didsL, didsL_str, List.append_nil]
theorem idx_any {α : Type} (p : α → Bool) (l : List α) : decide ((0 : Int) ≤ idx p l) = l.any p := by
 unfold idx
 cases h : l.findIdx? p with
 | none =>
  have : l.any p = false := by
   rw [List.any_eq_false]
   intro x hx
   have := List.findIdx?_eq_none_iff.1 h x hx
   simp [this]
  rw [this]; rfl
 | some i =>
  rw [List.findIdx?_eq_some_iff_getElem] at h
  obtain ⟨hi, hp, _⟩ := h
  have : l.any p = true := List.any_eq_true.2 ⟨_, List.getElem_mem hi, hp⟩
  rw [this]; exact decide_eq_true (show (0 : Int) ≤ (i : Int) by omega)
theorem any_comm (l : List Str) (s : Str) : l.any (fun x => s == x) = l.any (· == s) := by
 congr 1; funext x; rw [Bool.eq_iff_iff]; simp only [beq_iff_eq]; exact eq_comm
theorem room1 {n b : Nat} (hn : n ≤ 1000000) (hb : b ≤ 1000) : Room n b := room_small (by omega) hb
set_option maxHeartbeats 1000000 in
theorem FOwn_pure (f : Fd) (hf : f.cases'.length ≤ 1000000) : PL.Pure Tryz.prog 67 [fld f] (fld f) := by
 have hr := room1 hf (show 16 ≤ 1000 by omega)
 refine PL.Pure.of_v Tryz.func67 (by decide) rfl Tryz.ntmps67 Tryz.results67 (by simp) (fld_dids _) ?_
 simp only [go_sem, fld, sized_str, atoms_str, hr]
set_option maxHeartbeats 1000000 in
theorem Less_pure (a b : Rf) : PL.Pure Tryz.prog 122 [ref a, ref b] (.bool (lessB a b)) := by
 refine PL.Pure.of_v Tryz.func122 (by decide) rfl Tryz.ntmps122 Tryz.results122 (by simp) rfl ?_
 simp only [go_sem, ref]
 repeat' (first | (refine vGuard_t (fun h => ?_) (fun h => ?_) <;> (try simp only [go_sem, h])) | (refine vGuard_f (fun h => ?_) (fun h => ?_) <;> (try simp only [go_sem, h])) | (refine vCond_b (fun h => ?_) (fun h => ?_) <;> (try simp only [go_sem, h])) | ((refine vDrawQ (by kernel_rfl) (by kernel_rfl) ?_); (try simp only [go_sem])))
 all_goals (simp_all [lessB])
set_option maxHeartbeats 1000000 in
theorem ConStr_pure (l : List Str) (s : Str) (hl : l.length ≤ maxLen) : PL.Pure Tryz.prog 118 [strs l, .str s] (.bool (l.any (· == s))) := by
 have hI := IdxStr_pure l s hl
 refine PL.Pure.of_v Tryz.func118 (by decide) rfl Tryz.ntmps118 Tryz.results118 (by simp) rfl ?_
 simp only [go_sem, strs]
 refine vCall_of (hI) ?_ ?_ ?_; iterate 2 simp only [go_sem, strs]
 simp only [go_sem, idx_any, any_comm]
def casesP (l : List Str) : Bool := decide (1 ≤ l.length ∧ l.length ≤ 6) && casesB l
set_option maxHeartbeats 4000000 in
theorem Cases_pure (l : List Str) : PL.Pure Tryz.prog 162 [strs l] (.bool (casesP l)) := by
 by_cases h1 : (l.length : Int) < 1
 ·have hx : casesP l = false := by simp only [casesP, show ¬ (1 ≤ l.length ∧ l.length ≤ 6) by omega, decide_false, Bool.false_and]
  refine PL.Pure.of_v Tryz.func162 (by decide) rfl Tryz.ntmps162 Tryz.results162 (by simp) rfl ?_
  simp only [go_sem, strs, h1, hx]
 ·by_cases h2 : (6 : Int) < (l.length : Int)
  ·have hx : casesP l = false := by simp only [casesP, show ¬ (1 ≤ l.length ∧ l.length ≤ 6) by omega, decide_false, Bool.false_and]
   refine PL.Pure.of_v Tryz.func162 (by decide) rfl Tryz.ntmps162 Tryz.results162 (by simp) rfl ?_
   simp only [go_sem, strs, h1, h2, hx]
  ·have hm : l.length ≤ maxLen := by rw [maxLen_eq]; omega
   have hx : casesP l = casesB l := by simp only [casesP, show (1 ≤ l.length ∧ l.length ≤ 6) by omega, and_self, decide_true, Bool.true_and]
   rw [hx]
   refine PL.Pure.of_v Tryz.func162 (by decide) rfl Tryz.ntmps162 Tryz.results162 (by simp) rfl ?_
   simp only [go_sem, strs, h1, h2]
   refine vLoopM (ι := { x : Nat // x ≤ (l).length ∧ (∀ j, j < x → caseOk l j = true) }) 31 (fun x => [(0, strs l), (13, strs l), (14, .int .i64 (l.length : Int)), (15, .int .i64 (x.1 : Int))]) (fun x => []) (fun x => []) (fun x => (l).length - x.1) ⟨0, Nat.zero_le _, fun j hj => absurd hj (Nat.not_lt_zero j)⟩ ⟨rfl, (fcs rfl (fcs rfl (fcs rfl (fcs rfl fnl)))), fnl, fnl⟩ (fun x => ⟨(fcs rfl (fcs rfl (fcs rfl (fcs rfl fnl)))), fnl⟩) (fun x => ?_); obtain ⟨k, hk, hI⟩ := x; simp only at hk hI ⊢
   by_cases h : (k : Int) < (l.length : Int)
   ·(have hka : k < (l).length := by omega); (have w1 := w64s hka (hm)); (have i1 : (0 : Int) ≤ (k : Int) := by omega)
    have i2 : (k : Int) ≤ (l.length : Int) := by omega
    have hN := Name_pure (l.getD k [])
    have hT : (l.take k).length ≤ maxLen := by rw [List.length_take]; omega
    have hH := ConStr_pure (l.take k) (l.getD k []) hT
    cases hn : nameB (l.getD k [])
    ·rw [hn] at hN
     have hz := casesB_false hka (by simp only [caseOk, hn, Bool.false_and])
     simp only [go_sem, strs, h, i1, getD_str hka]
     refine vCall_of (hN) ?_ ?_ ?_; iterate 2 simp only [go_sem]
     simp only [go_sem, hz]
    ·rw [hn] at hN
     cases hh : (l.take k).any (· == l.getD k [])
     ·rw [hh] at hH
      have ok : caseOk l k = true := by simp only [caseOk, hn, hh, Bool.not_false, Bool.and_self]
      simp only [go_sem, strs, h, i1, getD_str hka]
      refine vCall_of (hN) ?_ ?_ ?_; iterate 2 simp only [go_sem]
      simp only [go_sem, i1, i2, sized_str, cut, Nat.sub_zero, take_str]
      refine vCall_of (hH) ?_ ?_ ?_; iterate 2 simp only [go_sem, strs]
      simp only [go_sem, w1]
      exact ⟨⟨k + 1, by (try simp only); omega, below_succ hI ok⟩, by show (l).length - (k + 1) < (l).length - k; omega, ⟨rfl, (fcs rfl (fcs rfl (fcs rfl (fcs rfl fnl)))), fnl, fnl⟩⟩
     ·rw [hh] at hH
      have hz := casesB_false hka (by simp only [caseOk, hn, hh, Bool.not_true, Bool.and_false])
      simp only [go_sem, strs, h, i1, getD_str hka]
      refine vCall_of (hN) ?_ ?_ ?_; iterate 2 simp only [go_sem]
      simp only [go_sem, i1, i2, sized_str, cut, Nat.sub_zero, take_str]
      refine vCall_of (hH) ?_ ?_ ?_; iterate 2 simp only [go_sem, strs]
      simp only [go_sem, hz]
   ·have hz := casesB_true (l := l) (fun j hj => hI j (by omega))
    simp only [go_sem, strs, h, hz]
theorem any_ne_nil {l : List Str} {s : Str} (h : l.any (· == s) = true) : 1 ≤ l.length := by
 cases l with
 | nil => simp at h
 | cons a l => simp
set_option maxRecDepth 20000 in
set_option maxHeartbeats 8000000 in
theorem Right_pure (f : Fd) (hl : f.cases'.length ≤ maxLen) : PL.Pure Tryz.prog 117 [fld f] (.bool (rightF f)) := by
 have hP := Place_pure f.at'
 have hT := Text_pure f.df
 have hC := Cases_pure f.cases'
 have hK := ConStr_pure f.cases' f.df hl
 have key : rightF f = (placeB f.at' && (if f.kind = 1 then (f.df == []) && (((f.cases'.length : Int) == 0) && (decide (1 ≤ f.worth) && decide (f.worth ≤ 1048576)))
   else if f.kind = 2 then decide ((f.df.length : Int) ≤ 40) && (((f.cases'.length : Int) == 0) && (f.worth == 0))
   else if f.kind = 3 then casesP f.cases' && (f.cases'.any (· == f.df) && (f.worth == 0))
   else if f.kind = 4 then (f.df == []) && (((f.cases'.length : Int) == 0) && (f.worth == 0)) else false)) := by
  unfold rightF
  congr 1
  by_cases h1 : f.kind = 1
  ·rw [if_pos h1, if_pos h1, Bool.eq_iff_iff]; simp; omega
  ·rw [if_neg h1, if_neg h1]
   by_cases h3 : f.kind = 3
   ·rw [if_pos h3, if_neg (by omega), if_pos h3]
    unfold tail3 casesP
    cases ha : f.cases'.any (· == f.df)
    ·simp
    ·have := any_ne_nil ha
     rw [Bool.eq_iff_iff]; simp; constructor
     ·rintro ⟨a, b, c⟩; exact ⟨⟨⟨this, by omega⟩, b⟩, a⟩
     ·rintro ⟨⟨⟨a, b⟩, c⟩, d⟩; exact ⟨d, c, by omega⟩
   ·rw [if_neg h3, if_neg h3]
    unfold tail2
    by_cases h2 : f.kind = 2
    ·rw [if_pos h2, Bool.eq_iff_iff]; simp [h2]; constructor <;> rintro ⟨a, b, c⟩ <;> refine ⟨?_, ?_, ?_⟩ <;> first | assumption | omega
    ·rw [if_neg h2]
     by_cases h4 : f.kind = 4
     ·rw [if_pos h4, Bool.eq_iff_iff]; simp [h4]; constructor
      ·rintro ⟨a, b, c⟩; exact ⟨c, b, a⟩
      ·rintro ⟨a, b, c⟩; exact ⟨c, b, a⟩
     ·rw [if_neg h4]; simp [h2, h4]
 rw [key]
 cases hp : placeB f.at'
 ·rw [hp] at hP
  refine PL.Pure.of_v Tryz.func117 (by decide) rfl Tryz.ntmps117 Tryz.results117 (by simp) rfl ?_
  simp only [go_sem, fld]
  refine vCall_of (hP) ?_ ?_ ?_; iterate 2 simp only [go_sem, ref]
  simp only [go_sem, Bool.false_and]
 ·rw [hp] at hP
  rw [Bool.true_and]
  by_cases h1 : f.kind = 1
  ·have k1 : (f.kind == 1) = true := by rw [h1]; rfl
   rw [if_pos h1]
   refine PL.Pure.of_v Tryz.func117 (by decide) rfl Tryz.ntmps117 Tryz.results117 (by simp) rfl ?_
   simp only [go_sem, fld]
   refine vCall_of (hP) ?_ ?_ ?_; iterate 2 simp only [go_sem, ref]
   simp only [go_sem, k1]
   repeat' (first | (refine vGuard_t (fun h => ?_) (fun h => ?_) <;> (try simp only [go_sem, h])) | (refine vGuard_f (fun h => ?_) (fun h => ?_) <;> (try simp only [go_sem, h])) | (refine vCond_b (fun h => ?_) (fun h => ?_) <;> (try simp only [go_sem, h])) | ((refine vDrawQ (by kernel_rfl) (by kernel_rfl) ?_); (try simp only [go_sem])))
   all_goals simp_all
  ·have k1 : (f.kind == 1) = false := beq_eq_false_iff_ne.2 h1
   rw [if_neg h1]
   by_cases h2 : f.kind = 2
   ·have k2 : (f.kind == 2) = true := by rw [h2]; rfl
    rw [if_pos h2]
    refine PL.Pure.of_v Tryz.func117 (by decide) rfl Tryz.ntmps117 Tryz.results117 (by simp) rfl ?_
    simp only [go_sem, fld]
    refine vCall_of (hP) ?_ ?_ ?_; iterate 2 simp only [go_sem, ref]
    simp only [go_sem, k1, k2]
    refine vCall_of (hT) ?_ ?_ ?_; iterate 2 simp only [go_sem]
    simp only [go_sem, k1, k2]
    repeat' (first | (refine vGuard_t (fun h => ?_) (fun h => ?_) <;> (try simp only [go_sem, h])) | (refine vGuard_f (fun h => ?_) (fun h => ?_) <;> (try simp only [go_sem, h])) | (refine vCond_b (fun h => ?_) (fun h => ?_) <;> (try simp only [go_sem, h])) | ((refine vDrawQ (by kernel_rfl) (by kernel_rfl) ?_); (try simp only [go_sem])))
    all_goals simp_all
   ·have k2 : (f.kind == 2) = false := beq_eq_false_iff_ne.2 h2
    rw [if_neg h2]
    by_cases h3 : f.kind = 3
    ·have k3 : (f.kind == 3) = true := by rw [h3]; rfl
     rw [if_pos h3]
     refine PL.Pure.of_v Tryz.func117 (by decide) rfl Tryz.ntmps117 Tryz.results117 (by simp) rfl ?_
     simp only [go_sem, fld]
     refine vCall_of (hP) ?_ ?_ ?_; iterate 2 simp only [go_sem, ref]
     simp only [go_sem, k1, k2, k3]
     refine vCall_of (hC) ?_ ?_ ?_; iterate 2 simp only [go_sem, strs]
     simp only [go_sem, k1, k2, k3]
     repeat' (first | (refine vGuard_t (fun h => ?_) (fun h => ?_) <;> (try simp only [go_sem, h])) | (refine vGuard_f (fun h => ?_) (fun h => ?_) <;> (try simp only [go_sem, h])) | (refine vCond_b (fun h => ?_) (fun h => ?_) <;> (try simp only [go_sem, h])) | ((refine vCall_of (hK) ?_ ?_ ?_); (focus simp only [go_sem, strs]); (focus exact rfl); (try simp only [go_sem])) | ((refine vDrawQ (by kernel_rfl) (by kernel_rfl) ?_); (try simp only [go_sem])))
     all_goals simp_all
    ·have k3 : (f.kind == 3) = false := beq_eq_false_iff_ne.2 h3
     rw [if_neg h3]
     by_cases h4 : f.kind = 4
     ·have k4 : (f.kind == 4) = true := by rw [h4]; rfl
      rw [if_pos h4]
      refine PL.Pure.of_v Tryz.func117 (by decide) rfl Tryz.ntmps117 Tryz.results117 (by simp) rfl ?_
      simp only [go_sem, fld]
      refine vCall_of (hP) ?_ ?_ ?_; iterate 2 simp only [go_sem, ref]
      simp only [go_sem, k1, k2, k3, k4]
      repeat' (first | (refine vGuard_t (fun h => ?_) (fun h => ?_) <;> (try simp only [go_sem, h])) | (refine vGuard_f (fun h => ?_) (fun h => ?_) <;> (try simp only [go_sem, h])) | (refine vCond_b (fun h => ?_) (fun h => ?_) <;> (try simp only [go_sem, h])) | ((refine vDrawQ (by kernel_rfl) (by kernel_rfl) ?_); (try simp only [go_sem])))
      all_goals simp_all
     ·have k4 : (f.kind == 4) = false := beq_eq_false_iff_ne.2 h4
      rw [if_neg h4]
      refine PL.Pure.of_v Tryz.func117 (by decide) rfl Tryz.ntmps117 Tryz.results117 (by simp) rfl ?_
      simp only [go_sem, fld]
      refine vCall_of (hP) ?_ ?_ ?_; iterate 2 simp only [go_sem, ref]
      simp only [go_sem, k1, k2, k3, k4]
set_option maxHeartbeats 4000000 in
theorem FSame_pure (a b : Fd) (ha : a.cases'.length ≤ maxLen) (hb : b.cases'.length ≤ maxLen) : PL.Pure Tryz.prog 131 [fld a, fld b] (.bool (decide (a = b))) := by
 have hE := EqStr_pure a.cases' b.cases' ha hb
 refine PL.Pure.of_v Tryz.func131 (by decide) rfl Tryz.ntmps131 Tryz.results131 (by simp) rfl ?_
 simp only [go_sem, fld, ref_fold]
 repeat' (first | (refine vGuard_t (fun h => ?_) (fun h => ?_) <;> (try simp only [go_sem, h, ref_fold])) | (refine vGuard_f (fun h => ?_) (fun h => ?_) <;> (try simp only [go_sem, h, ref_fold])) | (refine vCond_b (fun h => ?_) (fun h => ?_) <;> (try simp only [go_sem, h, ref_fold])) | ((refine vCall_of (hE) ?_ ?_ ?_); (focus simp only [go_sem, strs]); (focus exact rfl); (try simp only [go_sem, ref_fold])) | ((refine vDrawQ (by kernel_rfl) (by kernel_rfl) ?_); (try simp only [go_sem, ref_fold])))
 all_goals ((cases a; cases b; simp_all) <;> rfl)
set_option maxHeartbeats 4000000 in
theorem RSameTexts_pure (a b : List Str) (ha : a.length ≤ maxLen) (hb : b.length ≤ maxLen) : PL.Pure Tryz.prog 172 [strs a, strs b] (.bool (decide (a = b))) := by
 have hE := RSame_pure a b ha hb
 refine PL.Pure.of_v Tryz.func172 (by decide) rfl Tryz.ntmps172 Tryz.results172 (by simp) rfl ?_
 simp only [go_sem, strs]
 refine vCall_of (hE) ?_ ?_ ?_; iterate 2 simp only [go_sem, strs]
 simp only [go_sem]
set_option maxHeartbeats 4000000 in
theorem RFSame_pure (a b : Fd) (ha : a.cases'.length ≤ maxLen) (hb : b.cases'.length ≤ maxLen) : PL.Pure Tryz.prog 143 [fld a, fld b] (.bool (decide (a = b))) := by
 have hE := RSameTexts_pure a.cases' b.cases' ha hb
 refine PL.Pure.of_v Tryz.func143 (by decide) rfl Tryz.ntmps143 Tryz.results143 (by simp) rfl ?_
 simp only [go_sem, fld, ref_fold]
 repeat' (first | (refine vGuard_t (fun h => ?_) (fun h => ?_) <;> (try simp only [go_sem, h, ref_fold])) | (refine vGuard_f (fun h => ?_) (fun h => ?_) <;> (try simp only [go_sem, h, ref_fold])) | (refine vCond_b (fun h => ?_) (fun h => ?_) <;> (try simp only [go_sem, h, ref_fold])) | ((refine vCall_of (hE) ?_ ?_ ?_); (focus simp only [go_sem, strs]); (focus exact rfl); (try simp only [go_sem, ref_fold])) | ((refine vDrawQ (by kernel_rfl) (by kernel_rfl) ?_); (try simp only [go_sem, ref_fold])))
 all_goals ((cases a; cases b; simp_all) <;> rfl)
end Go.Proofs.YthingdchjkhfbaaGreat
set_option linter.unusedSimpArgs false
set_option linter.unusedVariables false
set_option linter.unusedSimpArgs false
set_option linter.unusedVariables false
namespace Go.Proofs.YthingdchjkhfbaaGreat
open Go.PL
def caseM (l : List Pr) (s : Str) : Str × Bool := match l.find? (fun p => p.fr' == s) with | some p => (p.to', true) | none => ([], false)
def strb (x : Str × Bool) : PV := .tup [.str x.1, .bool x.2]
theorem find_found {α : Type} {p : α → Bool} {l : List α} {k : Nat} {d : α} (hk : k < l.length) (h : ∀ j, j < k → p (l.getD j d) = false) (hp : p (l.getD k d) = true) : l.find? p = some (l.getD k d) := by
 have h1 := idx_found hk h hp
 rw [List.find?_eq_some_iff_getElem]
 refine ⟨hp, k, hk, by rw [List.getD_eq_getElem?_getD, List.getElem?_eq_getElem hk]; rfl, fun j hj => ?_⟩
 have := h j hj
 rw [List.getD_eq_getElem?_getD, List.getElem?_eq_getElem (by omega)] at this
 simpa using this
theorem find_none {α : Type} {p : α → Bool} {l : List α} {d : α} (h : ∀ j, j < l.length → p (l.getD j d) = false) : l.find? p = none := by
 rw [List.find?_eq_none]
 intro x hx
 obtain ⟨j, hj, rfl⟩ := List.getElem_of_mem hx
 have := h j hj
 rw [List.getD_eq_getElem?_getD, List.getElem?_eq_getElem hj] at this
 simpa using this
set_option maxHeartbeats 1000000 in
theorem Case_pure (l : List Pr) (s : Str) (hl : l.length ≤ maxLen) : PL.Pure Tryz.prog 167 [prs l, .str s] (strb (caseM l s)) := by
 refine PL.Pure.of_v Tryz.func167 (by decide) rfl Tryz.ntmps167 Tryz.results167 (by simp) rfl ?_
 simp only [go_sem, prs]
 refine vLoopM (ι := { x : Nat // x ≤ (l).length ∧ (∀ j, j < x → ((l.getD j default).fr' == s) = false) }) 21 (fun x => [(1, .str s), (8, prs l), (9, .int .i64 (l.length : Int)), (10, .int .i64 (x.1 : Int))]) (fun x => []) (fun x => []) (fun x => (l).length - x.1) ⟨0, Nat.zero_le _, fun j hj => absurd hj (Nat.not_lt_zero j)⟩ ⟨rfl, (fcs rfl (fcs rfl (fcs rfl (fcs rfl fnl)))), fnl, fnl⟩ (fun x => ⟨(fcs rfl (fcs rfl (fcs rfl (fcs rfl fnl)))), fnl⟩) (fun x => ?_); obtain ⟨k, hk, hI⟩ := x; simp only at hk hI ⊢
 by_cases h : (k : Int) < (l.length : Int)
 ·(have hka : k < (l).length := by omega); (have w1 := w64s hka (hl)); (have i1 : (0 : Int) ≤ (k : Int) := by omega)
  cases he : ((l.getD k default).fr' == s)
  ·simp only [go_sem, prs, h, getD_pr hka, pr, i1, he, w1]
   exact ⟨⟨k + 1, by (try simp only); omega, below_succ hI he⟩, by show (l).length - (k + 1) < (l).length - k; omega, ⟨rfl, (fcs rfl (fcs rfl (fcs rfl (fcs rfl fnl)))), fnl, fnl⟩⟩
  ·have hx := find_found (p := fun p : Pr => p.fr' == s) hka hI he
   simp only [go_sem, prs, h, getD_pr hka, pr, i1, he, strb, caseM, hx]
 ·have hx := find_none (p := fun p : Pr => p.fr' == s) (d := default) (l := l) (fun j hj => hI j (by omega))
  simp only [go_sem, prs, h, strb, caseM, hx]
set_option maxHeartbeats 1000000 in
theorem RCase_pure (l : List Pr) (s : Str) (hl : l.length ≤ maxLen) : PL.Pure Tryz.prog 140 [prs l, .str s] (strb (caseM l s)) := by
 refine PL.Pure.of_v Tryz.func140 (by decide) rfl Tryz.ntmps140 Tryz.results140 (by simp) rfl ?_
 simp only [go_sem, prs]
 refine vLoopM (ι := { x : Nat // x ≤ (l).length ∧ (∀ j, j < x → ((l.getD j default).fr' == s) = false) }) 25 (fun x => [(0, prs l), (1, .str s), (6, .int .i64 (x.1 : Int))]) (fun x => []) (fun x => []) (fun x => (l).length - x.1) ⟨0, Nat.zero_le _, fun j hj => absurd hj (Nat.not_lt_zero j)⟩ ⟨rfl, (fcs rfl (fcs rfl (fcs rfl fnl))), fnl, fnl⟩ (fun x => ⟨(fcs rfl (fcs rfl (fcs rfl fnl))), fnl⟩) (fun x => ?_); obtain ⟨k, hk, hI⟩ := x; simp only at hk hI ⊢
 by_cases h : (k : Int) < (l.length : Int)
 ·(have hka : k < (l).length := by omega); (have w1 := w64s hka (hl)); (have i1 : (0 : Int) ≤ (k : Int) := by omega)
  cases he : ((l.getD k default).fr' == s)
  ·simp only [go_sem, prs, h, getD_pr hka, pr, i1, he, w1]
   exact ⟨⟨k + 1, by (try simp only); omega, below_succ hI he⟩, by show (l).length - (k + 1) < (l).length - k; omega, ⟨rfl, (fcs rfl (fcs rfl (fcs rfl fnl))), fnl, fnl⟩⟩
  ·have hx := find_found (p := fun p : Pr => p.fr' == s) hka hI he
   simp only [go_sem, prs, h, getD_pr hka, pr, i1, he, strb, caseM, hx]
 ·have hx := find_none (p := fun p : Pr => p.fr' == s) (d := default) (l := l) (fun j hj => hI j (by omega))
  simp only [go_sem, prs, h, strb, caseM, hx]
theorem map_snoc {α β : Type} [Inhabited α] (f : α → β) {l : List α} {k : Nat} (h : k < l.length) : (l.take (k + 1)).map f = (l.take k).map f ++ [f (l.getD k default)] := by
 rw [take_snoc h (d := default), List.map_append]; rfl
theorem take_le_len {α : Type} (l : List α) (k : Nat) : (l.take k).length ≤ l.length := by rw [List.length_take]; omega
def fromsM (l : List Pr) : List Str := l.map (·.fr')
set_option maxHeartbeats 1000000 in
theorem froms_pure (l : List Pr) (hl : l.length ≤ 1000000) : PL.Pure Tryz.prog 133 [prs l] (strs (fromsM l)) := by
 have hm : l.length ≤ maxLen := by rw [maxLen_eq]; omega
 have hr0 := room1 hl (show 16 ≤ 1000 by omega)
 refine PL.Pure.of_v Tryz.func133 (by decide) rfl Tryz.ntmps133 Tryz.results133 (by simp) (strs_dids _) ?_
 simp only [go_sem, prs, hr0, hm]
 refine ⟨by omega, ?_⟩
 refine awp_moveRow 3 8 19 0 1 9 [] rfl rfl rfl ?_
 refine vLoopM (ι := { x : Nat × (List Str) // x.1 ≤ (l).length ∧ (x.2 = (l.take x.1).map (·.fr')) }) 22 (fun x => [(3, .sl (.row 19) (x.1.2.map .str)), (9, prs l), (10, .int .i64 (l.length : Int)), (11, .int .i64 (x.1.1 : Int))]) (fun x => []) (fun x => [(19, .live (x.1.2.length) (1) (9))]) (fun x => (l).length - x.1.1) ⟨(0, []), Nat.zero_le _, rfl⟩ ⟨rfl, (fcs rfl (fcs rfl (fcs rfl (fcs rfl fnl)))), fnl, (fcs rfl fnl)⟩ (fun x => ⟨(fcs (by simp [PV.ids, refInM]) (fcs rfl (fcs rfl (fcs rfl fnl)))), fnl⟩) (fun x => ?_); obtain ⟨⟨k, acc⟩, hk, hI⟩ := x; simp only at hk hI ⊢
 have hacc : acc.length ≤ l.length := by rw [hI, List.length_map]; exact take_le_len _ _
 by_cases h : (k : Int) < (l.length : Int)
 ·(have hka : k < (l).length := by omega); (have w1 := w64s hka (hm)); (have i1 : (0 : Int) ≤ (k : Int) := by omega)
  have hr := room1 (show acc.length + 1 ≤ 1000000 by rw [hI, List.length_map, List.length_take]; omega) (show 16 ≤ 1000 by omega)
  simp only [go_sem, prs, h, getD_pr hka, pr, i1, sized_str, hr, w1]
  exact ⟨⟨(k + 1, acc ++ [(l.getD k default).fr']), by (try simp only); omega, by simp only; rw [map_snoc _ hka, hI]⟩, by show (l).length - (k + 1) < (l).length - k; omega, ⟨rfl, (fcs (by simp [upd]) (fcs rfl (fcs rfl (fcs rfl fnl)))), fnl, (fcs (by simp [upd]) fnl)⟩⟩
 ·obtain rfl : k = l.length := by omega
  rw [List.take_length] at hI
  subst hI
  simp only [go_sem, prs, h, strs, fromsM]
set_option maxHeartbeats 1000000 in
theorem RFroms_pure (l : List Pr) (hl : l.length ≤ 1000000) : PL.Pure Tryz.prog 171 [prs l] (strs (fromsM l)) := by
 have hm : l.length ≤ maxLen := by rw [maxLen_eq]; omega
 refine PL.Pure.of_v Tryz.func171 (by decide) rfl Tryz.ntmps171 Tryz.results171 (by simp) (strs_dids _) ?_
 simp only [go_sem, prs]
 refine awp_moveRow 3 5 19 0 1 9 [] rfl rfl rfl ?_
 refine vLoopM (ι := { x : Nat × (List Str) // x.1 ≤ (l).length ∧ (x.2 = (l.take x.1).map (·.fr')) }) 21 (fun x => [(0, prs l), (3, .sl (.row 19) (x.1.2.map .str)), (4, .int .i64 (x.1.1 : Int))]) (fun x => []) (fun x => [(19, .live (x.1.2.length) (1) (9))]) (fun x => (l).length - x.1.1) ⟨(0, []), Nat.zero_le _, rfl⟩ ⟨rfl, (fcs rfl (fcs rfl (fcs rfl fnl))), fnl, (fcs rfl fnl)⟩ (fun x => ⟨(fcs rfl (fcs (by simp [PV.ids, refInM]) (fcs rfl fnl))), fnl⟩) (fun x => ?_); obtain ⟨⟨k, acc⟩, hk, hI⟩ := x; simp only at hk hI ⊢
 have hacc : acc.length ≤ l.length := by rw [hI, List.length_map]; exact take_le_len _ _
 by_cases h : (k : Int) < (l.length : Int)
 ·(have hka : k < (l).length := by omega); (have w1 := w64s hka (hm)); (have i1 : (0 : Int) ≤ (k : Int) := by omega)
  have hr := room1 (show acc.length + 1 ≤ 1000000 by rw [hI, List.length_map, List.length_take]; omega) (show 16 ≤ 1000 by omega)
  simp only [go_sem, prs, h, getD_pr hka, pr, i1, sized_str, hr, w1]
  exact ⟨⟨(k + 1, acc ++ [(l.getD k default).fr']), by (try simp only); omega, by simp only; rw [map_snoc _ hka, hI]⟩, by show (l).length - (k + 1) < (l).length - k; omega, ⟨rfl, (fcs rfl (fcs (by simp [upd]) (fcs rfl fnl))), fnl, (fcs (by simp [upd]) fnl)⟩⟩
 ·obtain rfl : k = l.length := by omega
  rw [List.take_length] at hI
  subst hI
  simp only [go_sem, prs, h, strs, fromsM]
set_option maxHeartbeats 1000000 in
theorem SOwn_pure (l : List Fd) (hl : l.length ≤ 100000) (hc : ∀ f ∈ l, f.cases'.length ≤ 1000000) : PL.Pure Tryz.prog 50 [flds l] (flds l) := by
 have hm : l.length ≤ maxLen := by rw [maxLen_eq]; omega
 have hr0 := room1 (show l.length ≤ 1000000 by omega) (show 96 ≤ 1000 by omega)
 refine PL.Pure.of_v Tryz.func50 (by decide) rfl Tryz.ntmps50 Tryz.results50 (by simp) (flds_dids _) ?_
 simp only [go_sem, flds, hr0, hm]
 refine ⟨by omega, ?_⟩
 refine awp_moveRow 3 8 19 0 7 63 [] rfl rfl rfl ?_
 refine vLoopM (ι := { x : Nat × (List Fd) // x.1 ≤ (l).length ∧ (x.2 = l.take x.1) }) 22 (fun x => [(3, .sl (.row 19) (x.1.2.map fld)), (9, flds l), (10, .int .i64 (l.length : Int)), (11, .int .i64 (x.1.1 : Int))]) (fun x => []) (fun x => [(19, .live (x.1.2.length) (7) (63))]) (fun x => (l).length - x.1.1) ⟨(0, []), Nat.zero_le _, rfl⟩ ⟨rfl, (fcs rfl (fcs rfl (fcs rfl (fcs rfl fnl)))), fnl, (fcs rfl fnl)⟩ (fun x => ⟨(fcs (by simp [PV.ids, refInM]) (fcs rfl (fcs rfl (fcs rfl fnl)))), fnl⟩) (fun x => ?_); obtain ⟨⟨k, acc⟩, hk, hI⟩ := x; simp only at hk hI ⊢
 have hacc : acc.length ≤ l.length := by rw [hI]; exact take_le_len _ _
 by_cases h : (k : Int) < (l.length : Int)
 ·(have hka : k < (l).length := by omega); (have w1 := w64s hka (hm)); (have i1 : (0 : Int) ≤ (k : Int) := by omega)
  have hr := room1 (show acc.length + 1 ≤ 1000000 by omega) (show 96 ≤ 1000 by omega)
  have hO := FOwn_pure (l.getD k default) (hc _ (getD_mem' hka))
  simp only [go_sem, flds, h, getD_fld hka, fld, i1]
  refine vCall_of (hO) ?_ ?_ ?_; iterate 2 simp only [go_sem, fld]
  simp only [go_sem, fld, sized_fld, hr, w1]
  exact ⟨⟨(k + 1, acc ++ [l.getD k default]), by (try simp only); omega, by simp only; rw [take_snoc hka (d := default), hI]⟩, by show (l).length - (k + 1) < (l).length - k; omega, ⟨rfl, (fcs (by simp [upd, fld]) (fcs rfl (fcs rfl (fcs rfl fnl)))), fnl, (fcs (by simp [upd]) fnl)⟩⟩
 ·obtain rfl : k = l.length := by omega
  rw [List.take_length] at hI
  subst hI
  simp only [go_sem, h, flds]
end Go.Proofs.YthingdchjkhfbaaGreat
set_option linter.unusedSimpArgs false
set_option linter.unusedVariables false
set_option linter.unusedSimpArgs false
set_option linter.unusedVariables false
namespace Go.Proofs.YthingdchjkhfbaaGreat
open Go.PL
set_option maxHeartbeats 1000000 in
theorem Scope_pure (l : List Fd) (sc : Int) (hl : l.length ≤ 100000) (hc : ∀ f ∈ l, f.cases'.length ≤ 1000000) : PL.Pure Tryz.prog 36 [flds l, .int .i64 sc] (flds (scopeM l sc)) := by
 have hm : l.length ≤ maxLen := by rw [maxLen_eq]; omega
 refine PL.Pure.of_v Tryz.func36 (by decide) rfl Tryz.ntmps36 Tryz.results36 (by simp) (flds_dids _) ?_
 simp only [go_sem, flds]
 refine awp_nilRow 5 23 7 63 rfl rfl ?_
 refine vLoopM (ι := { x : Nat × (List Fd) // x.1 ≤ (l).length ∧ (x.2 = scopeM (l.take x.1) sc) }) 26 (fun x => [(1, .int .i64 sc), (5, .sl (.row 23) (x.1.2.map fld)), (8, flds l), (9, .int .i64 (l.length : Int)), (10, .int .i64 (x.1.1 : Int))]) (fun x => []) (fun x => [(23, .live (x.1.2.length) (7) (63))]) (fun x => (l).length - x.1.1) ⟨(0, []), Nat.zero_le _, rfl⟩ ⟨rfl, (fcs rfl (fcs rfl (fcs rfl (fcs rfl (fcs rfl fnl))))), fnl, (fcs rfl fnl)⟩ (fun x => ⟨(fcs rfl (fcs (by simp [PV.ids, refInM]) (fcs rfl (fcs rfl (fcs rfl fnl))))), fnl⟩) (fun x => ?_); obtain ⟨⟨k, acc⟩, hk, hI⟩ := x; simp only at hk hI ⊢
 have hacc : acc.length ≤ l.length := by
  rw [hI]; exact Nat.le_trans (List.length_filter_le _ _) (take_le_len _ _)
 by_cases h : (k : Int) < (l.length : Int)
 ·(have hka : k < (l).length := by omega); (have w1 := w64s hka (hm)); (have i1 : (0 : Int) ≤ (k : Int) := by omega)
  have hr := room1 (show acc.length + 1 ≤ 1000000 by omega) (show 96 ≤ 1000 by omega)
  have hO := FOwn_pure (l.getD k default) (hc _ (getD_mem' hka))
  cases he : ((l.getD k default).at'.sc == sc)
  ·have hs : scopeM (l.take (k + 1)) sc = scopeM (l.take k) sc := by
    rw [take_snoc hka (d := default)]
    simp only [scopeM, List.filter_append, List.filter_cons, he, Bool.false_eq_true, if_false, List.filter_nil, List.append_nil]
   simp only [go_sem, flds, h, getD_fld hka, fld, i1, he, w1]
   exact ⟨⟨(k + 1, acc), by (try simp only); omega, by simp only; rw [hs, hI]⟩, by show (l).length - (k + 1) < (l).length - k; omega, ⟨rfl, (fcs rfl (fcs (by simp [upd, fld]) (fcs rfl (fcs rfl (fcs rfl fnl))))), fnl, (fcs (by simp [upd]) fnl)⟩⟩
  ·have hs : scopeM (l.take (k + 1)) sc = scopeM (l.take k) sc ++ [l.getD k default] := by
    rw [take_snoc hka (d := default)]
    simp only [scopeM, List.filter_append, List.filter_cons, he, if_true, List.filter_nil]
   simp only [go_sem, flds, h, getD_fld hka, fld, i1, he]
   refine vCall_of (hO) ?_ ?_ ?_; iterate 2 simp only [go_sem, fld]
   simp only [go_sem, fld, sized_fld, hr, w1]
   exact ⟨⟨(k + 1, acc ++ [l.getD k default]), by (try simp only); omega, by simp only; rw [hs, hI]⟩, by show (l).length - (k + 1) < (l).length - k; omega, ⟨rfl, (fcs rfl (fcs (by simp [upd, fld]) (fcs rfl (fcs rfl (fcs rfl fnl))))), fnl, (fcs (by simp [upd]) fnl)⟩⟩
 ·obtain rfl : k = l.length := by omega
  rw [List.take_length] at hI
  subst hI
  simp only [go_sem, h, flds]
def atF (r : Rf) : Fd → Bool := fun x => decide (x.at' = r)
def findF (l : List Fd) (r : Rf) : Fd × Int := if idx (atF r) l < 0 then (default, 6) else (l.getD (idx (atF r) l).toNat default, 0)
def fldc (x : Fd × Int) : PV := .tup [fld x.1, .int .i64 x.2]
def fldsc (x : List Fd × Int) : PV := .tup [flds x.1, .int .i64 x.2]
theorem fldc_dids (x : Fd × Int) : (fldc x).dids = [] := by simp only [fldc, PV.dids, PV.didsL, fld_dids, List.append_nil]
theorem fldsc_dids (x : List Fd × Int) : (fldsc x).dids = [] := by simp only [fldsc, PV.dids, PV.didsL, flds_dids, List.append_nil]
theorem fld_default : fld default = .agg [.int .i64 0, .str [], .str [], .int .i64 0, .str [], .sl .no [], .int .i64 0] := rfl
set_option maxHeartbeats 1000000 in
theorem SFind_pure (l : List Fd) (r : Rf) (hl : l.length ≤ 100000) (hc : ∀ f ∈ l, f.cases'.length ≤ 1000000) : PL.Pure Tryz.prog 79 [flds l, ref r] (fldc (findF l r)) := by
 have hm : l.length ≤ maxLen := by rw [maxLen_eq]; omega
 have hI : PL.Pure Tryz.prog 116 [flds l, ref r] (.int .i64 (idx (atF r) l)) := Index_pure l r hm
 unfold findF
 rcases idx_cases (atF r) l with h2 | ⟨k, hk, h2⟩
 ·rw [h2] at hI ⊢
  refine PL.Pure.of_v Tryz.func79 (by decide) rfl Tryz.ntmps79 Tryz.results79 (by simp) (fldc_dids _) ?_
  simp only [go_sem, flds, ref]
  refine vCall_of (hI) ?_ ?_ ?_; iterate 2 simp only [go_sem, flds, ref]
  simp only [go_sem, fldc, fld_default]
 ·have i1 : (0 : Int) ≤ (k : Int) := by omega
  have i2 : (k : Int) < (l.length : Int) := by omega
  have i3 : ¬ (k : Int) < 0 := by omega
  have hO := FOwn_pure (l.getD k default) (hc _ (getD_mem' hk))
  rw [h2] at hI
  rw [h2, if_neg i3]
  refine PL.Pure.of_v Tryz.func79 (by decide) rfl Tryz.ntmps79 Tryz.results79 (by simp) (fldc_dids _) ?_
  simp only [go_sem, flds, ref]
  refine vCall_of (hI) ?_ ?_ ?_; iterate 2 simp only [go_sem, flds, ref]
  simp only [go_sem, i1, i2, i3, getD_fld hk, fld]
  refine vCall_of (hO) ?_ ?_ ?_; iterate 2 simp only [go_sem, fld]
  simp only [go_sem, fldc, fld]
set_option maxRecDepth 20000 in
set_option maxHeartbeats 8000000 in
theorem SRight_pure (l : List Fd) (hl : l.length ≤ maxLen) (hl' : ∀ f ∈ l, f.cases'.length ≤ maxLen) : PL.Pure Tryz.prog 83 [flds l] (.bool (rightL l)) := by
 by_cases h16 : 16 < (l.length : Int)
 ·refine PL.Pure.of_v Tryz.func83 (by decide) rfl Tryz.ntmps83 Tryz.results83 (by simp) rfl ?_
  simp only [go_sem, flds, h16, rightL, Bool.false_and]
 ·have hx : rightL l = (List.range l.length).all (fldOk l) := by simp only [rightL, h16, decide_false, Bool.not_false, Bool.true_and]
  rw [hx]
  refine PL.Pure.of_v Tryz.func83 (by decide) rfl Tryz.ntmps83 Tryz.results83 (by simp) rfl ?_
  simp only [go_sem, flds, h16]
  refine vLoopM (ι := { x : Nat // x ≤ (l).length ∧ (∀ j, j < x → fldOk l j = true) }) 33 (fun x => [(0, flds l), (8, flds l), (9, .int .i64 (l.length : Int)), (10, .int .i64 (x.1 : Int))]) (fun x => []) (fun x => []) (fun x => (l).length - x.1) ⟨0, Nat.zero_le _, fun j hj => absurd hj (Nat.not_lt_zero j)⟩ ⟨rfl, (fcs rfl (fcs rfl (fcs rfl (fcs rfl fnl)))), fnl, fnl⟩ (fun x => ⟨(fcs rfl (fcs rfl (fcs rfl (fcs rfl fnl)))), fnl⟩) (fun x => ?_); obtain ⟨k, hk, hI⟩ := x; simp only at hk hI ⊢
  by_cases h : (k : Int) < (l.length : Int)
  ·(have hka : k < (l).length := by omega); (have w1 := w64s hka (hl)); (have i1 : (0 : Int) ≤ (k : Int) := by omega)
   have hR := Right_pure (l.getD k default) (hl' _ (getD_mem' hka))
   cases hr : rightF (l.getD k default)
   ·rw [hr] at hR
    have hz := rall_false (p := fldOk l) hka (by simp only [fldOk, hr, Bool.false_and])
    simp only [go_sem, flds, h, getD_fld hka, fld, i1]
    refine vCall_of (hR) ?_ ?_ ?_; iterate 2 simp only [go_sem, fld]
    simp only [go_sem, hz]
   ·rw [hr] at hR
    by_cases h0 : 0 < (k : Int)
    ·have hk1 : k - 1 < l.length := by omega
     have w2 : IntKind.i64.wrap ((k : Int) - 1) = ((k - 1 : Nat) : Int) := by
      rw [maxLen_eq] at hl
      rw [w64 (by omega)]; omega
     have j1 : (0 : Int) ≤ ((k - 1 : Nat) : Int) := by omega
     have j2 : ((k - 1 : Nat) : Int) < (l.length : Int) := by omega
     have hL := Less_pure (l.getD (k - 1) default).at' (l.getD k default).at'
     cases hb : lessB (l.getD (k - 1) default).at' (l.getD k default).at'
     ·rw [hb] at hL
      have hz := rall_false (p := fldOk l) hka (by simp only [fldOk, hb, decide_eq_false (show ¬ k = 0 by omega), Bool.or_self, Bool.and_false])
      simp only [go_sem, flds, h, getD_fld hka, fld, i1]
      refine vCall_of (hR) ?_ ?_ ?_; iterate 2 simp only [go_sem, fld]
      simp only [go_sem]
      refine vDrawQ (by kernel_rfl) (by kernel_rfl) ?_
      simp only [go_sem, h0, w2, getD_fld hk1, getD_fld hka, fld, h, i1, j1, j2]
      refine vCall_of (hL) ?_ ?_ ?_; iterate 2 simp only [go_sem, ref]
      simp only [go_sem, hz]
     ·rw [hb] at hL
      have ok : fldOk l k = true := by simp only [fldOk, hr, hb, Bool.or_true, Bool.and_self]
      simp only [go_sem, flds, h, getD_fld hka, fld, i1]
      refine vCall_of (hR) ?_ ?_ ?_; iterate 2 simp only [go_sem, fld]
      simp only [go_sem]
      refine vDrawQ (by kernel_rfl) (by kernel_rfl) ?_
      simp only [go_sem, h0, w2, getD_fld hk1, getD_fld hka, fld, h, i1, j1, j2]
      refine vCall_of (hL) ?_ ?_ ?_; iterate 2 simp only [go_sem, ref]
      simp only [go_sem, w1]
      exact ⟨⟨k + 1, by (try simp only); omega, below_succ hI ok⟩, by show (l).length - (k + 1) < (l).length - k; omega, ⟨rfl, (fcs rfl (fcs rfl (fcs rfl (fcs rfl fnl)))), fnl, fnl⟩⟩
    ·have ok : fldOk l k = true := by simp only [fldOk, hr, decide_eq_true (show k = 0 by omega), Bool.true_or, Bool.and_self]
     simp only [go_sem, flds, h, getD_fld hka, fld, i1]
     refine vCall_of (hR) ?_ ?_ ?_; iterate 2 simp only [go_sem, fld]
     simp only [go_sem]
     refine vDrawQ (by kernel_rfl) (by kernel_rfl) ?_
     simp only [go_sem, h0, w1]
     exact ⟨⟨k + 1, by (try simp only); omega, below_succ hI ok⟩, by show (l).length - (k + 1) < (l).length - k; omega, ⟨rfl, (fcs rfl (fcs rfl (fcs rfl (fcs rfl fnl)))), fnl, fnl⟩⟩
  ·have hz := rall_true (p := fldOk l) (n := l.length) (fun j hj => hI j (by omega))
   simp only [go_sem, flds, h, hz]
theorem erase_snoc {α : Type} {l : List α} {k g : Nat} {d : α} (h : k < l.length) : (l.take (k + 1)).eraseIdx g = (l.take k).eraseIdx g ++ (if k = g then [] else [l.getD k d]) := by
 have hlen : (l.take k).length = k := by rw [List.length_take]; omega
 rw [take_snoc h (d := d)]
 rcases Nat.lt_or_ge g k with h1 | h1
 ·rw [List.eraseIdx_append_of_lt_length (by omega), if_neg (by omega)]
 ·have e2 : (l.take k).eraseIdx g = l.take k := List.eraseIdx_of_length_le (by omega)
  rw [List.eraseIdx_append_of_length_le (by omega), e2, hlen]
  by_cases e : k = g
  ·subst e; simp
  ·rw [if_neg e, List.eraseIdx_of_length_le (by simp; omega)]
def withoutM (l : List Fd) (r : Rf) : List Fd × Int := if rightL l = false then ([], 5) else if idx (atF r) l < 0 then ([], 6) else (l.eraseIdx (idx (atF r) l).toNat, 0)
set_option maxHeartbeats 4000000 in
theorem Without_pure (l : List Fd) (r : Rf) (hl : l.length ≤ 100000) (hc : ∀ f ∈ l, f.cases'.length ≤ 1000000) : PL.Pure Tryz.prog 90 [flds l, ref r] (fldsc (withoutM l r)) := by
 have hm : l.length ≤ maxLen := by rw [maxLen_eq]; omega
 have hR := SRight_pure l hm (fun f hf => by have := hc f hf; rw [maxLen_eq]; omega)
 have hI : PL.Pure Tryz.prog 116 [flds l, ref r] (.int .i64 (idx (atF r) l)) := Index_pure l r hm
 unfold withoutM
 cases hr : rightL l
 ·rw [hr] at hR
  refine PL.Pure.of_v Tryz.func90 (by decide) rfl Tryz.ntmps90 Tryz.results90 (by simp) (fldsc_dids _) ?_
  simp only [go_sem, flds, ref]
  refine vCall_of (hR) ?_ ?_ ?_; iterate 2 simp only [go_sem, flds]
  simp only [go_sem, fldsc, flds]
 ·rw [hr] at hR
  rcases idx_cases (atF r) l with h2 | ⟨g, hg, h2⟩
  ·rw [h2] at hI ⊢
   refine PL.Pure.of_v Tryz.func90 (by decide) rfl Tryz.ntmps90 Tryz.results90 (by simp) (fldsc_dids _) ?_
   simp only [go_sem, flds, ref]
   refine vCall_of (hR) ?_ ?_ ?_; iterate 2 simp only [go_sem, flds]
   simp only [go_sem, flds]
   refine vCall_of (hI) ?_ ?_ ?_; iterate 2 simp only [go_sem, flds, ref]
   simp only [go_sem, fldsc, flds]
  ·have i3 : ¬ (g : Int) < 0 := by omega
   have w2 : IntKind.i64.wrap ((l.length : Int) - 1) = ((l.length - 1 : Nat) : Int) := by rw [w64 (by omega)]; omega
   rw [h2] at hI
   rw [h2, if_neg i3]
   simp only [Bool.true_eq_false, if_false, Int.toNat_natCast]
   refine PL.Pure.of_v Tryz.func90 (by decide) rfl Tryz.ntmps90 Tryz.results90 (by simp) (fldsc_dids _) ?_
   simp only [go_sem, flds, ref]
   refine vCall_of (hR) ?_ ?_ ?_; iterate 2 simp only [go_sem, flds]
   simp only [go_sem, flds]
   refine vCall_of (hI) ?_ ?_ ?_; iterate 2 simp only [go_sem, flds, ref]
   simp only [go_sem, flds, i3, w2]
   refine ⟨by omega, ?_⟩
   refine awp_moveRow 7 21 36 0 7 63 [] rfl rfl rfl ?_
   refine vLoopM (ι := { x : Nat × (List Fd) // x.1 ≤ (l).length ∧ (x.2 = (l.take x.1).eraseIdx g) }) 39 (fun x => [(6, .int .i64 (g : Int)), (7, .sl (.row 36) (x.1.2.map fld)), (22, flds l), (23, .int .i64 (l.length : Int)), (24, .int .i64 (x.1.1 : Int))]) (fun x => []) (fun x => [(36, .live (x.1.2.length) (7) (63))]) (fun x => (l).length - x.1.1) ⟨(0, []), Nat.zero_le _, rfl⟩ ⟨rfl, (fcs rfl (fcs rfl (fcs rfl (fcs rfl (fcs rfl fnl))))), fnl, (fcs rfl fnl)⟩ (fun x => ⟨(fcs rfl (fcs (by simp [PV.ids, refInM]) (fcs rfl (fcs rfl (fcs rfl fnl))))), fnl⟩) (fun x => ?_); obtain ⟨⟨k, acc⟩, hk, hI⟩ := x; simp only at hk hI ⊢
   have hacc : acc.length ≤ l.length := by
    rw [hI]; exact Nat.le_trans (List.length_eraseIdx_le _ _) (take_le_len _ _)
   by_cases h : (k : Int) < (l.length : Int)
   ·(have hka : k < (l).length := by omega); (have w1 := w64s hka (hm)); (have i1 : (0 : Int) ≤ (k : Int) := by omega)
    have hr := room1 (show acc.length + 1 ≤ 1000000 by omega) (show 96 ≤ 1000 by omega)
    have hO := FOwn_pure (l.getD k default) (hc _ (getD_mem' hka))
    have hs := erase_snoc (l := l) (k := k) (g := g) (d := default) hka
    by_cases he : k = g
    ·have he' : ((k : Int) != (g : Int)) = false := by rw [he]; exact bne_self_eq_false _
     rw [if_pos he, List.append_nil] at hs
     simp only [go_sem, flds, h, getD_fld hka, fld, i1, he', w1]
     exact ⟨⟨(k + 1, acc), by (try simp only); omega, by simp only; rw [hs, hI]⟩, by show (l).length - (k + 1) < (l).length - k; omega, ⟨rfl, (fcs rfl (fcs (by simp [upd, fld]) (fcs rfl (fcs rfl (fcs rfl fnl))))), fnl, (fcs (by simp [upd]) fnl)⟩⟩
    ·have he' : ((k : Int) != (g : Int)) = true := bne_iff_ne.2 (by omega)
     rw [if_neg he] at hs
     simp only [go_sem, flds, h, getD_fld hka, fld, i1, he']
     refine vCall_of (hO) ?_ ?_ ?_; iterate 2 simp only [go_sem, fld]
     simp only [go_sem, fld, sized_fld, hr, w1]
     exact ⟨⟨(k + 1, acc ++ [l.getD k default]), by (try simp only); omega, by simp only; rw [hs, hI]⟩, by show (l).length - (k + 1) < (l).length - k; omega, ⟨rfl, (fcs rfl (fcs (by simp [upd, fld]) (fcs rfl (fcs rfl (fcs rfl fnl))))), fnl, (fcs (by simp [upd]) fnl)⟩⟩
   ·obtain rfl : k = l.length := by omega
    rw [List.take_length] at hI
    subst hI
    simp only [go_sem, h, flds, fldsc]
end Go.Proofs.YthingdchjkhfbaaGreat
