/- Contracts of functions and laws of this seat, each for every input that it names: lemmas of the proof. -/
import Derived.Test.YtmnibpgmcgdfpaaXAm
import Derived.Test.YtmnibpgmcgdfpaaPlH
import Derived.Test.YtmnibpgmcgdfpaaXAi
import Derived.Test.YtmnibpgmcgdfpaaPlI
import Derived.Laws.LoneSync
set_option linter.unusedSimpArgs false
set_option linter.unusedVariables false
set_option linter.unusedSimpArgs false
set_option linter.unusedVariables false
namespace Go.Proofs.Ytmnibpgmcgdfpaa
open Go.PL
structure Pr where
  fr' : Str
  to' : Str
  deriving DecidableEq, Inhabited
structure Ln where
  kind : Int
  at' : Rf
  nm : Str
  ot : Str
  fac : Int
  fd : Fd
  fo : List Pr
  ba : List Pr
  deriving DecidableEq, Inhabited
structure Tg where
  r : Int
  n : Int
  deriving DecidableEq, Inhabited
structure Eg where
  id : Tg
  par : Tg
  ln : Ln
  deriving DecidableEq, Inhabited
structure Lg where
  id : Tg
  down : Bool
  deriving DecidableEq, Inhabited
def pr (p : Pr) : PV := .agg [.str p.fr', .str p.to']
def refs (l : List Rf) : PV := .sl .no (l.map ref)
def tg (t : Tg) : PV := .agg [.int .i64 t.r, .int .i64 t.n]
def eg (e : Eg) : PV := .agg [.int .i64 e.id.r, .int .i64 e.id.n, .int .i64 e.par.r, .int .i64 e.par.n, .int .i64 e.ln.kind, .int .i64 e.ln.at'.sc, .str e.ln.at'.gr, .str e.ln.at'.nm, .str e.ln.nm, .str e.ln.ot, .int .i64 e.ln.fac, .int .i64 e.ln.fd.at'.sc, .str e.ln.fd.at'.gr, .str e.ln.fd.at'.nm, .int .i64 e.ln.fd.kind, .str e.ln.fd.df, .sl .no (e.ln.fd.cases'.map .str), .int .i64 e.ln.fd.worth, .sl .no (e.ln.fo.map pr), .sl .no (e.ln.ba.map pr)]
theorem getD_map {α : Type} {enc : α → PV} {l : List α} {i : Nat} {d : α} (h : i < l.length) : (l.map enc).getD i .any = enc (l.getD i d) := by
  simp [List.getD_eq_getElem?_getD, h]
set_option maxHeartbeats 1000000 in
theorem EqStr_pure (a b : List Str) (ha : a.length ≤ maxLen) (hb : b.length ≤ maxLen) : PL.Pure Try.prog 86 [strs a, strs b] (.bool (decide (a = b))) := by
  by_cases hl : a.length = b.length
  · have hl' : ((a.length : Int) != (b.length : Int)) = false := by rw [hl]; exact bne_self_eq_false _
    refine PL.Pure.of_v Try.func86 (by decide) rfl Try.ntmps86 Try.results86 (by simp) rfl ?_
    simp only [go_sem, strs, hl']
    refine vLoopM (ι := { x : Nat // x ≤ (a).length ∧ (∀ j, j < x → a.getD j [] = b.getD j []) }) 26 (fun x => [(0, strs a), (1, strs b), (12, .int .i64 (a.length : Int)), (13, .int .i64 (x.1 : Int))]) (fun x => []) (fun x => []) (fun x => (a).length - x.1) ⟨0, Nat.zero_le _, fun j hj => absurd hj (Nat.not_lt_zero j)⟩ ⟨rfl, (forall_cons rfl (forall_cons rfl (forall_cons rfl (forall_cons rfl forall_nil)))), forall_nil, forall_nil⟩ (fun x => ⟨(forall_cons rfl (forall_cons rfl (forall_cons rfl (forall_cons rfl forall_nil)))), forall_nil⟩) (fun x => ?_); obtain ⟨k, hk, hI⟩ := x; simp only at hk hI ⊢
    by_cases h : (k : Int) < (a.length : Int)
    · (have hka : k < (a).length := by omega); (have w1 := w64s hka (ha)); (have i1 : (0 : Int) ≤ (k : Int) := by omega)
      have hkb : k < b.length := by omega
      have i2 : (k : Int) < (b.length : Int) := by omega
      by_cases he : a.getD k [] = b.getD k []
      · have he' : (a.getD k [] == b.getD k []) = true := beq_iff_eq.2 he
        simp only [go_sem, strs, h]
        refine vDrawQ (by kernel_rfl) (by kernel_rfl) ?_
        simp only [go_sem, getD_str hka, getD_str hkb, h, i1, i2, he', w1]
        exact ⟨⟨k + 1, by (try simp only); omega, below_succ hI he⟩, by show (a).length - (k + 1) < (a).length - k; omega, ⟨rfl, (forall_cons rfl (forall_cons rfl (forall_cons rfl (forall_cons rfl forall_nil)))), forall_nil, forall_nil⟩⟩
      · have he' : (a.getD k [] == b.getD k []) = false := beq_eq_false_iff_ne.2 he
        have hab : ¬ a = b := ne_of_getD he
        simp only [go_sem, strs, h]
        refine vDrawQ (by kernel_rfl) (by kernel_rfl) ?_
        simp only [go_sem, getD_str hka, getD_str hkb, h, i1, i2, he', hab]
    · have hab : decide (a = b) = true := decide_eq_true (eq_of_getD (d := []) hl fun j hj => hI j (by omega))
      simp only [go_sem, strs, h, hab]
  · have hl' : ((a.length : Int) != (b.length : Int)) = true := bne_iff_ne.2 (by omega)
    have hab : ¬ a = b := fun e => hl (by rw [e])
    refine PL.Pure.of_v Try.func86 (by decide) rfl Try.ntmps86 Try.results86 (by simp) rfl ?_
    simp only [go_sem, strs, hl', hab]
set_option maxHeartbeats 1000000 in
theorem IdxStr_pure (l : List Str) (s : Str) (hl : l.length ≤ maxLen) : PL.Pure Try.prog 129 [strs l, .str s] (.int .i64 (idx (fun x => s == x) l)) := by
  refine PL.Pure.of_v Try.func129 (by decide) rfl Try.ntmps129 Try.results129 (by simp) rfl ?_
  simp only [go_sem, strs]
  refine vLoopM (ι := { x : Nat // x ≤ (l).length ∧ (∀ j, j < x → (fun x => s == x) (l.getD j []) = false) }) 19 (fun x => [(0, strs l), (1, .str s), (7, .int .i64 (l.length : Int)), (8, .int .i64 (x.1 : Int))]) (fun x => []) (fun x => []) (fun x => (l).length - x.1) ⟨0, Nat.zero_le _, fun j hj => absurd hj (Nat.not_lt_zero j)⟩ ⟨rfl, (forall_cons rfl (forall_cons rfl (forall_cons rfl (forall_cons rfl forall_nil)))), forall_nil, forall_nil⟩ (fun x => ⟨(forall_cons rfl (forall_cons rfl (forall_cons rfl (forall_cons rfl forall_nil)))), forall_nil⟩) (fun x => ?_); obtain ⟨k, hk, hI⟩ := x; simp only at hk hI ⊢
  by_cases h : (k : Int) < (l.length : Int)
  · (have hka : k < (l).length := by omega); (have w1 := w64s hka (hl)); (have i1 : (0 : Int) ≤ (k : Int) := by omega)
    cases he : (fun x => s == x) (l.getD k [])
    · have he0 := he
      simp only at he
      simp only [go_sem, strs, h]
      simp only [go_sem, getD_str hka, h, i1, he, w1]
      exact ⟨⟨k + 1, by (try simp only); omega, below_succ hI he0⟩, by show (l).length - (k + 1) < (l).length - k; omega, ⟨rfl, (forall_cons rfl (forall_cons rfl (forall_cons rfl (forall_cons rfl forall_nil)))), forall_nil, forall_nil⟩⟩
    · have hx := idx_found (p := fun x => s == x) hka hI he
      simp only at he
      simp only [go_sem, strs, h]
      simp only [go_sem, getD_str hka, h, i1, he, hx]
  · have hx := idx_none (p := fun x => s == x) (d := []) (l := l) (fun j hj => hI j (by omega))
    simp only [go_sem, strs, h, hx]
end Go.Proofs.Ytmnibpgmcgdfpaa

set_option linter.unusedSimpArgs false
set_option linter.unusedVariables false
set_option linter.unusedSimpArgs false
set_option linter.unusedVariables false
namespace Go.Proofs.Ytmnibpgmcgdfpaa
open Go.PL
theorem fld_dids (f : Fd) : (fld f).dids = [] := by simp only [fld, PV.dids, PV.didsL, didsL_str, List.append_nil]
theorem idx_any {α : Type} (p : α → Bool) (l : List α) : decide ((0 : Int) ≤ idx p l) = l.any p := by
  unfold idx
  cases h : l.findIdx? p with
  | none =>
    have : l.any p = false := by
      rw [List.any_eq_false]
      intro x hx
      have := List.findIdx?_eq_none_iff.1 h x hx
      simp [this]
    rw [this]; rfl
  | some i =>
    rw [List.findIdx?_eq_some_iff_getElem] at h
    obtain ⟨hi, hp, _⟩ := h
    have : l.any p = true := List.any_eq_true.2 ⟨_, List.getElem_mem hi, hp⟩
    rw [this]; exact decide_eq_true (show (0 : Int) ≤ (i : Int) by omega)
theorem any_comm (l : List Str) (s : Str) : l.any (fun x => s == x) = l.any (· == s) := by
  congr 1; funext x; rw [Bool.eq_iff_iff]; simp only [beq_iff_eq]; exact eq_comm
theorem room1 {n b : Nat} (hn : n ≤ 1000000) (hb : b ≤ 1000) : Room n b := room_small (by omega) hb
set_option maxHeartbeats 1000000 in
theorem FOwn_pure (f : Fd) (hf : f.cases'.length ≤ 1000000) : PL.Pure Try.prog 89 [fld f] (fld f) := by
  have hr := room1 hf (show 16 ≤ 1000 by omega)
  refine PL.Pure.of_v Try.func89 (by decide) rfl Try.ntmps89 Try.results89 (by simp) (fld_dids _) ?_
  simp only [go_sem, fld, sized_str, atoms_str, hr]
set_option maxHeartbeats 1000000 in
theorem Less_pure (a b : Rf) : PL.Pure Try.prog 88 [ref a, ref b] (.bool (lessB a b)) := by
  refine PL.Pure.of_v Try.func88 (by decide) rfl Try.ntmps88 Try.results88 (by simp) rfl ?_
  simp only [go_sem, ref]
  repeat' (first | (refine vGuard_t (fun h => ?_) (fun h => ?_) <;> (try simp only [go_sem, h])) | (refine vGuard_f (fun h => ?_) (fun h => ?_) <;> (try simp only [go_sem, h])) | (refine vCond_b (fun h => ?_) (fun h => ?_) <;> (try simp only [go_sem, h])) | ((refine vDrawQ (by kernel_rfl) (by kernel_rfl) ?_); (try simp only [go_sem])))
  all_goals (simp_all [lessB])
set_option maxHeartbeats 1000000 in
theorem ConStr_pure (l : List Str) (s : Str) (hl : l.length ≤ maxLen) : PL.Pure Try.prog 119 [strs l, .str s] (.bool (l.any (· == s))) := by
  have hI := IdxStr_pure l s hl
  refine PL.Pure.of_v Try.func119 (by decide) rfl Try.ntmps119 Try.results119 (by simp) rfl ?_
  simp only [go_sem, strs]
  refine vCall_of (hI) ?_ ?_ ?_; (focus simp only [go_sem, strs]); (focus simp only [go_sem, strs])
  simp only [go_sem, idx_any, any_comm]
def casesP (l : List Str) : Bool := decide (1 ≤ l.length ∧ l.length ≤ 6) && casesB l
set_option maxHeartbeats 4000000 in
theorem Cases_pure (l : List Str) : PL.Pure Try.prog 118 [strs l] (.bool (casesP l)) := by
  by_cases h1 : (l.length : Int) < 1
  · have hx : casesP l = false := by simp only [casesP, show ¬ (1 ≤ l.length ∧ l.length ≤ 6) by omega, decide_false, Bool.false_and]
    refine PL.Pure.of_v Try.func118 (by decide) rfl Try.ntmps118 Try.results118 (by simp) rfl ?_
    simp only [go_sem, strs, h1, hx]
  · by_cases h2 : (6 : Int) < (l.length : Int)
    · have hx : casesP l = false := by simp only [casesP, show ¬ (1 ≤ l.length ∧ l.length ≤ 6) by omega, decide_false, Bool.false_and]
      refine PL.Pure.of_v Try.func118 (by decide) rfl Try.ntmps118 Try.results118 (by simp) rfl ?_
      simp only [go_sem, strs, h1, h2, hx]
    · have hm : l.length ≤ maxLen := by rw [maxLen_eq]; omega
      have hx : casesP l = casesB l := by simp only [casesP, show (1 ≤ l.length ∧ l.length ≤ 6) by omega, and_self, decide_true, Bool.true_and]
      rw [hx]
      refine PL.Pure.of_v Try.func118 (by decide) rfl Try.ntmps118 Try.results118 (by simp) rfl ?_
      simp only [go_sem, strs, h1, h2]
      refine vLoopM (ι := { x : Nat // x ≤ (l).length ∧ (∀ j, j < x → caseOk l j = true) }) 31 (fun x => [(0, strs l), (13, strs l), (14, .int .i64 (l.length : Int)), (15, .int .i64 (x.1 : Int))]) (fun x => []) (fun x => []) (fun x => (l).length - x.1) ⟨0, Nat.zero_le _, fun j hj => absurd hj (Nat.not_lt_zero j)⟩ ⟨rfl, (forall_cons rfl (forall_cons rfl (forall_cons rfl (forall_cons rfl forall_nil)))), forall_nil, forall_nil⟩ (fun x => ⟨(forall_cons rfl (forall_cons rfl (forall_cons rfl (forall_cons rfl forall_nil)))), forall_nil⟩) (fun x => ?_); obtain ⟨k, hk, hI⟩ := x; simp only at hk hI ⊢
      by_cases h : (k : Int) < (l.length : Int)
      · (have hka : k < (l).length := by omega); (have w1 := w64s hka (hm)); (have i1 : (0 : Int) ≤ (k : Int) := by omega)
        have i2 : (k : Int) ≤ (l.length : Int) := by omega
        have hN := Name_pure (l.getD k [])
        have hT : (l.take k).length ≤ maxLen := by rw [List.length_take]; omega
        have hH := ConStr_pure (l.take k) (l.getD k []) hT
        cases hn : nameB (l.getD k [])
        · rw [hn] at hN
          have hz := casesB_false hka (by simp only [caseOk, hn, Bool.false_and])
          simp only [go_sem, strs, h, i1, getD_str hka]
          refine vCall_of (hN) ?_ ?_ ?_; (focus simp only [go_sem]); (focus simp only [go_sem])
          simp only [go_sem, hz]
        · rw [hn] at hN
          cases hh : (l.take k).any (· == l.getD k [])
          · rw [hh] at hH
            have ok : caseOk l k = true := by simp only [caseOk, hn, hh, Bool.not_false, Bool.and_self]
            simp only [go_sem, strs, h, i1, getD_str hka]
            refine vCall_of (hN) ?_ ?_ ?_; (focus simp only [go_sem]); (focus simp only [go_sem])
            simp only [go_sem, i1, i2, sized_str, cut, Nat.sub_zero, take_str]
            refine vCall_of (hH) ?_ ?_ ?_; (focus simp only [go_sem, strs]); (focus simp only [go_sem, strs])
            simp only [go_sem, w1]
            exact ⟨⟨k + 1, by (try simp only); omega, below_succ hI ok⟩, by show (l).length - (k + 1) < (l).length - k; omega, ⟨rfl, (forall_cons rfl (forall_cons rfl (forall_cons rfl (forall_cons rfl forall_nil)))), forall_nil, forall_nil⟩⟩
          · rw [hh] at hH
            have hz := casesB_false hka (by simp only [caseOk, hn, hh, Bool.not_true, Bool.and_false])
            simp only [go_sem, strs, h, i1, getD_str hka]
            refine vCall_of (hN) ?_ ?_ ?_; (focus simp only [go_sem]); (focus simp only [go_sem])
            simp only [go_sem, i1, i2, sized_str, cut, Nat.sub_zero, take_str]
            refine vCall_of (hH) ?_ ?_ ?_; (focus simp only [go_sem, strs]); (focus simp only [go_sem, strs])
            simp only [go_sem, hz]
      · have hz := casesB_true (l := l) (fun j hj => hI j (by omega))
        simp only [go_sem, strs, h, hz]
theorem any_ne_nil {l : List Str} {s : Str} (h : l.any (· == s) = true) : 1 ≤ l.length := by
  cases l with
  | nil => simp at h
  | cons a l => simp
set_option maxRecDepth 20000 in
set_option maxHeartbeats 8000000 in
theorem Right_pure (f : Fd) (hl : f.cases'.length ≤ maxLen) : PL.Pure Try.prog 87 [fld f] (.bool (rightF f)) := by
  have hP := Place_pure f.at'
  have hT := Text_pure f.df
  have hC := Cases_pure f.cases'
  have hK := ConStr_pure f.cases' f.df hl
  have key : rightF f = (placeB f.at' && (if f.kind = 1 then (f.df == []) && (((f.cases'.length : Int) == 0) && (decide (1 ≤ f.worth) && decide (f.worth ≤ 1048576)))
      else if f.kind = 2 then decide ((f.df.length : Int) ≤ 40) && (((f.cases'.length : Int) == 0) && (f.worth == 0))
      else if f.kind = 3 then casesP f.cases' && (f.cases'.any (· == f.df) && (f.worth == 0))
      else if f.kind = 4 then (f.df == []) && (((f.cases'.length : Int) == 0) && (f.worth == 0)) else false)) := by
    unfold rightF
    congr 1
    by_cases h1 : f.kind = 1
    · rw [if_pos h1, if_pos h1, Bool.eq_iff_iff]; simp; omega
    · rw [if_neg h1, if_neg h1]
      by_cases h3 : f.kind = 3
      · rw [if_pos h3, if_neg (by omega), if_pos h3]
        unfold tail3 casesP
        cases ha : f.cases'.any (· == f.df)
        · simp
        · have := any_ne_nil ha
          rw [Bool.eq_iff_iff]; simp; constructor
          · rintro ⟨a, b, c⟩; exact ⟨⟨⟨this, by omega⟩, b⟩, a⟩
          · rintro ⟨⟨⟨a, b⟩, c⟩, d⟩; exact ⟨d, c, by omega⟩
      · rw [if_neg h3, if_neg h3]
        unfold tail2
        by_cases h2 : f.kind = 2
        · rw [if_pos h2, Bool.eq_iff_iff]; simp [h2]; constructor <;> rintro ⟨a, b, c⟩ <;> refine ⟨?_, ?_, ?_⟩ <;> first | assumption | omega
        · rw [if_neg h2]
          by_cases h4 : f.kind = 4
          · rw [if_pos h4, Bool.eq_iff_iff]; simp [h4]; constructor
            · rintro ⟨a, b, c⟩; exact ⟨c, b, a⟩
            · rintro ⟨a, b, c⟩; exact ⟨c, b, a⟩
          · rw [if_neg h4]; simp [h2, h4]
  rw [key]
  cases hp : placeB f.at'
  · rw [hp] at hP
    refine PL.Pure.of_v Try.func87 (by decide) rfl Try.ntmps87 Try.results87 (by simp) rfl ?_
    simp only [go_sem, fld]
    refine vCall_of (hP) ?_ ?_ ?_; (focus simp only [go_sem, ref]); (focus simp only [go_sem, ref])
    simp only [go_sem, Bool.false_and]
  · rw [hp] at hP
    rw [Bool.true_and]
    by_cases h1 : f.kind = 1
    · have k1 : (f.kind == 1) = true := by rw [h1]; rfl
      rw [if_pos h1]
      refine PL.Pure.of_v Try.func87 (by decide) rfl Try.ntmps87 Try.results87 (by simp) rfl ?_
      simp only [go_sem, fld]
      refine vCall_of (hP) ?_ ?_ ?_; (focus simp only [go_sem, ref]); (focus simp only [go_sem, ref])
      simp only [go_sem, k1]
      repeat' (first | (refine vGuard_t (fun h => ?_) (fun h => ?_) <;> (try simp only [go_sem, h])) | (refine vGuard_f (fun h => ?_) (fun h => ?_) <;> (try simp only [go_sem, h])) | (refine vCond_b (fun h => ?_) (fun h => ?_) <;> (try simp only [go_sem, h])) | ((refine vDrawQ (by kernel_rfl) (by kernel_rfl) ?_); (try simp only [go_sem])))
      all_goals simp_all
    · have k1 : (f.kind == 1) = false := beq_eq_false_iff_ne.2 h1
      rw [if_neg h1]
      by_cases h2 : f.kind = 2
      · have k2 : (f.kind == 2) = true := by rw [h2]; rfl
        rw [if_pos h2]
        refine PL.Pure.of_v Try.func87 (by decide) rfl Try.ntmps87 Try.results87 (by simp) rfl ?_
        simp only [go_sem, fld]
        refine vCall_of (hP) ?_ ?_ ?_; (focus simp only [go_sem, ref]); (focus simp only [go_sem, ref])
        simp only [go_sem, k1, k2]
        refine vCall_of (hT) ?_ ?_ ?_; (focus simp only [go_sem]); (focus simp only [go_sem])
        simp only [go_sem, k1, k2]
        repeat' (first | (refine vGuard_t (fun h => ?_) (fun h => ?_) <;> (try simp only [go_sem, h])) | (refine vGuard_f (fun h => ?_) (fun h => ?_) <;> (try simp only [go_sem, h])) | (refine vCond_b (fun h => ?_) (fun h => ?_) <;> (try simp only [go_sem, h])) | ((refine vDrawQ (by kernel_rfl) (by kernel_rfl) ?_); (try simp only [go_sem])))
        all_goals simp_all
      · have k2 : (f.kind == 2) = false := beq_eq_false_iff_ne.2 h2
        rw [if_neg h2]
        by_cases h3 : f.kind = 3
        · have k3 : (f.kind == 3) = true := by rw [h3]; rfl
          rw [if_pos h3]
          refine PL.Pure.of_v Try.func87 (by decide) rfl Try.ntmps87 Try.results87 (by simp) rfl ?_
          simp only [go_sem, fld]
          refine vCall_of (hP) ?_ ?_ ?_; (focus simp only [go_sem, ref]); (focus simp only [go_sem, ref])
          simp only [go_sem, k1, k2, k3]
          refine vCall_of (hC) ?_ ?_ ?_; (focus simp only [go_sem, strs]); (focus simp only [go_sem, strs])
          simp only [go_sem, k1, k2, k3]
          repeat' (first | (refine vGuard_t (fun h => ?_) (fun h => ?_) <;> (try simp only [go_sem, h])) | (refine vGuard_f (fun h => ?_) (fun h => ?_) <;> (try simp only [go_sem, h])) | (refine vCond_b (fun h => ?_) (fun h => ?_) <;> (try simp only [go_sem, h])) | ((refine vCall_of (hK) ?_ ?_ ?_); (focus simp only [go_sem, strs]); (focus exact rfl); (try simp only [go_sem])) | ((refine vDrawQ (by kernel_rfl) (by kernel_rfl) ?_); (try simp only [go_sem])))
          all_goals simp_all
        · have k3 : (f.kind == 3) = false := beq_eq_false_iff_ne.2 h3
          rw [if_neg h3]
          by_cases h4 : f.kind = 4
          · have k4 : (f.kind == 4) = true := by rw [h4]; rfl
            rw [if_pos h4]
            refine PL.Pure.of_v Try.func87 (by decide) rfl Try.ntmps87 Try.results87 (by simp) rfl ?_
            simp only [go_sem, fld]
            refine vCall_of (hP) ?_ ?_ ?_; (focus simp only [go_sem, ref]); (focus simp only [go_sem, ref])
            simp only [go_sem, k1, k2, k3, k4]
            repeat' (first | (refine vGuard_t (fun h => ?_) (fun h => ?_) <;> (try simp only [go_sem, h])) | (refine vGuard_f (fun h => ?_) (fun h => ?_) <;> (try simp only [go_sem, h])) | (refine vCond_b (fun h => ?_) (fun h => ?_) <;> (try simp only [go_sem, h])) | ((refine vDrawQ (by kernel_rfl) (by kernel_rfl) ?_); (try simp only [go_sem])))
            all_goals simp_all
          · have k4 : (f.kind == 4) = false := beq_eq_false_iff_ne.2 h4
            rw [if_neg h4]
            refine PL.Pure.of_v Try.func87 (by decide) rfl Try.ntmps87 Try.results87 (by simp) rfl ?_
            simp only [go_sem, fld]
            refine vCall_of (hP) ?_ ?_ ?_; (focus simp only [go_sem, ref]); (focus simp only [go_sem, ref])
            simp only [go_sem, k1, k2, k3, k4]
end Go.Proofs.Ytmnibpgmcgdfpaa

set_option linter.unusedSimpArgs false
set_option linter.unusedVariables false
set_option linter.unusedSimpArgs false
set_option linter.unusedVariables false
namespace Go.Proofs.Ytmnibpgmcgdfpaa
open Go.PL
def caseM (l : List Pr) (s : Str) : Str × Bool := match l.find? (fun p => p.fr' == s) with | some p => (p.to', true) | none => ([], false)
theorem take_le_len {α : Type} (l : List α) (k : Nat) : (l.take k).length ≤ l.length := by rw [List.length_take]; omega
def fromsM (l : List Pr) : List Str := l.map (·.fr')
end Go.Proofs.Ytmnibpgmcgdfpaa

set_option linter.unusedSimpArgs false
set_option linter.unusedVariables false
set_option linter.unusedSimpArgs false
set_option linter.unusedVariables false
namespace Go.Proofs.Ytmnibpgmcgdfpaa
open Go.PL
set_option maxHeartbeats 1000000 in
theorem Scope_pure (l : List Fd) (sc : Int) (hl : l.length ≤ 100000) (hc : ∀ f ∈ l, f.cases'.length ≤ 1000000) : PL.Pure Try.prog 55 [flds l, .int .i64 sc] (flds (scopeM l sc)) := by
  have hm : l.length ≤ maxLen := by rw [maxLen_eq]; omega
  refine PL.Pure.of_v Try.func55 (by decide) rfl Try.ntmps55 Try.results55 (by simp) (flds_dids _) ?_
  simp only [go_sem, flds]
  refine awp_nilRow 5 23 7 76 rfl rfl ?_
  refine vLoopM (ι := { x : Nat × (List Fd) // x.1 ≤ (l).length ∧ (x.2 = scopeM (l.take x.1) sc) }) 26 (fun x => [(1, .int .i64 sc), (5, .sl (.row 23) (x.1.2.map fld)), (8, flds l), (9, .int .i64 (l.length : Int)), (10, .int .i64 (x.1.1 : Int))]) (fun x => []) (fun x => [(23, .live (x.1.2.length) (7) (76))]) (fun x => (l).length - x.1.1) ⟨(0, []), Nat.zero_le _, rfl⟩ ⟨rfl, (forall_cons rfl (forall_cons rfl (forall_cons rfl (forall_cons rfl (forall_cons rfl forall_nil))))), forall_nil, (forall_cons rfl forall_nil)⟩ (fun x => ⟨(forall_cons rfl (forall_cons (by simp [PV.ids, refInM]) (forall_cons rfl (forall_cons rfl (forall_cons rfl forall_nil))))), forall_nil⟩) (fun x => ?_); obtain ⟨⟨k, acc⟩, hk, hI⟩ := x; simp only at hk hI ⊢
  have hacc : acc.length ≤ l.length := by
    rw [hI]; exact Nat.le_trans (List.length_filter_le _ _) (take_le_len _ _)
  by_cases h : (k : Int) < (l.length : Int)
  · (have hka : k < (l).length := by omega); (have w1 := w64s hka (hm)); (have i1 : (0 : Int) ≤ (k : Int) := by omega)
    have hr := room1 (show acc.length + 1 ≤ 1000000 by omega) (show 96 ≤ 1000 by omega)
    have hO := FOwn_pure (l.getD k default) (hc _ (getD_mem' hka))
    cases he : ((l.getD k default).at'.sc == sc)
    · have hs : scopeM (l.take (k + 1)) sc = scopeM (l.take k) sc := by
        rw [take_snoc hka (d := default)]
        simp only [scopeM, List.filter_append, List.filter_cons, he, Bool.false_eq_true, if_false, List.filter_nil, List.append_nil]
      simp only [go_sem, flds, h, getD_fld hka, fld, i1, he, w1]
      exact ⟨⟨(k + 1, acc), by (try simp only); omega, by simp only; rw [hs, hI]⟩, by show (l).length - (k + 1) < (l).length - k; omega, ⟨rfl, (forall_cons rfl (forall_cons (by simp [upd, fld]) (forall_cons rfl (forall_cons rfl (forall_cons rfl forall_nil))))), forall_nil, (forall_cons (by simp [upd]) forall_nil)⟩⟩
    · have hs : scopeM (l.take (k + 1)) sc = scopeM (l.take k) sc ++ [l.getD k default] := by
        rw [take_snoc hka (d := default)]
        simp only [scopeM, List.filter_append, List.filter_cons, he, if_true, List.filter_nil]
      simp only [go_sem, flds, h, getD_fld hka, fld, i1, he]
      refine vCall_of (hO) ?_ ?_ ?_; (focus simp only [go_sem, fld]); (focus simp only [go_sem, fld])
      simp only [go_sem, fld, sized_fld, hr, w1]
      exact ⟨⟨(k + 1, acc ++ [l.getD k default]), by (try simp only); omega, by simp only; rw [hs, hI]⟩, by show (l).length - (k + 1) < (l).length - k; omega, ⟨rfl, (forall_cons rfl (forall_cons (by simp [upd, fld]) (forall_cons rfl (forall_cons rfl (forall_cons rfl forall_nil))))), forall_nil, (forall_cons (by simp [upd]) forall_nil)⟩⟩
  · obtain rfl : k = l.length := by omega
    rw [List.take_length] at hI
    subst hI
    simp only [go_sem, h, flds]
def atF (r : Rf) : Fd → Bool := fun x => decide (x.at' = r)
def findF (l : List Fd) (r : Rf) : Fd × Int := if idx (atF r) l < 0 then (default, 6) else (l.getD (idx (atF r) l).toNat default, 0)
set_option maxRecDepth 20000 in
set_option maxHeartbeats 8000000 in
theorem SRight_pure (l : List Fd) (hl : l.length ≤ maxLen) (hl' : ∀ f ∈ l, f.cases'.length ≤ maxLen) : PL.Pure Try.prog 53 [flds l] (.bool (rightL l)) := by
  by_cases h16 : 16 < (l.length : Int)
  · refine PL.Pure.of_v Try.func53 (by decide) rfl Try.ntmps53 Try.results53 (by simp) rfl ?_
    simp only [go_sem, flds, h16, rightL, Bool.false_and]
  · have hx : rightL l = (List.range l.length).all (fldOk l) := by simp only [rightL, h16, decide_false, Bool.not_false, Bool.true_and]
    rw [hx]
    refine PL.Pure.of_v Try.func53 (by decide) rfl Try.ntmps53 Try.results53 (by simp) rfl ?_
    simp only [go_sem, flds, h16]
    refine vLoopM (ι := { x : Nat // x ≤ (l).length ∧ (∀ j, j < x → fldOk l j = true) }) 33 (fun x => [(0, flds l), (8, flds l), (9, .int .i64 (l.length : Int)), (10, .int .i64 (x.1 : Int))]) (fun x => []) (fun x => []) (fun x => (l).length - x.1) ⟨0, Nat.zero_le _, fun j hj => absurd hj (Nat.not_lt_zero j)⟩ ⟨rfl, (forall_cons rfl (forall_cons rfl (forall_cons rfl (forall_cons rfl forall_nil)))), forall_nil, forall_nil⟩ (fun x => ⟨(forall_cons rfl (forall_cons rfl (forall_cons rfl (forall_cons rfl forall_nil)))), forall_nil⟩) (fun x => ?_); obtain ⟨k, hk, hI⟩ := x; simp only at hk hI ⊢
    by_cases h : (k : Int) < (l.length : Int)
    · (have hka : k < (l).length := by omega); (have w1 := w64s hka (hl)); (have i1 : (0 : Int) ≤ (k : Int) := by omega)
      have hR := Right_pure (l.getD k default) (hl' _ (getD_mem' hka))
      cases hr : rightF (l.getD k default)
      · rw [hr] at hR
        have hz := rall_false (p := fldOk l) hka (by simp only [fldOk, hr, Bool.false_and])
        simp only [go_sem, flds, h, getD_fld hka, fld, i1]
        refine vCall_of (hR) ?_ ?_ ?_; (focus simp only [go_sem, fld]); (focus simp only [go_sem, fld])
        simp only [go_sem, hz]
      · rw [hr] at hR
        by_cases h0 : 0 < (k : Int)
        · have hk1 : k - 1 < l.length := by omega
          have w2 : IntKind.i64.wrap ((k : Int) - 1) = ((k - 1 : Nat) : Int) := by
            rw [maxLen_eq] at hl
            rw [w64 (by omega)]; omega
          have j1 : (0 : Int) ≤ ((k - 1 : Nat) : Int) := by omega
          have j2 : ((k - 1 : Nat) : Int) < (l.length : Int) := by omega
          have hL := Less_pure (l.getD (k - 1) default).at' (l.getD k default).at'
          cases hb : lessB (l.getD (k - 1) default).at' (l.getD k default).at'
          · rw [hb] at hL
            have hz := rall_false (p := fldOk l) hka (by simp only [fldOk, hb, decide_eq_false (show ¬ k = 0 by omega), Bool.or_self, Bool.and_false])
            simp only [go_sem, flds, h, getD_fld hka, fld, i1]
            refine vCall_of (hR) ?_ ?_ ?_; (focus simp only [go_sem, fld]); (focus simp only [go_sem, fld])
            simp only [go_sem]
            refine vDrawQ (by kernel_rfl) (by kernel_rfl) ?_
            simp only [go_sem, h0, w2, getD_fld hk1, getD_fld hka, fld, h, i1, j1, j2]
            refine vCall_of (hL) ?_ ?_ ?_; (focus simp only [go_sem, ref]); (focus simp only [go_sem, ref])
            simp only [go_sem, hz]
          · rw [hb] at hL
            have ok : fldOk l k = true := by simp only [fldOk, hr, hb, Bool.or_true, Bool.and_self]
            simp only [go_sem, flds, h, getD_fld hka, fld, i1]
            refine vCall_of (hR) ?_ ?_ ?_; (focus simp only [go_sem, fld]); (focus simp only [go_sem, fld])
            simp only [go_sem]
            refine vDrawQ (by kernel_rfl) (by kernel_rfl) ?_
            simp only [go_sem, h0, w2, getD_fld hk1, getD_fld hka, fld, h, i1, j1, j2]
            refine vCall_of (hL) ?_ ?_ ?_; (focus simp only [go_sem, ref]); (focus simp only [go_sem, ref])
            simp only [go_sem, w1]
            exact ⟨⟨k + 1, by (try simp only); omega, below_succ hI ok⟩, by show (l).length - (k + 1) < (l).length - k; omega, ⟨rfl, (forall_cons rfl (forall_cons rfl (forall_cons rfl (forall_cons rfl forall_nil)))), forall_nil, forall_nil⟩⟩
        · have ok : fldOk l k = true := by simp only [fldOk, hr, decide_eq_true (show k = 0 by omega), Bool.true_or, Bool.and_self]
          simp only [go_sem, flds, h, getD_fld hka, fld, i1]
          refine vCall_of (hR) ?_ ?_ ?_; (focus simp only [go_sem, fld]); (focus simp only [go_sem, fld])
          simp only [go_sem]
          refine vDrawQ (by kernel_rfl) (by kernel_rfl) ?_
          simp only [go_sem, h0, w1]
          exact ⟨⟨k + 1, by (try simp only); omega, below_succ hI ok⟩, by show (l).length - (k + 1) < (l).length - k; omega, ⟨rfl, (forall_cons rfl (forall_cons rfl (forall_cons rfl (forall_cons rfl forall_nil)))), forall_nil, forall_nil⟩⟩
    · have hz := rall_true (p := fldOk l) (n := l.length) (fun j hj => hI j (by omega))
      simp only [go_sem, flds, h, hz]

def withoutM (l : List Fd) (r : Rf) : List Fd × Int := if rightL l = false then ([], 5) else if idx (atF r) l < 0 then ([], 6) else (l.eraseIdx (idx (atF r) l).toNat, 0)
end Go.Proofs.Ytmnibpgmcgdfpaa

set_option linter.unusedSimpArgs false
set_option linter.unusedVariables false
set_option linter.unusedSimpArgs false
set_option linter.unusedVariables false
namespace Go.Proofs.Ytmnibpgmcgdfpaa
open Go.PL
def less' (r : Rf) : Fd → Bool := fun f => lessB f.at' r
def insM (l : List Fd) (f : Fd) : List Fd := l.takeWhile (less' f.at') ++ f :: l.dropWhile (less' f.at')
def withM (l : List Fd) (f : Fd) : List Fd × Int := if rightL l = false ∨ rightF f = false then ([], 5) else if 0 ≤ idx (atF f.at') l then ([], 7) else if 16 ≤ (l.length : Int) then ([], 14) else (insM l f, 0)
structure WA (l : List Fd) (f : Fd) where
  k : Nat
  acc : List Fd
  hk : k ≤ l.length
  h : acc ++ insM (l.drop k) f = insM l f
structure WB (l : List Fd) (f : Fd) where
  k : Nat
  acc : List Fd
  hk : k ≤ l.length
  h : acc ++ l.drop k = insM l f
theorem ins_t {l : List Fd} {f x : Fd} (h : lessB x.at' f.at' = true) : insM (x :: l) f = x :: insM l f := by
  simp [insM, less', h]
theorem ins_f {l : List Fd} {f x : Fd} (h : lessB x.at' f.at' = false) : insM (x :: l) f = f :: x :: l := by
  simp [insM, less', h]
theorem ins_len (l : List Fd) (f : Fd) : (insM l f).length = l.length + 1 := by
  unfold insM
  have := congrArg List.length (List.takeWhile_append_dropWhile (p := less' f.at') (l := l))
  simp only [List.length_append, List.length_cons] at *
  omega
def fcells (f : Fd) : List PV := [.int .i64 f.at'.sc, .str f.at'.gr, .str f.at'.nm, .int .i64 f.kind, .str f.df, .sl .no (f.cases'.map .str), .int .i64 f.worth]
end Go.Proofs.Ytmnibpgmcgdfpaa

set_option linter.unusedSimpArgs false
set_option linter.unusedVariables false
set_option linter.unusedSimpArgs false
set_option linter.unusedVariables false
namespace Go.Proofs.Ytmnibpgmcgdfpaa
open Go.PL
def hasFr (l : List Pr) (s : Str) : Bool := l.any fun q => q.fr' == s
def tabOk (t o : List Pr) (i : Nat) : Bool := nameB (t.getD i default).fr' && (!(hasFr (t.take i) (t.getD i default).fr') && hasFr o (t.getD i default).to')
def tableM (t o : List Pr) : Bool := decide (1 ≤ t.length ∧ t.length ≤ 6) && (List.range t.length).all (tabOk t o)
structure OkLn (x : Ln) : Prop where
  c : x.fd.cases'.length ≤ 1000000
  f : x.fo.length ≤ 1000000
  b : x.ba.length ≤ 1000000
end Go.Proofs.Ytmnibpgmcgdfpaa

set_option linter.unusedSimpArgs false
set_option linter.unusedVariables false
set_option linter.unusedSimpArgs false
set_option linter.unusedVariables false
namespace Go.Proofs.Ytmnibpgmcgdfpaa
open Go.PL
end Go.Proofs.Ytmnibpgmcgdfpaa

set_option linter.unusedSimpArgs false
set_option linter.unusedVariables false
set_option linter.unusedSimpArgs false
set_option linter.unusedVariables false
namespace Go.Proofs.Ytmnibpgmcgdfpaa
open Go.PL
def tablesB (x : Ln) : Bool := decide (0 < (x.fo.length : Int)) || decide (0 < (x.ba.length : Int))
def rightLn (x : Ln) : Bool :=
  if x.kind = 2 ∨ x.kind = 3 then decide (x.at' = default) && (decide (x.nm = []) && (decide (x.ot = []) && (decide (x.fac = 0) && (!tablesB x && rightF x.fd))))
  else (placeB x.at' && decide (x.fd = default)) && (if x.kind = 8 then decide (x.fac = 0) && (tableM x.fo x.ba && (tableM x.ba x.fo && ((caseM x.fo x.nm).2 && ((caseM x.ba x.ot).2 && (((caseM x.fo x.nm).1 == x.ot) && ((caseM x.ba x.ot).1 == x.nm))))))
    else !tablesB x && (if x.kind = 6 ∨ x.kind = 9 then nameB x.nm && (nameB x.ot && (!(x.nm == x.ot) && (decide (1 < x.fac) && decide (x.fac < 1001))))
      else decide (x.fac = 0) && (if x.kind = 7 ∨ x.kind = 10 then decide (x.nm = []) && decide ((x.ot.length : Int) < 41)
        else decide (x.ot = []) && (if x.kind = 1 then nameB x.nm else if x.kind = 4 then decide (x.nm = []) && !(x.at'.gr == []) else decide (x.kind = 5) && (decide (x.at'.gr = []) && nameB x.nm)))))
theorem tablesB_false {x : Ln} : tablesB x = false ↔ x.fo = [] ∧ x.ba = [] := by
  simp only [tablesB, Bool.or_eq_false_iff, decide_eq_false_iff_not]
  constructor
  · rintro ⟨a, b⟩
    exact ⟨List.eq_nil_of_length_eq_zero (by omega), List.eq_nil_of_length_eq_zero (by omega)⟩
  · rintro ⟨a, b⟩
    rw [a, b]; exact ⟨by decide, by decide⟩
end Go.Proofs.Ytmnibpgmcgdfpaa

set_option linter.unusedSimpArgs false
set_option linter.unusedVariables false
set_option linter.unusedSimpArgs false
set_option linter.unusedVariables false
namespace Go.Proofs.Ytmnibpgmcgdfpaa
open Go.PL
def named (r : Rf) (s : Str) : Rf := ⟨r.sc, r.gr, s⟩
/-- of a right lens -/
def goesR (x : Ln) : List Rf := if x.kind = 2 then [] else if x.kind = 3 then [x.fd.at'] else if x.kind = 9 then [named x.at' x.nm, named x.at' x.ot] else [x.at']
def comesR (x : Ln) : List Rf :=
  if x.kind = 1 then [named x.at' x.nm] else if x.kind = 2 then [x.fd.at'] else if x.kind = 3 then [] else if x.kind = 4 then [⟨x.at'.sc, [], x.at'.nm⟩]
  else if x.kind = 5 then [⟨x.at'.sc, x.nm, x.at'.nm⟩] else if x.kind = 6 then [named x.at' x.nm, named x.at' x.ot] else [x.at']
theorem ob {x y : Int} : ((x == y) = true) ↔ x = y := beq_iff_eq
structure OkFs (l : List Fd) : Prop where
  n : l.length ≤ 1000
  c : ∀ f ∈ l, f.cases'.length ≤ 1000000
def mergedM (l : List Fd) (x : Ln) : List Fd × Bool :=
  if (findF l (named x.at' x.nm)).2 ≠ 0 ∨ (findF l (named x.at' x.nm)).1.kind ≠ 1 then ([], false)
  else if (findF l (named x.at' x.ot)).2 ≠ 0 ∨ (findF l (named x.at' x.ot)).1.kind ≠ 1 ∨ (findF l (named x.at' x.ot)).1.worth ≠ IntKind.i64.wrap ((findF l (named x.at' x.nm)).1.worth * x.fac) then ([], false)
  else ([⟨x.at', 1, [], [], (findF l (named x.at' x.nm)).1.worth⟩], true)
end Go.Proofs.Ytmnibpgmcgdfpaa

set_option linter.unusedSimpArgs false
set_option linter.unusedVariables false
set_option linter.unusedSimpArgs false
set_option linter.unusedVariables false
namespace Go.Proofs.Ytmnibpgmcgdfpaa
open Go.PL
def arrM (l : List Fd) (x : Ln) : List Fd × Bool :=
  if x.kind = 2 then ([x.fd], true)
  else if x.kind = 3 then ([], decide ((findF l x.fd.at').2 = 0) && decide ((findF l x.fd.at').1 = x.fd))
  else if x.kind = 9 then mergedM l x
  else if (findF l x.at').2 ≠ 0 then ([], false)
  else if x.kind = 6 then ([⟨named x.at' x.nm, 1, [], [], (findF l x.at').1.worth⟩, ⟨named x.at' x.ot, 1, [], [], IntKind.i64.wrap ((findF l x.at').1.worth * x.fac)⟩], decide ((findF l x.at').1.kind = 1))
  else if x.kind = 7 then ([⟨x.at', 4, [], [], 0⟩], decide ((findF l x.at').1.kind = 2) && decide ((findF l x.at').1.df = x.ot))
  else if x.kind = 10 then ([⟨x.at', 2, x.ot, [], 0⟩], decide ((findF l x.at').1.kind = 4))
  else if x.kind = 8 then ([⟨x.at', 3, x.ot, fromsM x.ba, 0⟩], decide ((findF l x.at').1 = ⟨x.at', 3, x.nm, fromsM x.fo, 0⟩))
  else ([⟨(comesR x).getD 0 default, (findF l x.at').1.kind, (findF l x.at').1.df, (findF l x.at').1.cases', (findF l x.at').1.worth⟩], true)
end Go.Proofs.Ytmnibpgmcgdfpaa

set_option linter.unusedSimpArgs false
set_option linter.unusedVariables false
set_option linter.unusedSimpArgs false
set_option linter.unusedVariables false
namespace Go.Proofs.Ytmnibpgmcgdfpaa
open Go.PL
def goAll : List Rf → List Fd → Option (List Fd)
  | [], l => some l
  | r :: rs, l => if (withoutM l r).2 ≠ 0 then none else goAll rs (withoutM l r).1
def comeAll : List Fd → List Fd → Option (List Fd)
  | [], l => some l
  | f :: fs, l => if (withM l f).2 ≠ 0 then none else comeAll fs (withM l f).1
def applyR (l : List Fd) (x : Ln) : Option (List Fd) := if (arrM l x).2 = false then none else (goAll (goesR x) l).bind (comeAll (arrM l x).1)
def applyM (l : List Fd) (x : Ln) : List Fd × Int :=
  if rightL l = false ∨ rightLn x = false then ([], 5) else match applyR l x with | none => ([], 16) | some m => (m, 0)
end Go.Proofs.Ytmnibpgmcgdfpaa

set_option linter.unusedSimpArgs false
set_option linter.unusedVariables false
set_option linter.unusedSimpArgs false
set_option linter.unusedVariables false
namespace Go.Proofs.Ytmnibpgmcgdfpaa
open Go.PL
def roundP (fo ba : List Pr) (p : Pr) : Bool := (caseM fo p.fr').2 && ((caseM ba (caseM fo p.fr').1).2 && ((caseM ba (caseM fo p.fr').1).1 == p.fr'))
def roundM (fo ba : List Pr) : Bool := fo.all (roundP fo ba)
def keptM (x : Ln) (r : Rf) : Bool :=
  if rightLn x = false then false else if idx (fun a => decide (r = a)) (goesR x) < 0 then true
  else if x.kind = 1 ∨ x.kind = 4 ∨ x.kind = 5 ∨ x.kind = 6 ∨ x.kind = 7 ∨ x.kind = 10 then true
  else if x.kind = 9 then idx (fun a => decide (r = a)) (goesR x) == 0
  else if x.kind = 8 then roundM x.fo x.ba else false
def traceM (x : Ln) (r : Rf) : Rf × Bool :=
  if rightLn x = false then (default, false) else if ((goesR x).any fun a => decide (r = a)) = false then (r, true)
  else if (comesR x).length = 0 then (default, false) else ((comesR x).getD 0 default, true)
end Go.Proofs.Ytmnibpgmcgdfpaa

set_option linter.unusedSimpArgs false
set_option linter.unusedVariables false
set_option linter.unusedSimpArgs false
set_option linter.unusedVariables false
namespace Go.Proofs.Ytmnibpgmcgdfpaa
open Go.PL
def tagB (t : Tg) : Bool := decide (1 ≤ t.r) && (decide (t.r ≤ 6) && (decide (1 ≤ t.n) && decide (t.n ≤ 1099511627776)))
end Go.Proofs.Ytmnibpgmcgdfpaa

set_option linter.unusedSimpArgs false
set_option linter.unusedVariables false
set_option linter.unusedSimpArgs false
set_option linter.unusedVariables false
namespace Go.Proofs.Ytmnibpgmcgdfpaa
open Go.PL
structure Opn where
  id : Tg
  sch : Tg
  time : Int
  cart : Str
  kind : Int
  item : Str
  at' : Rf
  delta : Int
  has : Bool
  text : Str
  drops : List Tg
  deriving DecidableEq, Inhabited
end Go.Proofs.Ytmnibpgmcgdfpaa

set_option linter.unusedSimpArgs false
set_option linter.unusedVariables false
set_option linter.unusedSimpArgs false
set_option linter.unusedVariables false
namespace Go.Proofs.Ytmnibpgmcgdfpaa
open Go.PL
end Go.Proofs.Ytmnibpgmcgdfpaa

set_option linter.unusedSimpArgs false
set_option linter.unusedVariables false
set_option linter.unusedSimpArgs false
set_option linter.unusedVariables false
namespace Go.Proofs.Ytmnibpgmcgdfpaa
open Go.PL
end Go.Proofs.Ytmnibpgmcgdfpaa
