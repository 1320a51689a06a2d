/- Contracts of functions and laws of this seat, each for every input that it names: lemmas of the proof. -/
import Derived.Test.YtcomkajmhlhphaaGreatXAb
set_option linter.unusedSimpArgs false
set_option linter.unusedVariables false
set_option linter.unusedSimpArgs false
set_option linter.unusedVariables false
namespace Go.Proofs.YtcomkajmhlhphaaGreat
open Go.PL
def fldOk (l : List Fd) (i : Nat) : Bool := rightF (l.getD i default) && (decide (i = 0) || lessB (l.getD (i - 1) default).at' (l.getD i default).at')
def rightL (l : List Fd) : Bool := !decide (16 < (l.length : Int)) && (List.range l.length).all (fldOk l)
set_option maxRecDepth 20000 in
set_option maxHeartbeats 8000000 in
theorem RRightL_pure (l : List Fd) (hl : l.length ≤ maxLen) (hl' : ∀ f ∈ l, f.cases'.length ≤ maxLen) : PL.Pure Tryz.prog 109 [flds l] (.bool (rightL l)) := by
  by_cases h16 : 16 < (l.length : Int)
  · refine PL.Pure.of_v Tryz.func109 (by decide) rfl Tryz.ntmps109 Tryz.results109 (by simp) rfl ?_
    simp only [go_sem, flds, h16, rightL, Bool.false_and]
  · have hx : rightL l = (List.range l.length).all (fldOk l) := by simp only [rightL, h16, decide_false, Bool.not_false, Bool.true_and]
    rw [hx]
    refine PL.Pure.of_v Tryz.func109 (by decide) rfl Tryz.ntmps109 Tryz.results109 (by simp) rfl ?_
    simp only [go_sem, flds, h16]
    refine vLoopM (ι := { k : Nat // k ≤ l.length ∧ ∀ j, j < k → fldOk l j = true }) 38 (fun x => [(0, flds l), (3, .int .i64 (x.1 : Int))]) (fun x => []) (fun x => []) (fun x => l.length - x.1) ⟨0, by omega, fun j hj => by omega⟩
      ⟨rfl, (forall_cons rfl (forall_cons rfl (forall_nil))), forall_nil, forall_nil⟩ (fun x => ⟨(forall_cons rfl (forall_cons rfl (forall_nil))), forall_nil⟩) (fun x => ?_)
    obtain ⟨k, hk, hall⟩ := x
    simp only
    by_cases h : (k : Int) < (l.length : Int)
    · have hka : k < l.length := by omega
      have w1 := w64s hka hl
      have i1 : (0 : Int) ≤ (k : Int) := by omega
      have hR := RRight_pure (l.getD k default) (hl' _ (getD_mem' hka))
      cases hr : rightF (l.getD k default)
      · rw [hr] at hR
        have hz := rall_false (p := fldOk l) hka (by simp only [fldOk, hr, Bool.false_and])
        simp only [go_sem, flds, h]
        refine vDrawQ (by kernel_rfl) (by kernel_rfl) ?_
        simp only [go_sem, getD_fld hka, fld, h, i1]
        refine vCall_of (hR) ?_ ?_ ?_; (focus simp only [go_sem, fld]); (focus simp only [go_sem, fld])
        simp only [go_sem, hz]
      · rw [hr] at hR
        by_cases h0 : 0 < (k : Int)
        · have hk1 : k - 1 < l.length := by omega
          have w2 : IntKind.i64.wrap ((k : Int) - 1) = ((k - 1 : Nat) : Int) := by
            rw [maxLen_eq] at hl
            rw [w64 (by omega)]; omega
          have j1 : (0 : Int) ≤ ((k - 1 : Nat) : Int) := by omega
          have j2 : ((k - 1 : Nat) : Int) < (l.length : Int) := by omega
          have hL := RLess_pure (l.getD (k - 1) default).at' (l.getD k default).at'
          cases hb : lessB (l.getD (k - 1) default).at' (l.getD k default).at'
          · rw [hb] at hL
            have hz := rall_false (p := fldOk l) hka (by simp only [fldOk, hb, decide_eq_false (show ¬ k = 0 by omega), Bool.or_self, Bool.and_false])
            simp only [go_sem, flds, h]
            refine vDrawQ (by kernel_rfl) (by kernel_rfl) ?_
            simp only [go_sem, getD_fld hka, fld, h, i1]
            refine vCall_of (hR) ?_ ?_ ?_; (focus simp only [go_sem, fld]); (focus simp only [go_sem, fld])
            simp only [go_sem, h0, w2, getD_fld hk1, getD_fld hka, fld, h, i1, j1, j2]
            refine vCall_of (hL) ?_ ?_ ?_; (focus simp only [go_sem, ref]); (focus simp only [go_sem, ref])
            simp only [go_sem, hz]
          · rw [hb] at hL
            have ok : fldOk l k = true := by simp only [fldOk, hr, hb, Bool.or_true, Bool.and_self]
            simp only [go_sem, flds, h]
            refine vDrawQ (by kernel_rfl) (by kernel_rfl) ?_
            simp only [go_sem, getD_fld hka, fld, h, i1]
            refine vCall_of (hR) ?_ ?_ ?_; (focus simp only [go_sem, fld]); (focus simp only [go_sem, fld])
            simp only [go_sem, h0, w2, getD_fld hk1, getD_fld hka, fld, h, i1, j1, j2]
            refine vCall_of (hL) ?_ ?_ ?_; (focus simp only [go_sem, ref]); (focus simp only [go_sem, ref])
            simp only [go_sem, w1]
            exact ⟨⟨k + 1, by omega, below_succ hall ok⟩, by show l.length - (k + 1) < l.length - k; omega, ⟨rfl, (forall_cons rfl (forall_cons rfl (forall_nil))), forall_nil, forall_nil⟩⟩
        · have ok : fldOk l k = true := by simp only [fldOk, hr, decide_eq_true (show k = 0 by omega), Bool.true_or, Bool.and_self]
          simp only [go_sem, flds, h]
          refine vDrawQ (by kernel_rfl) (by kernel_rfl) ?_
          simp only [go_sem, getD_fld hka, fld, h, i1]
          refine vCall_of (hR) ?_ ?_ ?_; (focus simp only [go_sem, fld]); (focus simp only [go_sem, fld])
          simp only [go_sem, h0, w1]
          exact ⟨⟨k + 1, by omega, below_succ hall ok⟩, by show l.length - (k + 1) < l.length - k; omega, ⟨rfl, (forall_cons rfl (forall_cons rfl (forall_nil))), forall_nil, forall_nil⟩⟩
    · have hz := rall_true (p := fldOk l) (n := l.length) (fun j hj => hall j (by omega))
      simp only [go_sem, flds, h, hz]
end Go.Proofs.YtcomkajmhlhphaaGreat

set_option linter.unusedSimpArgs false
set_option linter.unusedVariables false
set_option linter.unusedSimpArgs false
set_option linter.unusedVariables false
namespace Go.Proofs.YtcomkajmhlhphaaGreat
open Go.PL
def fldTop (f : Fd) : Bool := longB 200 f.at'.gr || (longB 200 f.at'.nm || (longB 200 f.df || decide (20 < (f.cases'.length : Int))))
def heavyF (f : Fd) : Bool := fldTop f || f.cases'.any (longB 200)
set_option maxRecDepth 20000 in
set_option maxHeartbeats 8000000 in
theorem RHeavyF_pure (f : Fd) (hl : f.cases'.length ≤ maxLen) : PL.Pure Tryz.prog 31 [fld f] (.bool (heavyF f)) := by
  have top : ∀ b, fldTop f = b → (∀ (_ : b = true), heavyF f = true) := fun b hb h => by simp only [heavyF, hb, h, Bool.true_or]
  cases ht : fldTop f
  · have hx : heavyF f = f.cases'.any (longB 200) := by simp only [heavyF, ht, Bool.false_or]
    rw [hx]
    simp only [fldTop, longB, Bool.or_eq_false_iff, decide_eq_false_iff_not] at ht
    obtain ⟨t1, t2, t3, t4⟩ := ht
    have t1 : ¬ (200 : Int) < (f.at'.gr.length : Int) := by omega
    have t2 : ¬ (200 : Int) < (f.at'.nm.length : Int) := by omega
    have t3 : ¬ (200 : Int) < (f.df.length : Int) := by omega
    refine PL.Pure.of_v Tryz.func31 (by decide) rfl Tryz.ntmps31 Tryz.results31 (by simp) rfl ?_
    simp only [go_sem, fld, t1, t2, t3, t4]
    refine vLoopM (ι := { k : Nat // k ≤ f.cases'.length ∧ ∀ j, j < k → longB 200 (f.cases'.getD j []) = false }) 42 (fun x => [(1, .ptr 1 0), (3, .int .i64 (x.1 : Int))]) (fun x => [(1, [.int .i64 f.at'.sc, .str f.at'.gr, .str f.at'.nm, .int .i64 f.kind, .str f.df, .sl .no (f.cases'.map .str), .int .i64 f.worth], false)]) (fun x => []) (fun x => f.cases'.length - x.1) ⟨0, by omega, fun j hj => by omega⟩
      ⟨rfl, (forall_cons rfl (forall_cons rfl (forall_nil))), forall_cons ⟨rfl, rfl⟩ forall_nil, forall_nil⟩ (fun x => ⟨(forall_cons rfl (forall_cons rfl (forall_nil))), (forall_cons rfl (forall_nil))⟩) (fun x => ?_)
    obtain ⟨k, hk, hall⟩ := x
    simp only
    by_cases h : (k : Int) < (f.cases'.length : Int)
    · have hka : k < f.cases'.length := by omega
      have w1 := w64s hka hl
      have i1 : (0 : Int) ≤ (k : Int) := by omega
      by_cases g : (200 : Int) < ((f.cases'.getD k []).length : Int)
      · have hz := any_true (p := longB 200) hka (d := []) (by simp only [longB, decide_eq_true_eq]; omega)
        simp only [go_sem, h, getD_str hka, i1, g, hz]
      · simp only [go_sem, h, getD_str hka, i1, g, w1]
        exact ⟨⟨k + 1, by omega, below_succ hall (by simp only [longB, decide_eq_false_iff_not]; omega)⟩, by show f.cases'.length - (k + 1) < f.cases'.length - k; omega, ⟨rfl, (forall_cons rfl (forall_cons rfl (forall_nil))), forall_cons ⟨rfl, rfl⟩ forall_nil, forall_nil⟩⟩
    · have hz := any_false (p := longB 200) (d := []) (l := f.cases') (fun j hj => hall j (by omega))
      simp only [go_sem, h, hz]
  · have hx := top _ ht rfl
    rw [hx]
    simp only [fldTop, longB, Bool.or_eq_true, decide_eq_true_eq] at ht
    by_cases t1 : (200 : Int) < (f.at'.gr.length : Int)
    · refine PL.Pure.of_v Tryz.func31 (by decide) rfl Tryz.ntmps31 Tryz.results31 (by simp) rfl ?_
      simp only [go_sem, fld, t1]
    · by_cases t2 : (200 : Int) < (f.at'.nm.length : Int)
      · refine PL.Pure.of_v Tryz.func31 (by decide) rfl Tryz.ntmps31 Tryz.results31 (by simp) rfl ?_
        simp only [go_sem, fld, t1, t2]
      · by_cases t3 : (200 : Int) < (f.df.length : Int)
        · refine PL.Pure.of_v Tryz.func31 (by decide) rfl Tryz.ntmps31 Tryz.results31 (by simp) rfl ?_
          simp only [go_sem, fld, t1, t2, t3]
        · have t4 : (20 : Int) < (f.cases'.length : Int) := by omega
          refine PL.Pure.of_v Tryz.func31 (by decide) rfl Tryz.ntmps31 Tryz.results31 (by simp) rfl ?_
          simp only [go_sem, fld, t1, t2, t3, t4]
end Go.Proofs.YtcomkajmhlhphaaGreat

set_option linter.unusedSimpArgs false
set_option linter.unusedVariables false
set_option linter.unusedSimpArgs false
set_option linter.unusedVariables false
namespace Go.Proofs.YtcomkajmhlhphaaGreat
open Go.PL
end Go.Proofs.YtcomkajmhlhphaaGreat

set_option linter.unusedSimpArgs false
set_option linter.unusedVariables false
set_option linter.unusedSimpArgs false
set_option linter.unusedVariables false
namespace Go.Proofs.YtcomkajmhlhphaaGreat
open Go.PL
structure Pr where
  fr' : Str
  to' : Str
  deriving DecidableEq, Inhabited
structure Ln where
  kind : Int
  at' : Rf
  nm : Str
  ot : Str
  fac : Int
  fd : Fd
  fo : List Pr
  ba : List Pr
  deriving DecidableEq, Inhabited
structure Tg where
  r : Int
  n : Int
  deriving DecidableEq, Inhabited
structure Eg where
  id : Tg
  par : Tg
  ln : Ln
  deriving DecidableEq, Inhabited
structure Lg where
  id : Tg
  down : Bool
  deriving DecidableEq, Inhabited
def pr (p : Pr) : PV := .agg [.str p.fr', .str p.to']
def prs (l : List Pr) : PV := .sl .no (l.map pr)
def refs (l : List Rf) : PV := .sl .no (l.map ref)
def lns (x : Ln) : PV := .agg [.int .i64 x.kind, .int .i64 x.at'.sc, .str x.at'.gr, .str x.at'.nm, .str x.nm, .str x.ot, .int .i64 x.fac, .int .i64 x.fd.at'.sc, .str x.fd.at'.gr, .str x.fd.at'.nm, .int .i64 x.fd.kind, .str x.fd.df, .sl .no (x.fd.cases'.map .str), .int .i64 x.fd.worth, .sl .no (x.fo.map pr), .sl .no (x.ba.map pr)]
def tg (t : Tg) : PV := .agg [.int .i64 t.r, .int .i64 t.n]
def tgs (l : List Tg) : PV := .sl .no (l.map tg)
def lg (t : Lg) : PV := .agg [.int .i64 t.id.r, .int .i64 t.id.n, .bool t.down]
def lgs (l : List Lg) : PV := .sl .no (l.map lg)
def eg (e : Eg) : PV := .agg [.int .i64 e.id.r, .int .i64 e.id.n, .int .i64 e.par.r, .int .i64 e.par.n, .int .i64 e.ln.kind, .int .i64 e.ln.at'.sc, .str e.ln.at'.gr, .str e.ln.at'.nm, .str e.ln.nm, .str e.ln.ot, .int .i64 e.ln.fac, .int .i64 e.ln.fd.at'.sc, .str e.ln.fd.at'.gr, .str e.ln.fd.at'.nm, .int .i64 e.ln.fd.kind, .str e.ln.fd.df, .sl .no (e.ln.fd.cases'.map .str), .int .i64 e.ln.fd.worth, .sl .no (e.ln.fo.map pr), .sl .no (e.ln.ba.map pr)]
def egs (l : List Eg) : PV := .sl .no (l.map eg)
theorem getD_map {α : Type} {enc : α → PV} {l : List α} {i : Nat} {d : α} (h : i < l.length) : (l.map enc).getD i .any = enc (l.getD i d) := by
  simp [List.getD_eq_getElem?_getD, h]
theorem getD_pr {l : List Pr} {i : Nat} (h : i < l.length) : (l.map pr).getD i .any = pr (l.getD i default) := getD_map h
theorem getD_ref {l : List Rf} {i : Nat} (h : i < l.length) : (l.map ref).getD i .any = ref (l.getD i default) := getD_map h
theorem getD_tg {l : List Tg} {i : Nat} (h : i < l.length) : (l.map tg).getD i .any = tg (l.getD i default) := getD_map h
theorem getD_lg {l : List Lg} {i : Nat} (h : i < l.length) : (l.map lg).getD i .any = lg (l.getD i default) := getD_map h
theorem getD_eg {l : List Eg} {i : Nat} (h : i < l.length) : (l.map eg).getD i .any = eg (l.getD i default) := getD_map h
theorem pr_fold (a b : Pr) : (a.fr' == b.fr' && a.to' == b.to') = decide (a = b) := by
  cases a; cases b; rw [Bool.eq_iff_iff]; simp
theorem tg_fold (a b : Tg) : (a.r == b.r && a.n == b.n) = decide (a = b) := by
  cases a; cases b; rw [Bool.eq_iff_iff]; simp
set_option maxHeartbeats 1000000 in
theorem EqStr_pure (a b : List Str) (ha : a.length ≤ maxLen) (hb : b.length ≤ maxLen) : PL.Pure Tryz.prog 125 [strs a, strs b] (.bool (decide (a = b))) := by
  by_cases hl : a.length = b.length
  · have hl' : ((a.length : Int) != (b.length : Int)) = false := by rw [hl]; exact bne_self_eq_false _
    refine PL.Pure.of_v Tryz.func125 (by decide) rfl Tryz.ntmps125 Tryz.results125 (by simp) rfl ?_
    simp only [go_sem, strs, hl']
    refine vLoopM (ι := { x : Nat // x ≤ (a).length ∧ (∀ j, j < x → a.getD j [] = b.getD j []) }) 26 (fun x => [(0, strs a), (1, strs b), (12, .int .i64 (a.length : Int)), (13, .int .i64 (x.1 : Int))]) (fun x => []) (fun x => []) (fun x => (a).length - x.1) ⟨0, Nat.zero_le _, fun j hj => absurd hj (Nat.not_lt_zero j)⟩ ⟨rfl, (forall_cons rfl (forall_cons rfl (forall_cons rfl (forall_cons rfl forall_nil)))), forall_nil, forall_nil⟩ (fun x => ⟨(forall_cons rfl (forall_cons rfl (forall_cons rfl (forall_cons rfl forall_nil)))), forall_nil⟩) (fun x => ?_); obtain ⟨k, hk, hI⟩ := x; simp only at hk hI ⊢
    by_cases h : (k : Int) < (a.length : Int)
    · (have hka : k < (a).length := by omega); (have w1 := w64s hka (ha)); (have i1 : (0 : Int) ≤ (k : Int) := by omega)
      have hkb : k < b.length := by omega
      have i2 : (k : Int) < (b.length : Int) := by omega
      by_cases he : a.getD k [] = b.getD k []
      · have he' : (a.getD k [] == b.getD k []) = true := beq_iff_eq.2 he
        simp only [go_sem, strs, h]
        refine vDrawQ (by kernel_rfl) (by kernel_rfl) ?_
        simp only [go_sem, getD_str hka, getD_str hkb, h, i1, i2, he', w1]
        exact ⟨⟨k + 1, by (try simp only); omega, below_succ hI he⟩, by show (a).length - (k + 1) < (a).length - k; omega, ⟨rfl, (forall_cons rfl (forall_cons rfl (forall_cons rfl (forall_cons rfl forall_nil)))), forall_nil, forall_nil⟩⟩
      · have he' : (a.getD k [] == b.getD k []) = false := beq_eq_false_iff_ne.2 he
        have hab : ¬ a = b := ne_of_getD he
        simp only [go_sem, strs, h]
        refine vDrawQ (by kernel_rfl) (by kernel_rfl) ?_
        simp only [go_sem, getD_str hka, getD_str hkb, h, i1, i2, he', hab]
    · have hab : decide (a = b) = true := decide_eq_true (eq_of_getD (d := []) hl fun j hj => hI j (by omega))
      simp only [go_sem, strs, h, hab]
  · have hl' : ((a.length : Int) != (b.length : Int)) = true := bne_iff_ne.2 (by omega)
    have hab : ¬ a = b := fun e => hl (by rw [e])
    refine PL.Pure.of_v Tryz.func125 (by decide) rfl Tryz.ntmps125 Tryz.results125 (by simp) rfl ?_
    simp only [go_sem, strs, hl', hab]
set_option maxHeartbeats 1000000 in
theorem EqPr_pure (a b : List Pr) (ha : a.length ≤ maxLen) (hb : b.length ≤ maxLen) : PL.Pure Tryz.prog 85 [prs a, prs b] (.bool (decide (a = b))) := by
  by_cases hl : a.length = b.length
  · have hl' : ((a.length : Int) != (b.length : Int)) = false := by rw [hl]; exact bne_self_eq_false _
    refine PL.Pure.of_v Tryz.func85 (by decide) rfl Tryz.ntmps85 Tryz.results85 (by simp) rfl ?_
    simp only [go_sem, prs, hl']
    refine vLoopM (ι := { x : Nat // x ≤ (a).length ∧ (∀ j, j < x → a.getD j default = b.getD j default) }) 26 (fun x => [(0, prs a), (1, prs b), (12, .int .i64 (a.length : Int)), (13, .int .i64 (x.1 : Int))]) (fun x => []) (fun x => []) (fun x => (a).length - x.1) ⟨0, Nat.zero_le _, fun j hj => absurd hj (Nat.not_lt_zero j)⟩ ⟨rfl, (forall_cons rfl (forall_cons rfl (forall_cons rfl (forall_cons rfl forall_nil)))), forall_nil, forall_nil⟩ (fun x => ⟨(forall_cons rfl (forall_cons rfl (forall_cons rfl (forall_cons rfl forall_nil)))), forall_nil⟩) (fun x => ?_); obtain ⟨k, hk, hI⟩ := x; simp only at hk hI ⊢
    by_cases h : (k : Int) < (a.length : Int)
    · (have hka : k < (a).length := by omega); (have w1 := w64s hka (ha)); (have i1 : (0 : Int) ≤ (k : Int) := by omega)
      have hkb : k < b.length := by omega
      have i2 : (k : Int) < (b.length : Int) := by omega
      by_cases he : a.getD k default = b.getD k default
      · have he' : decide (a.getD k default = b.getD k default) = true := decide_eq_true he
        simp only [go_sem, prs, h]
        refine vDrawQ (by kernel_rfl) (by kernel_rfl) ?_
        simp only [go_sem, getD_pr hka, getD_pr hkb, h, i1, i2, pr, pr_fold, he', w1]
        exact ⟨⟨k + 1, by (try simp only); omega, below_succ hI he⟩, by show (a).length - (k + 1) < (a).length - k; omega, ⟨rfl, (forall_cons rfl (forall_cons rfl (forall_cons rfl (forall_cons rfl forall_nil)))), forall_nil, forall_nil⟩⟩
      · have he' : decide (a.getD k default = b.getD k default) = false := decide_eq_false he
        have hab : ¬ a = b := ne_of_getD he
        simp only [go_sem, prs, h]
        refine vDrawQ (by kernel_rfl) (by kernel_rfl) ?_
        simp only [go_sem, getD_pr hka, getD_pr hkb, h, i1, i2, pr, pr_fold, he', hab]
    · have hab : decide (a = b) = true := decide_eq_true (eq_of_getD (d := default) hl fun j hj => hI j (by omega))
      simp only [go_sem, prs, h, hab]
  · have hl' : ((a.length : Int) != (b.length : Int)) = true := bne_iff_ne.2 (by omega)
    have hab : ¬ a = b := fun e => hl (by rw [e])
    refine PL.Pure.of_v Tryz.func85 (by decide) rfl Tryz.ntmps85 Tryz.results85 (by simp) rfl ?_
    simp only [go_sem, prs, hl', hab]
set_option maxHeartbeats 1000000 in
theorem REqPr_pure (a b : List Pr) (ha : a.length ≤ maxLen) (hb : b.length ≤ maxLen) : PL.Pure Tryz.prog 105 [prs a, prs b] (.bool (decide (a = b))) := by
  by_cases hl : a.length = b.length
  · have hl' : ((a.length : Int) != (b.length : Int)) = false := by rw [hl]; exact bne_self_eq_false _
    refine PL.Pure.of_v Tryz.func105 (by decide) rfl Tryz.ntmps105 Tryz.results105 (by simp) rfl ?_
    simp only [go_sem, prs, hl']
    refine vLoopM (ι := { x : Nat // x ≤ (a).length ∧ (∀ j, j < x → a.getD j default = b.getD j default) }) 26 (fun x => [(0, prs a), (1, prs b), (5, .int .i64 (x.1 : Int))]) (fun x => []) (fun x => []) (fun x => (a).length - x.1) ⟨0, Nat.zero_le _, fun j hj => absurd hj (Nat.not_lt_zero j)⟩ ⟨rfl, (forall_cons rfl (forall_cons rfl (forall_cons rfl forall_nil))), forall_nil, forall_nil⟩ (fun x => ⟨(forall_cons rfl (forall_cons rfl (forall_cons rfl forall_nil))), forall_nil⟩) (fun x => ?_); obtain ⟨k, hk, hI⟩ := x; simp only at hk hI ⊢
    by_cases h : (k : Int) < (a.length : Int)
    · (have hka : k < (a).length := by omega); (have w1 := w64s hka (ha)); (have i1 : (0 : Int) ≤ (k : Int) := by omega)
      have hkb : k < b.length := by omega
      have i2 : (k : Int) < (b.length : Int) := by omega
      by_cases he : a.getD k default = b.getD k default
      · have he' : decide (a.getD k default = b.getD k default) = true := decide_eq_true he
        simp only [go_sem, prs, h]
        refine vDrawQ (by kernel_rfl) (by kernel_rfl) ?_
        simp only [go_sem, getD_pr hka, getD_pr hkb, h, i1, i2, pr, pr_fold, he', w1]
        exact ⟨⟨k + 1, by (try simp only); omega, below_succ hI he⟩, by show (a).length - (k + 1) < (a).length - k; omega, ⟨rfl, (forall_cons rfl (forall_cons rfl (forall_cons rfl forall_nil))), forall_nil, forall_nil⟩⟩
      · have he' : decide (a.getD k default = b.getD k default) = false := decide_eq_false he
        have hab : ¬ a = b := ne_of_getD he
        simp only [go_sem, prs, h]
        refine vDrawQ (by kernel_rfl) (by kernel_rfl) ?_
        simp only [go_sem, getD_pr hka, getD_pr hkb, h, i1, i2, pr, pr_fold, he', hab]
    · have hab : decide (a = b) = true := decide_eq_true (eq_of_getD (d := default) hl fun j hj => hI j (by omega))
      simp only [go_sem, prs, h, hab]
  · have hl' : ((a.length : Int) != (b.length : Int)) = true := bne_iff_ne.2 (by omega)
    have hab : ¬ a = b := fun e => hl (by rw [e])
    refine PL.Pure.of_v Tryz.func105 (by decide) rfl Tryz.ntmps105 Tryz.results105 (by simp) rfl ?_
    simp only [go_sem, prs, hl', hab]
set_option maxHeartbeats 1000000 in
theorem IdxStr_pure (l : List Str) (s : Str) (hl : l.length ≤ maxLen) : PL.Pure Tryz.prog 153 [strs l, .str s] (.int .i64 (idx (fun x => s == x) l)) := by
  refine PL.Pure.of_v Tryz.func153 (by decide) rfl Tryz.ntmps153 Tryz.results153 (by simp) rfl ?_
  simp only [go_sem, strs]
  refine vLoopM (ι := { x : Nat // x ≤ (l).length ∧ (∀ j, j < x → (fun x => s == x) (l.getD j []) = false) }) 19 (fun x => [(0, strs l), (1, .str s), (7, .int .i64 (l.length : Int)), (8, .int .i64 (x.1 : Int))]) (fun x => []) (fun x => []) (fun x => (l).length - x.1) ⟨0, Nat.zero_le _, fun j hj => absurd hj (Nat.not_lt_zero j)⟩ ⟨rfl, (forall_cons rfl (forall_cons rfl (forall_cons rfl (forall_cons rfl forall_nil)))), forall_nil, forall_nil⟩ (fun x => ⟨(forall_cons rfl (forall_cons rfl (forall_cons rfl (forall_cons rfl forall_nil)))), forall_nil⟩) (fun x => ?_); obtain ⟨k, hk, hI⟩ := x; simp only at hk hI ⊢
  by_cases h : (k : Int) < (l.length : Int)
  · (have hka : k < (l).length := by omega); (have w1 := w64s hka (hl)); (have i1 : (0 : Int) ≤ (k : Int) := by omega)
    cases he : (fun x => s == x) (l.getD k [])
    · have he0 := he
      simp only at he
      simp only [go_sem, strs, h]
      simp only [go_sem, getD_str hka, h, i1, he, w1]
      exact ⟨⟨k + 1, by (try simp only); omega, below_succ hI he0⟩, by show (l).length - (k + 1) < (l).length - k; omega, ⟨rfl, (forall_cons rfl (forall_cons rfl (forall_cons rfl (forall_cons rfl forall_nil)))), forall_nil, forall_nil⟩⟩
    · have hx := idx_found (p := fun x => s == x) hka hI he
      simp only at he
      simp only [go_sem, strs, h]
      simp only [go_sem, getD_str hka, h, i1, he, hx]
  · have hx := idx_none (p := fun x => s == x) (d := []) (l := l) (fun j hj => hI j (by omega))
    simp only [go_sem, strs, h, hx]
set_option maxHeartbeats 1000000 in
theorem IdxRef_pure (l : List Rf) (r : Rf) (hl : l.length ≤ maxLen) : PL.Pure Tryz.prog 133 [refs l, ref r] (.int .i64 (idx (fun x => decide (r = x)) l)) := by
  refine PL.Pure.of_v Tryz.func133 (by decide) rfl Tryz.ntmps133 Tryz.results133 (by simp) rfl ?_
  simp only [go_sem, refs, ref]
  refine vLoopM (ι := { x : Nat // x ≤ (l).length ∧ (∀ j, j < x → (fun x => decide (r = x)) (l.getD j default) = false) }) 19 (fun x => [(0, refs l), (3, .ptr 3 0), (7, .int .i64 (l.length : Int)), (8, .int .i64 (x.1 : Int))]) (fun x => [(3, [.int .i64 r.sc, .str r.gr, .str r.nm], false)]) (fun x => []) (fun x => (l).length - x.1) ⟨0, Nat.zero_le _, fun j hj => absurd hj (Nat.not_lt_zero j)⟩ ⟨rfl, (forall_cons rfl (forall_cons rfl (forall_cons rfl (forall_cons rfl forall_nil)))), (forall_cons ⟨rfl, rfl⟩ forall_nil), forall_nil⟩ (fun x => ⟨(forall_cons rfl (forall_cons rfl (forall_cons rfl (forall_cons rfl forall_nil)))), (forall_cons rfl forall_nil)⟩) (fun x => ?_); obtain ⟨k, hk, hI⟩ := x; simp only at hk hI ⊢
  by_cases h : (k : Int) < (l.length : Int)
  · (have hka : k < (l).length := by omega); (have w1 := w64s hka (hl)); (have i1 : (0 : Int) ≤ (k : Int) := by omega)
    cases he : (fun x => decide (r = x)) (l.getD k default)
    · have he0 := he
      simp only at he
      simp only [go_sem, refs, h]
      refine vDrawQ (by kernel_rfl) (by kernel_rfl) ?_
      simp only [go_sem, getD_ref hka, h, i1, ref, ref_fold, he, w1]
      exact ⟨⟨k + 1, by (try simp only); omega, below_succ hI he0⟩, by show (l).length - (k + 1) < (l).length - k; omega, ⟨rfl, (forall_cons rfl (forall_cons rfl (forall_cons rfl (forall_cons rfl forall_nil)))), (forall_cons ⟨rfl, rfl⟩ forall_nil), forall_nil⟩⟩
    · have hx := idx_found (p := fun x => decide (r = x)) hka hI he
      simp only at he
      simp only [go_sem, refs, h]
      refine vDrawQ (by kernel_rfl) (by kernel_rfl) ?_
      simp only [go_sem, getD_ref hka, h, i1, ref, ref_fold, he, hx]
  · have hx := idx_none (p := fun x => decide (r = x)) (d := default) (l := l) (fun j hj => hI j (by omega))
    simp only [go_sem, refs, h, hx]
set_option maxHeartbeats 1000000 in
theorem Index_pure (l : List Fd) (r : Rf) (hl : l.length ≤ maxLen) : PL.Pure Tryz.prog 132 [flds l, ref r] (.int .i64 (idx (fun x => decide (x.at' = r)) l)) := by
  refine PL.Pure.of_v Tryz.func132 (by decide) rfl Tryz.ntmps132 Tryz.results132 (by simp) rfl ?_
  simp only [go_sem, flds, ref]
  refine vLoopM (ι := { x : Nat // x ≤ (l).length ∧ (∀ j, j < x → (fun x => decide (x.at' = r)) (l.getD j default) = false) }) 20 (fun x => [(3, .ptr 3 0), (7, flds l), (8, .int .i64 (l.length : Int)), (9, .int .i64 (x.1 : Int))]) (fun x => [(3, [.int .i64 r.sc, .str r.gr, .str r.nm], false)]) (fun x => []) (fun x => (l).length - x.1) ⟨0, Nat.zero_le _, fun j hj => absurd hj (Nat.not_lt_zero j)⟩ ⟨rfl, (forall_cons rfl (forall_cons rfl (forall_cons rfl (forall_cons rfl forall_nil)))), (forall_cons ⟨rfl, rfl⟩ forall_nil), forall_nil⟩ (fun x => ⟨(forall_cons rfl (forall_cons rfl (forall_cons rfl (forall_cons rfl forall_nil)))), (forall_cons rfl forall_nil)⟩) (fun x => ?_); obtain ⟨k, hk, hI⟩ := x; simp only at hk hI ⊢
  by_cases h : (k : Int) < (l.length : Int)
  · (have hka : k < (l).length := by omega); (have w1 := w64s hka (hl)); (have i1 : (0 : Int) ≤ (k : Int) := by omega)
    cases he : (fun x => decide (x.at' = r)) (l.getD k default)
    · have he0 := he
      simp only at he
      simp only [go_sem, flds, h]
      simp only [go_sem, getD_fld hka, h, i1, fld, ref_fold, he, w1]
      exact ⟨⟨k + 1, by (try simp only); omega, below_succ hI he0⟩, by show (l).length - (k + 1) < (l).length - k; omega, ⟨rfl, (forall_cons rfl (forall_cons rfl (forall_cons rfl (forall_cons rfl forall_nil)))), (forall_cons ⟨rfl, rfl⟩ forall_nil), forall_nil⟩⟩
    · have hx := idx_found (p := fun x => decide (x.at' = r)) hka hI he
      simp only at he
      simp only [go_sem, flds, h]
      simp only [go_sem, getD_fld hka, h, i1, fld, ref_fold, he, hx]
  · have hx := idx_none (p := fun x => decide (x.at' = r)) (d := default) (l := l) (fun j hj => hI j (by omega))
    simp only [go_sem, flds, h, hx]
set_option maxHeartbeats 1000000 in
theorem RAt_pure (l : List Fd) (r : Rf) (hl : l.length ≤ maxLen) : PL.Pure Tryz.prog 111 [flds l, ref r] (.int .i64 (idx (fun x => decide (x.at' = r)) l)) := by
  refine PL.Pure.of_v Tryz.func111 (by decide) rfl Tryz.ntmps111 Tryz.results111 (by simp) rfl ?_
  simp only [go_sem, flds, ref]
  refine vLoopM (ι := { x : Nat // x ≤ (l).length ∧ (∀ j, j < x → (fun x => decide (x.at' = r)) (l.getD j default) = false) }) 20 (fun x => [(0, flds l), (3, .ptr 3 0), (5, .int .i64 (x.1 : Int))]) (fun x => [(3, [.int .i64 r.sc, .str r.gr, .str r.nm], false)]) (fun x => []) (fun x => (l).length - x.1) ⟨0, Nat.zero_le _, fun j hj => absurd hj (Nat.not_lt_zero j)⟩ ⟨rfl, (forall_cons rfl (forall_cons rfl (forall_cons rfl forall_nil))), (forall_cons ⟨rfl, rfl⟩ forall_nil), forall_nil⟩ (fun x => ⟨(forall_cons rfl (forall_cons rfl (forall_cons rfl forall_nil))), (forall_cons rfl forall_nil)⟩) (fun x => ?_); obtain ⟨k, hk, hI⟩ := x; simp only at hk hI ⊢
  by_cases h : (k : Int) < (l.length : Int)
  · (have hka : k < (l).length := by omega); (have w1 := w64s hka (hl)); (have i1 : (0 : Int) ≤ (k : Int) := by omega)
    cases he : (fun x => decide (x.at' = r)) (l.getD k default)
    · have he0 := he
      simp only at he
      simp only [go_sem, flds, h]
      refine vDrawQ (by kernel_rfl) (by kernel_rfl) ?_
      simp only [go_sem, getD_fld hka, h, i1, fld, ref_fold, he, w1]
      exact ⟨⟨k + 1, by (try simp only); omega, below_succ hI he0⟩, by show (l).length - (k + 1) < (l).length - k; omega, ⟨rfl, (forall_cons rfl (forall_cons rfl (forall_cons rfl forall_nil))), (forall_cons ⟨rfl, rfl⟩ forall_nil), forall_nil⟩⟩
    · have hx := idx_found (p := fun x => decide (x.at' = r)) hka hI he
      simp only at he
      simp only [go_sem, flds, h]
      refine vDrawQ (by kernel_rfl) (by kernel_rfl) ?_
      simp only [go_sem, getD_fld hka, h, i1, fld, ref_fold, he, hx]
  · have hx := idx_none (p := fun x => decide (x.at' = r)) (d := default) (l := l) (fun j hj => hI j (by omega))
    simp only [go_sem, flds, h, hx]
set_option maxHeartbeats 1000000 in
theorem RAtE_pure (l : List Eg) (t : Tg) (hl : l.length ≤ maxLen) : PL.Pure Tryz.prog 34 [egs l, tg t] (.int .i64 (idx (fun x => decide (x.id = t)) l)) := by
  refine PL.Pure.of_v Tryz.func34 (by decide) rfl Tryz.ntmps34 Tryz.results34 (by simp) rfl ?_
  simp only [go_sem, egs, tg]
  refine vLoopM (ι := { x : Nat // x ≤ (l).length ∧ (∀ j, j < x → (fun x => decide (x.id = t)) (l.getD j default) = false) }) 20 (fun x => [(0, egs l), (3, .ptr 3 0), (5, .int .i64 (x.1 : Int))]) (fun x => [(3, [.int .i64 t.r, .int .i64 t.n], false)]) (fun x => []) (fun x => (l).length - x.1) ⟨0, Nat.zero_le _, fun j hj => absurd hj (Nat.not_lt_zero j)⟩ ⟨rfl, (forall_cons rfl (forall_cons rfl (forall_cons rfl forall_nil))), (forall_cons ⟨rfl, rfl⟩ forall_nil), forall_nil⟩ (fun x => ⟨(forall_cons rfl (forall_cons rfl (forall_cons rfl forall_nil))), (forall_cons rfl forall_nil)⟩) (fun x => ?_); obtain ⟨k, hk, hI⟩ := x; simp only at hk hI ⊢
  by_cases h : (k : Int) < (l.length : Int)
  · (have hka : k < (l).length := by omega); (have w1 := w64s hka (hl)); (have i1 : (0 : Int) ≤ (k : Int) := by omega)
    cases he : (fun x => decide (x.id = t)) (l.getD k default)
    · have he0 := he
      simp only at he
      simp only [go_sem, egs, h]
      refine vDrawQ (by kernel_rfl) (by kernel_rfl) ?_
      simp only [go_sem, getD_eg hka, h, i1, eg, tg_fold, he, w1]
      exact ⟨⟨k + 1, by (try simp only); omega, below_succ hI he0⟩, by show (l).length - (k + 1) < (l).length - k; omega, ⟨rfl, (forall_cons rfl (forall_cons rfl (forall_cons rfl forall_nil))), (forall_cons ⟨rfl, rfl⟩ forall_nil), forall_nil⟩⟩
    · have hx := idx_found (p := fun x => decide (x.id = t)) hka hI he
      simp only at he
      simp only [go_sem, egs, h]
      refine vDrawQ (by kernel_rfl) (by kernel_rfl) ?_
      simp only [go_sem, getD_eg hka, h, i1, eg, tg_fold, he, hx]
  · have hx := idx_none (p := fun x => decide (x.id = t)) (d := default) (l := l) (fun j hj => hI j (by omega))
    simp only [go_sem, egs, h, hx]
set_option maxHeartbeats 1000000 in
theorem RHasT_pure (l : List Tg) (t : Tg) (hl : l.length ≤ maxLen) : PL.Pure Tryz.prog 49 [tgs l, tg t] (.int .i64 (idx (fun x => decide (x = t)) l)) := by
  refine PL.Pure.of_v Tryz.func49 (by decide) rfl Tryz.ntmps49 Tryz.results49 (by simp) rfl ?_
  simp only [go_sem, tgs, tg]
  refine vLoopM (ι := { x : Nat // x ≤ (l).length ∧ (∀ j, j < x → (fun x => decide (x = t)) (l.getD j default) = false) }) 19 (fun x => [(0, tgs l), (3, .ptr 3 0), (5, .int .i64 (x.1 : Int))]) (fun x => [(3, [.int .i64 t.r, .int .i64 t.n], false)]) (fun x => []) (fun x => (l).length - x.1) ⟨0, Nat.zero_le _, fun j hj => absurd hj (Nat.not_lt_zero j)⟩ ⟨rfl, (forall_cons rfl (forall_cons rfl (forall_cons rfl forall_nil))), (forall_cons ⟨rfl, rfl⟩ forall_nil), forall_nil⟩ (fun x => ⟨(forall_cons rfl (forall_cons rfl (forall_cons rfl forall_nil))), (forall_cons rfl forall_nil)⟩) (fun x => ?_); obtain ⟨k, hk, hI⟩ := x; simp only at hk hI ⊢
  by_cases h : (k : Int) < (l.length : Int)
  · (have hka : k < (l).length := by omega); (have w1 := w64s hka (hl)); (have i1 : (0 : Int) ≤ (k : Int) := by omega)
    cases he : (fun x => decide (x = t)) (l.getD k default)
    · have he0 := he
      simp only at he
      simp only [go_sem, tgs, h]
      refine vDrawQ (by kernel_rfl) (by kernel_rfl) ?_
      simp only [go_sem, getD_tg hka, h, i1, tg, tg_fold, he, w1]
      exact ⟨⟨k + 1, by (try simp only); omega, below_succ hI he0⟩, by show (l).length - (k + 1) < (l).length - k; omega, ⟨rfl, (forall_cons rfl (forall_cons rfl (forall_cons rfl forall_nil))), (forall_cons ⟨rfl, rfl⟩ forall_nil), forall_nil⟩⟩
    · have hx := idx_found (p := fun x => decide (x = t)) hka hI he
      simp only at he
      simp only [go_sem, tgs, h]
      refine vDrawQ (by kernel_rfl) (by kernel_rfl) ?_
      simp only [go_sem, getD_tg hka, h, i1, tg, tg_fold, he, hx]
  · have hx := idx_none (p := fun x => decide (x = t)) (d := default) (l := l) (fun j hj => hI j (by omega))
    simp only [go_sem, tgs, h, hx]
set_option maxHeartbeats 1000000 in
theorem RPlaceR_pure (l : List Rf) (r : Rf) (hl : l.length ≤ maxLen) : PL.Pure Tryz.prog 119 [refs l, ref r] (.int .i64 (idx (fun x => decide (x = r)) l)) := by
  refine PL.Pure.of_v Tryz.func119 (by decide) rfl Tryz.ntmps119 Tryz.results119 (by simp) rfl ?_
  simp only [go_sem, refs, ref]
  refine vLoopM (ι := { x : Nat // x ≤ (l).length ∧ (∀ j, j < x → (fun x => decide (x = r)) (l.getD j default) = false) }) 19 (fun x => [(0, refs l), (3, .ptr 3 0), (5, .int .i64 (x.1 : Int))]) (fun x => [(3, [.int .i64 r.sc, .str r.gr, .str r.nm], false)]) (fun x => []) (fun x => (l).length - x.1) ⟨0, Nat.zero_le _, fun j hj => absurd hj (Nat.not_lt_zero j)⟩ ⟨rfl, (forall_cons rfl (forall_cons rfl (forall_cons rfl forall_nil))), (forall_cons ⟨rfl, rfl⟩ forall_nil), forall_nil⟩ (fun x => ⟨(forall_cons rfl (forall_cons rfl (forall_cons rfl forall_nil))), (forall_cons rfl forall_nil)⟩) (fun x => ?_); obtain ⟨k, hk, hI⟩ := x; simp only at hk hI ⊢
  by_cases h : (k : Int) < (l.length : Int)
  · (have hka : k < (l).length := by omega); (have w1 := w64s hka (hl)); (have i1 : (0 : Int) ≤ (k : Int) := by omega)
    cases he : (fun x => decide (x = r)) (l.getD k default)
    · have he0 := he
      simp only at he
      simp only [go_sem, refs, h]
      refine vDrawQ (by kernel_rfl) (by kernel_rfl) ?_
      simp only [go_sem, getD_ref hka, h, i1, ref, ref_fold, he, w1]
      exact ⟨⟨k + 1, by (try simp only); omega, below_succ hI he0⟩, by show (l).length - (k + 1) < (l).length - k; omega, ⟨rfl, (forall_cons rfl (forall_cons rfl (forall_cons rfl forall_nil))), (forall_cons ⟨rfl, rfl⟩ forall_nil), forall_nil⟩⟩
    · have hx := idx_found (p := fun x => decide (x = r)) hka hI he
      simp only at he
      simp only [go_sem, refs, h]
      refine vDrawQ (by kernel_rfl) (by kernel_rfl) ?_
      simp only [go_sem, getD_ref hka, h, i1, ref, ref_fold, he, hx]
  · have hx := idx_none (p := fun x => decide (x = r)) (d := default) (l := l) (fun j hj => hI j (by omega))
    simp only [go_sem, refs, h, hx]
end Go.Proofs.YtcomkajmhlhphaaGreat
