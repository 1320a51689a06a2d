/- Contracts of functions and laws of this seat, each for every input that it names: lemmas of the proof. -/
import Derived.Test.YtbojhapdidieoaaXAk
set_option linter.unusedSimpArgs false
set_option linter.unusedVariables false
set_option linter.unusedSimpArgs false
set_option linter.unusedVariables false
namespace Go.Proofs.Ytbojhapdidieoaa
open Go.PL
structure Pr where
  fr' : Str
  to' : Str
  deriving DecidableEq, Inhabited
structure Ln where
  kind : Int
  at' : Rf
  nm : Str
  ot : Str
  fac : Int
  fd : Fd
  fo : List Pr
  ba : List Pr
  deriving DecidableEq, Inhabited
structure Tg where
  r : Int
  n : Int
  deriving DecidableEq, Inhabited
structure Eg where
  id : Tg
  par : Tg
  ln : Ln
  deriving DecidableEq, Inhabited
structure Lg where
  id : Tg
  down : Bool
  deriving DecidableEq, Inhabited
def pr (p : Pr) : PV := .agg [.str p.fr', .str p.to']
def prs (l : List Pr) : PV := .sl .no (l.map pr)
def refs (l : List Rf) : PV := .sl .no (l.map ref)
def lns (x : Ln) : PV := .agg [.int .i64 x.kind, .int .i64 x.at'.sc, .str x.at'.gr, .str x.at'.nm, .str x.nm, .str x.ot, .int .i64 x.fac, .int .i64 x.fd.at'.sc, .str x.fd.at'.gr, .str x.fd.at'.nm, .int .i64 x.fd.kind, .str x.fd.df, .sl .no (x.fd.cases'.map .str), .int .i64 x.fd.worth, .sl .no (x.fo.map pr), .sl .no (x.ba.map pr)]
def tg (t : Tg) : PV := .agg [.int .i64 t.r, .int .i64 t.n]
def tgs (l : List Tg) : PV := .sl .no (l.map tg)
def lg (t : Lg) : PV := .agg [.int .i64 t.id.r, .int .i64 t.id.n, .bool t.down]
def lgs (l : List Lg) : PV := .sl .no (l.map lg)
def eg (e : Eg) : PV := .agg [.int .i64 e.id.r, .int .i64 e.id.n, .int .i64 e.par.r, .int .i64 e.par.n, .int .i64 e.ln.kind, .int .i64 e.ln.at'.sc, .str e.ln.at'.gr, .str e.ln.at'.nm, .str e.ln.nm, .str e.ln.ot, .int .i64 e.ln.fac, .int .i64 e.ln.fd.at'.sc, .str e.ln.fd.at'.gr, .str e.ln.fd.at'.nm, .int .i64 e.ln.fd.kind, .str e.ln.fd.df, .sl .no (e.ln.fd.cases'.map .str), .int .i64 e.ln.fd.worth, .sl .no (e.ln.fo.map pr), .sl .no (e.ln.ba.map pr)]
def egs (l : List Eg) : PV := .sl .no (l.map eg)
theorem getD_map {α : Type} {enc : α → PV} {l : List α} {i : Nat} {d : α} (h : i < l.length) : (l.map enc).getD i .any = enc (l.getD i d) := by
  simp [List.getD_eq_getElem?_getD, h]
theorem getD_pr {l : List Pr} {i : Nat} (h : i < l.length) : (l.map pr).getD i .any = pr (l.getD i default) := getD_map h
theorem getD_ref {l : List Rf} {i : Nat} (h : i < l.length) : (l.map ref).getD i .any = ref (l.getD i default) := getD_map h
theorem getD_tg {l : List Tg} {i : Nat} (h : i < l.length) : (l.map tg).getD i .any = tg (l.getD i default) := getD_map h
theorem getD_lg {l : List Lg} {i : Nat} (h : i < l.length) : (l.map lg).getD i .any = lg (l.getD i default) := getD_map h
theorem getD_eg {l : List Eg} {i : Nat} (h : i < l.length) : (l.map eg).getD i .any = eg (l.getD i default) := getD_map h
theorem pr_fold (a b : Pr) : (a.fr' == b.fr' && a.to' == b.to') = decide (a = b) := by
  cases a; cases b; rw [Bool.eq_iff_iff]; simp
theorem tg_fold (a b : Tg) : (a.r == b.r && a.n == b.n) = decide (a = b) := by
  cases a; cases b; rw [Bool.eq_iff_iff]; simp
theorem lg_fold (a b : Lg) : (a.id.r == b.id.r && (a.id.n == b.id.n && a.down == b.down)) = decide (a = b) := by
  cases a with | mk i d => cases b with | mk j e => cases i; cases j; rw [Bool.eq_iff_iff]; simp [and_assoc]
set_option maxHeartbeats 1000000 in
theorem EqStr_pure (a b : List Str) (ha : a.length ≤ maxLen) (hb : b.length ≤ maxLen) : PL.Pure Try.prog 141 [strs a, strs b] (.bool (decide (a = b))) := by
  by_cases hl : a.length = b.length
  · have hl' : ((a.length : Int) != (b.length : Int)) = false := by rw [hl]; exact bne_self_eq_false _
    refine PL.Pure.of_v Try.func141 (by decide) rfl Try.ntmps141 Try.results141 (by simp) rfl ?_
    simp only [go_sem, reduceIte, Nat.reduceEqDiff, reduceCtorEq, Nat.reduceLT, Nat.reduceAdd, Nat.reduceSub, Nat.reduceMul, Nat.reduceLeDiff, Int.reduceLT, Int.reduceLE, Int.reduceToNat, Int.reduceEq, Int.reduceAdd, Int.reduceSub, Int.reduceNeg, Int.reduceBNe, Int.reduceBEq, strs, hl']
    refine vLoopM (ι := { x : Nat // x ≤ (a).length ∧ (∀ j, j < x → a.getD j [] = b.getD j []) }) 26 (fun x => [(0, strs a), (1, strs b), (12, .int .i64 (a.length : Int)), (13, .int .i64 (x.1 : Int))]) (fun x => []) (fun x => []) (fun x => (a).length - x.1) ⟨0, Nat.zero_le _, fun j hj => absurd hj (Nat.not_lt_zero j)⟩ ⟨rfl, (forall_cons rfl (forall_cons rfl (forall_cons rfl (forall_cons rfl forall_nil)))), forall_nil, forall_nil⟩ (fun x => ⟨(forall_cons rfl (forall_cons rfl (forall_cons rfl (forall_cons rfl forall_nil)))), forall_nil⟩) (fun x => ?_); obtain ⟨k, hk, hI⟩ := x; simp only at hk hI ⊢
    by_cases h : (k : Int) < (a.length : Int)
    · (have hka : k < (a).length := by omega); (have w1 := w64s hka (ha)); (have i1 : (0 : Int) ≤ (k : Int) := by omega)
      have hkb : k < b.length := by omega
      have i2 : (k : Int) < (b.length : Int) := by omega
      by_cases he : a.getD k [] = b.getD k []
      · have he' : (a.getD k [] == b.getD k []) = true := beq_iff_eq.2 he
        simp only [go_sem, reduceIte, Nat.reduceEqDiff, reduceCtorEq, Nat.reduceLT, Nat.reduceAdd, Nat.reduceSub, Nat.reduceMul, Nat.reduceLeDiff, Int.reduceLT, Int.reduceLE, Int.reduceToNat, Int.reduceEq, Int.reduceAdd, Int.reduceSub, Int.reduceNeg, Int.reduceBNe, Int.reduceBEq, strs, h]
        refine vDrawQ (by kernel_rfl) (by kernel_rfl) ?_
        simp only [go_sem, reduceIte, Nat.reduceEqDiff, reduceCtorEq, Nat.reduceLT, Nat.reduceAdd, Nat.reduceSub, Nat.reduceMul, Nat.reduceLeDiff, Int.reduceLT, Int.reduceLE, Int.reduceToNat, Int.reduceEq, Int.reduceAdd, Int.reduceSub, Int.reduceNeg, Int.reduceBNe, Int.reduceBEq, getD_str hka, getD_str hkb, h, i1, i2, he', w1]
        exact ⟨⟨k + 1, by (try simp only); omega, below_succ hI he⟩, by show (a).length - (k + 1) < (a).length - k; omega, ⟨rfl, (forall_cons rfl (forall_cons rfl (forall_cons rfl (forall_cons rfl forall_nil)))), forall_nil, forall_nil⟩⟩
      · have he' : (a.getD k [] == b.getD k []) = false := beq_eq_false_iff_ne.2 he
        have hab : ¬ a = b := ne_of_getD he
        simp only [go_sem, reduceIte, Nat.reduceEqDiff, reduceCtorEq, Nat.reduceLT, Nat.reduceAdd, Nat.reduceSub, Nat.reduceMul, Nat.reduceLeDiff, Int.reduceLT, Int.reduceLE, Int.reduceToNat, Int.reduceEq, Int.reduceAdd, Int.reduceSub, Int.reduceNeg, Int.reduceBNe, Int.reduceBEq, strs, h]
        refine vDrawQ (by kernel_rfl) (by kernel_rfl) ?_
        simp only [go_sem, reduceIte, Nat.reduceEqDiff, reduceCtorEq, Nat.reduceLT, Nat.reduceAdd, Nat.reduceSub, Nat.reduceMul, Nat.reduceLeDiff, Int.reduceLT, Int.reduceLE, Int.reduceToNat, Int.reduceEq, Int.reduceAdd, Int.reduceSub, Int.reduceNeg, Int.reduceBNe, Int.reduceBEq, getD_str hka, getD_str hkb, h, i1, i2, he', hab]
    · have hab : decide (a = b) = true := decide_eq_true (eq_of_getD (d := []) hl fun j hj => hI j (by omega))
      simp only [go_sem, reduceIte, Nat.reduceEqDiff, reduceCtorEq, Nat.reduceLT, Nat.reduceAdd, Nat.reduceSub, Nat.reduceMul, Nat.reduceLeDiff, Int.reduceLT, Int.reduceLE, Int.reduceToNat, Int.reduceEq, Int.reduceAdd, Int.reduceSub, Int.reduceNeg, Int.reduceBNe, Int.reduceBEq, strs, h, hab]
  · have hl' : ((a.length : Int) != (b.length : Int)) = true := bne_iff_ne.2 (by omega)
    have hab : ¬ a = b := fun e => hl (by rw [e])
    refine PL.Pure.of_v Try.func141 (by decide) rfl Try.ntmps141 Try.results141 (by simp) rfl ?_
    simp only [go_sem, reduceIte, Nat.reduceEqDiff, reduceCtorEq, Nat.reduceLT, Nat.reduceAdd, Nat.reduceSub, Nat.reduceMul, Nat.reduceLeDiff, Int.reduceLT, Int.reduceLE, Int.reduceToNat, Int.reduceEq, Int.reduceAdd, Int.reduceSub, Int.reduceNeg, Int.reduceBNe, Int.reduceBEq, strs, hl', hab]
set_option maxHeartbeats 1000000 in
theorem EqPr_pure (a b : List Pr) (ha : a.length ≤ maxLen) (hb : b.length ≤ maxLen) : PL.Pure Try.prog 139 [prs a, prs b] (.bool (decide (a = b))) := by
  by_cases hl : a.length = b.length
  · have hl' : ((a.length : Int) != (b.length : Int)) = false := by rw [hl]; exact bne_self_eq_false _
    refine PL.Pure.of_v Try.func139 (by decide) rfl Try.ntmps139 Try.results139 (by simp) rfl ?_
    simp only [go_sem, reduceIte, Nat.reduceEqDiff, reduceCtorEq, Nat.reduceLT, Nat.reduceAdd, Nat.reduceSub, Nat.reduceMul, Nat.reduceLeDiff, Int.reduceLT, Int.reduceLE, Int.reduceToNat, Int.reduceEq, Int.reduceAdd, Int.reduceSub, Int.reduceNeg, Int.reduceBNe, Int.reduceBEq, prs, hl']
    refine vLoopM (ι := { x : Nat // x ≤ (a).length ∧ (∀ j, j < x → a.getD j default = b.getD j default) }) 26 (fun x => [(0, prs a), (1, prs b), (12, .int .i64 (a.length : Int)), (13, .int .i64 (x.1 : Int))]) (fun x => []) (fun x => []) (fun x => (a).length - x.1) ⟨0, Nat.zero_le _, fun j hj => absurd hj (Nat.not_lt_zero j)⟩ ⟨rfl, (forall_cons rfl (forall_cons rfl (forall_cons rfl (forall_cons rfl forall_nil)))), forall_nil, forall_nil⟩ (fun x => ⟨(forall_cons rfl (forall_cons rfl (forall_cons rfl (forall_cons rfl forall_nil)))), forall_nil⟩) (fun x => ?_); obtain ⟨k, hk, hI⟩ := x; simp only at hk hI ⊢
    by_cases h : (k : Int) < (a.length : Int)
    · (have hka : k < (a).length := by omega); (have w1 := w64s hka (ha)); (have i1 : (0 : Int) ≤ (k : Int) := by omega)
      have hkb : k < b.length := by omega
      have i2 : (k : Int) < (b.length : Int) := by omega
      by_cases he : a.getD k default = b.getD k default
      · have he' : decide (a.getD k default = b.getD k default) = true := decide_eq_true he
        simp only [go_sem, reduceIte, Nat.reduceEqDiff, reduceCtorEq, Nat.reduceLT, Nat.reduceAdd, Nat.reduceSub, Nat.reduceMul, Nat.reduceLeDiff, Int.reduceLT, Int.reduceLE, Int.reduceToNat, Int.reduceEq, Int.reduceAdd, Int.reduceSub, Int.reduceNeg, Int.reduceBNe, Int.reduceBEq, prs, h]
        refine vDrawQ (by kernel_rfl) (by kernel_rfl) ?_
        simp only [go_sem, reduceIte, Nat.reduceEqDiff, reduceCtorEq, Nat.reduceLT, Nat.reduceAdd, Nat.reduceSub, Nat.reduceMul, Nat.reduceLeDiff, Int.reduceLT, Int.reduceLE, Int.reduceToNat, Int.reduceEq, Int.reduceAdd, Int.reduceSub, Int.reduceNeg, Int.reduceBNe, Int.reduceBEq, getD_pr hka, getD_pr hkb, h, i1, i2, pr, pr_fold, he', w1]
        exact ⟨⟨k + 1, by (try simp only); omega, below_succ hI he⟩, by show (a).length - (k + 1) < (a).length - k; omega, ⟨rfl, (forall_cons rfl (forall_cons rfl (forall_cons rfl (forall_cons rfl forall_nil)))), forall_nil, forall_nil⟩⟩
      · have he' : decide (a.getD k default = b.getD k default) = false := decide_eq_false he
        have hab : ¬ a = b := ne_of_getD he
        simp only [go_sem, reduceIte, Nat.reduceEqDiff, reduceCtorEq, Nat.reduceLT, Nat.reduceAdd, Nat.reduceSub, Nat.reduceMul, Nat.reduceLeDiff, Int.reduceLT, Int.reduceLE, Int.reduceToNat, Int.reduceEq, Int.reduceAdd, Int.reduceSub, Int.reduceNeg, Int.reduceBNe, Int.reduceBEq, prs, h]
        refine vDrawQ (by kernel_rfl) (by kernel_rfl) ?_
        simp only [go_sem, reduceIte, Nat.reduceEqDiff, reduceCtorEq, Nat.reduceLT, Nat.reduceAdd, Nat.reduceSub, Nat.reduceMul, Nat.reduceLeDiff, Int.reduceLT, Int.reduceLE, Int.reduceToNat, Int.reduceEq, Int.reduceAdd, Int.reduceSub, Int.reduceNeg, Int.reduceBNe, Int.reduceBEq, getD_pr hka, getD_pr hkb, h, i1, i2, pr, pr_fold, he', hab]
    · have hab : decide (a = b) = true := decide_eq_true (eq_of_getD (d := default) hl fun j hj => hI j (by omega))
      simp only [go_sem, reduceIte, Nat.reduceEqDiff, reduceCtorEq, Nat.reduceLT, Nat.reduceAdd, Nat.reduceSub, Nat.reduceMul, Nat.reduceLeDiff, Int.reduceLT, Int.reduceLE, Int.reduceToNat, Int.reduceEq, Int.reduceAdd, Int.reduceSub, Int.reduceNeg, Int.reduceBNe, Int.reduceBEq, prs, h, hab]
  · have hl' : ((a.length : Int) != (b.length : Int)) = true := bne_iff_ne.2 (by omega)
    have hab : ¬ a = b := fun e => hl (by rw [e])
    refine PL.Pure.of_v Try.func139 (by decide) rfl Try.ntmps139 Try.results139 (by simp) rfl ?_
    simp only [go_sem, reduceIte, Nat.reduceEqDiff, reduceCtorEq, Nat.reduceLT, Nat.reduceAdd, Nat.reduceSub, Nat.reduceMul, Nat.reduceLeDiff, Int.reduceLT, Int.reduceLE, Int.reduceToNat, Int.reduceEq, Int.reduceAdd, Int.reduceSub, Int.reduceNeg, Int.reduceBNe, Int.reduceBEq, prs, hl', hab]
set_option maxHeartbeats 1000000 in
theorem REqPr_pure (a b : List Pr) (ha : a.length ≤ maxLen) (hb : b.length ≤ maxLen) : PL.Pure Try.prog 56 [prs a, prs b] (.bool (decide (a = b))) := by
  by_cases hl : a.length = b.length
  · have hl' : ((a.length : Int) != (b.length : Int)) = false := by rw [hl]; exact bne_self_eq_false _
    refine PL.Pure.of_v Try.func56 (by decide) rfl Try.ntmps56 Try.results56 (by simp) rfl ?_
    simp only [go_sem, reduceIte, Nat.reduceEqDiff, reduceCtorEq, Nat.reduceLT, Nat.reduceAdd, Nat.reduceSub, Nat.reduceMul, Nat.reduceLeDiff, Int.reduceLT, Int.reduceLE, Int.reduceToNat, Int.reduceEq, Int.reduceAdd, Int.reduceSub, Int.reduceNeg, Int.reduceBNe, Int.reduceBEq, prs, hl']
    refine vLoopM (ι := { x : Nat // x ≤ (a).length ∧ (∀ j, j < x → a.getD j default = b.getD j default) }) 26 (fun x => [(0, prs a), (1, prs b), (5, .int .i64 (x.1 : Int))]) (fun x => []) (fun x => []) (fun x => (a).length - x.1) ⟨0, Nat.zero_le _, fun j hj => absurd hj (Nat.not_lt_zero j)⟩ ⟨rfl, (forall_cons rfl (forall_cons rfl (forall_cons rfl forall_nil))), forall_nil, forall_nil⟩ (fun x => ⟨(forall_cons rfl (forall_cons rfl (forall_cons rfl forall_nil))), forall_nil⟩) (fun x => ?_); obtain ⟨k, hk, hI⟩ := x; simp only at hk hI ⊢
    by_cases h : (k : Int) < (a.length : Int)
    · (have hka : k < (a).length := by omega); (have w1 := w64s hka (ha)); (have i1 : (0 : Int) ≤ (k : Int) := by omega)
      have hkb : k < b.length := by omega
      have i2 : (k : Int) < (b.length : Int) := by omega
      by_cases he : a.getD k default = b.getD k default
      · have he' : decide (a.getD k default = b.getD k default) = true := decide_eq_true he
        simp only [go_sem, reduceIte, Nat.reduceEqDiff, reduceCtorEq, Nat.reduceLT, Nat.reduceAdd, Nat.reduceSub, Nat.reduceMul, Nat.reduceLeDiff, Int.reduceLT, Int.reduceLE, Int.reduceToNat, Int.reduceEq, Int.reduceAdd, Int.reduceSub, Int.reduceNeg, Int.reduceBNe, Int.reduceBEq, prs, h]
        refine vDrawQ (by kernel_rfl) (by kernel_rfl) ?_
        simp only [go_sem, reduceIte, Nat.reduceEqDiff, reduceCtorEq, Nat.reduceLT, Nat.reduceAdd, Nat.reduceSub, Nat.reduceMul, Nat.reduceLeDiff, Int.reduceLT, Int.reduceLE, Int.reduceToNat, Int.reduceEq, Int.reduceAdd, Int.reduceSub, Int.reduceNeg, Int.reduceBNe, Int.reduceBEq, getD_pr hka, getD_pr hkb, h, i1, i2, pr, pr_fold, he', w1]
        exact ⟨⟨k + 1, by (try simp only); omega, below_succ hI he⟩, by show (a).length - (k + 1) < (a).length - k; omega, ⟨rfl, (forall_cons rfl (forall_cons rfl (forall_cons rfl forall_nil))), forall_nil, forall_nil⟩⟩
      · have he' : decide (a.getD k default = b.getD k default) = false := decide_eq_false he
        have hab : ¬ a = b := ne_of_getD he
        simp only [go_sem, reduceIte, Nat.reduceEqDiff, reduceCtorEq, Nat.reduceLT, Nat.reduceAdd, Nat.reduceSub, Nat.reduceMul, Nat.reduceLeDiff, Int.reduceLT, Int.reduceLE, Int.reduceToNat, Int.reduceEq, Int.reduceAdd, Int.reduceSub, Int.reduceNeg, Int.reduceBNe, Int.reduceBEq, prs, h]
        refine vDrawQ (by kernel_rfl) (by kernel_rfl) ?_
        simp only [go_sem, reduceIte, Nat.reduceEqDiff, reduceCtorEq, Nat.reduceLT, Nat.reduceAdd, Nat.reduceSub, Nat.reduceMul, Nat.reduceLeDiff, Int.reduceLT, Int.reduceLE, Int.reduceToNat, Int.reduceEq, Int.reduceAdd, Int.reduceSub, Int.reduceNeg, Int.reduceBNe, Int.reduceBEq, getD_pr hka, getD_pr hkb, h, i1, i2, pr, pr_fold, he', hab]
    · have hab : decide (a = b) = true := decide_eq_true (eq_of_getD (d := default) hl fun j hj => hI j (by omega))
      simp only [go_sem, reduceIte, Nat.reduceEqDiff, reduceCtorEq, Nat.reduceLT, Nat.reduceAdd, Nat.reduceSub, Nat.reduceMul, Nat.reduceLeDiff, Int.reduceLT, Int.reduceLE, Int.reduceToNat, Int.reduceEq, Int.reduceAdd, Int.reduceSub, Int.reduceNeg, Int.reduceBNe, Int.reduceBEq, prs, h, hab]
  · have hl' : ((a.length : Int) != (b.length : Int)) = true := bne_iff_ne.2 (by omega)
    have hab : ¬ a = b := fun e => hl (by rw [e])
    refine PL.Pure.of_v Try.func56 (by decide) rfl Try.ntmps56 Try.results56 (by simp) rfl ?_
    simp only [go_sem, reduceIte, Nat.reduceEqDiff, reduceCtorEq, Nat.reduceLT, Nat.reduceAdd, Nat.reduceSub, Nat.reduceMul, Nat.reduceLeDiff, Int.reduceLT, Int.reduceLE, Int.reduceToNat, Int.reduceEq, Int.reduceAdd, Int.reduceSub, Int.reduceNeg, Int.reduceBNe, Int.reduceBEq, prs, hl', hab]
set_option maxHeartbeats 1000000 in
theorem REqLg_pure (a b : List Lg) (ha : a.length ≤ maxLen) (hb : b.length ≤ maxLen) : PL.Pure Try.prog 16 [lgs a, lgs b] (.bool (decide (a = b))) := by
  by_cases hl : a.length = b.length
  · have hl' : ((a.length : Int) != (b.length : Int)) = false := by rw [hl]; exact bne_self_eq_false _
    refine PL.Pure.of_v Try.func16 (by decide) rfl Try.ntmps16 Try.results16 (by simp) rfl ?_
    simp only [go_sem, reduceIte, Nat.reduceEqDiff, reduceCtorEq, Nat.reduceLT, Nat.reduceAdd, Nat.reduceSub, Nat.reduceMul, Nat.reduceLeDiff, Int.reduceLT, Int.reduceLE, Int.reduceToNat, Int.reduceEq, Int.reduceAdd, Int.reduceSub, Int.reduceNeg, Int.reduceBNe, Int.reduceBEq, lgs, hl']
    refine vLoopM (ι := { x : Nat // x ≤ (a).length ∧ (∀ j, j < x → a.getD j default = b.getD j default) }) 26 (fun x => [(0, lgs a), (1, lgs b), (5, .int .i64 (x.1 : Int))]) (fun x => []) (fun x => []) (fun x => (a).length - x.1) ⟨0, Nat.zero_le _, fun j hj => absurd hj (Nat.not_lt_zero j)⟩ ⟨rfl, (forall_cons rfl (forall_cons rfl (forall_cons rfl forall_nil))), forall_nil, forall_nil⟩ (fun x => ⟨(forall_cons rfl (forall_cons rfl (forall_cons rfl forall_nil))), forall_nil⟩) (fun x => ?_); obtain ⟨k, hk, hI⟩ := x; simp only at hk hI ⊢
    by_cases h : (k : Int) < (a.length : Int)
    · (have hka : k < (a).length := by omega); (have w1 := w64s hka (ha)); (have i1 : (0 : Int) ≤ (k : Int) := by omega)
      have hkb : k < b.length := by omega
      have i2 : (k : Int) < (b.length : Int) := by omega
      by_cases he : a.getD k default = b.getD k default
      · have he' : decide (a.getD k default = b.getD k default) = true := decide_eq_true he
        simp only [go_sem, reduceIte, Nat.reduceEqDiff, reduceCtorEq, Nat.reduceLT, Nat.reduceAdd, Nat.reduceSub, Nat.reduceMul, Nat.reduceLeDiff, Int.reduceLT, Int.reduceLE, Int.reduceToNat, Int.reduceEq, Int.reduceAdd, Int.reduceSub, Int.reduceNeg, Int.reduceBNe, Int.reduceBEq, lgs, h]
        refine vDrawQ (by kernel_rfl) (by kernel_rfl) ?_
        simp only [go_sem, reduceIte, Nat.reduceEqDiff, reduceCtorEq, Nat.reduceLT, Nat.reduceAdd, Nat.reduceSub, Nat.reduceMul, Nat.reduceLeDiff, Int.reduceLT, Int.reduceLE, Int.reduceToNat, Int.reduceEq, Int.reduceAdd, Int.reduceSub, Int.reduceNeg, Int.reduceBNe, Int.reduceBEq, getD_lg hka, getD_lg hkb, h, i1, i2, lg, lg_fold, he', w1]
        exact ⟨⟨k + 1, by (try simp only); omega, below_succ hI he⟩, by show (a).length - (k + 1) < (a).length - k; omega, ⟨rfl, (forall_cons rfl (forall_cons rfl (forall_cons rfl forall_nil))), forall_nil, forall_nil⟩⟩
      · have he' : decide (a.getD k default = b.getD k default) = false := decide_eq_false he
        have hab : ¬ a = b := ne_of_getD he
        simp only [go_sem, reduceIte, Nat.reduceEqDiff, reduceCtorEq, Nat.reduceLT, Nat.reduceAdd, Nat.reduceSub, Nat.reduceMul, Nat.reduceLeDiff, Int.reduceLT, Int.reduceLE, Int.reduceToNat, Int.reduceEq, Int.reduceAdd, Int.reduceSub, Int.reduceNeg, Int.reduceBNe, Int.reduceBEq, lgs, h]
        refine vDrawQ (by kernel_rfl) (by kernel_rfl) ?_
        simp only [go_sem, reduceIte, Nat.reduceEqDiff, reduceCtorEq, Nat.reduceLT, Nat.reduceAdd, Nat.reduceSub, Nat.reduceMul, Nat.reduceLeDiff, Int.reduceLT, Int.reduceLE, Int.reduceToNat, Int.reduceEq, Int.reduceAdd, Int.reduceSub, Int.reduceNeg, Int.reduceBNe, Int.reduceBEq, getD_lg hka, getD_lg hkb, h, i1, i2, lg, lg_fold, he', hab]
    · have hab : decide (a = b) = true := decide_eq_true (eq_of_getD (d := default) hl fun j hj => hI j (by omega))
      simp only [go_sem, reduceIte, Nat.reduceEqDiff, reduceCtorEq, Nat.reduceLT, Nat.reduceAdd, Nat.reduceSub, Nat.reduceMul, Nat.reduceLeDiff, Int.reduceLT, Int.reduceLE, Int.reduceToNat, Int.reduceEq, Int.reduceAdd, Int.reduceSub, Int.reduceNeg, Int.reduceBNe, Int.reduceBEq, lgs, h, hab]
  · have hl' : ((a.length : Int) != (b.length : Int)) = true := bne_iff_ne.2 (by omega)
    have hab : ¬ a = b := fun e => hl (by rw [e])
    refine PL.Pure.of_v Try.func16 (by decide) rfl Try.ntmps16 Try.results16 (by simp) rfl ?_
    simp only [go_sem, reduceIte, Nat.reduceEqDiff, reduceCtorEq, Nat.reduceLT, Nat.reduceAdd, Nat.reduceSub, Nat.reduceMul, Nat.reduceLeDiff, Int.reduceLT, Int.reduceLE, Int.reduceToNat, Int.reduceEq, Int.reduceAdd, Int.reduceSub, Int.reduceNeg, Int.reduceBNe, Int.reduceBEq, lgs, hl', hab]
set_option maxHeartbeats 1000000 in
theorem IdxStr_pure (l : List Str) (s : Str) (hl : l.length ≤ maxLen) : PL.Pure Try.prog 144 [strs l, .str s] (.int .i64 (idx (fun x => s == x) l)) := by
  refine PL.Pure.of_v Try.func144 (by decide) rfl Try.ntmps144 Try.results144 (by simp) rfl ?_
  simp only [go_sem, reduceIte, Nat.reduceEqDiff, reduceCtorEq, Nat.reduceLT, Nat.reduceAdd, Nat.reduceSub, Nat.reduceMul, Nat.reduceLeDiff, Int.reduceLT, Int.reduceLE, Int.reduceToNat, Int.reduceEq, Int.reduceAdd, Int.reduceSub, Int.reduceNeg, Int.reduceBNe, Int.reduceBEq, strs]
  refine vLoopM (ι := { x : Nat // x ≤ (l).length ∧ (∀ j, j < x → (fun x => s == x) (l.getD j []) = false) }) 19 (fun x => [(0, strs l), (1, .str s), (7, .int .i64 (l.length : Int)), (8, .int .i64 (x.1 : Int))]) (fun x => []) (fun x => []) (fun x => (l).length - x.1) ⟨0, Nat.zero_le _, fun j hj => absurd hj (Nat.not_lt_zero j)⟩ ⟨rfl, (forall_cons rfl (forall_cons rfl (forall_cons rfl (forall_cons rfl forall_nil)))), forall_nil, forall_nil⟩ (fun x => ⟨(forall_cons rfl (forall_cons rfl (forall_cons rfl (forall_cons rfl forall_nil)))), forall_nil⟩) (fun x => ?_); obtain ⟨k, hk, hI⟩ := x; simp only at hk hI ⊢
  by_cases h : (k : Int) < (l.length : Int)
  · (have hka : k < (l).length := by omega); (have w1 := w64s hka (hl)); (have i1 : (0 : Int) ≤ (k : Int) := by omega)
    cases he : (fun x => s == x) (l.getD k [])
    · have he0 := he
      simp only at he
      simp only [go_sem, reduceIte, Nat.reduceEqDiff, reduceCtorEq, Nat.reduceLT, Nat.reduceAdd, Nat.reduceSub, Nat.reduceMul, Nat.reduceLeDiff, Int.reduceLT, Int.reduceLE, Int.reduceToNat, Int.reduceEq, Int.reduceAdd, Int.reduceSub, Int.reduceNeg, Int.reduceBNe, Int.reduceBEq, strs, h]
      simp only [go_sem, reduceIte, Nat.reduceEqDiff, reduceCtorEq, Nat.reduceLT, Nat.reduceAdd, Nat.reduceSub, Nat.reduceMul, Nat.reduceLeDiff, Int.reduceLT, Int.reduceLE, Int.reduceToNat, Int.reduceEq, Int.reduceAdd, Int.reduceSub, Int.reduceNeg, Int.reduceBNe, Int.reduceBEq, getD_str hka, h, i1, he, w1]
      exact ⟨⟨k + 1, by (try simp only); omega, below_succ hI he0⟩, by show (l).length - (k + 1) < (l).length - k; omega, ⟨rfl, (forall_cons rfl (forall_cons rfl (forall_cons rfl (forall_cons rfl forall_nil)))), forall_nil, forall_nil⟩⟩
    · have hx := idx_found (p := fun x => s == x) hka hI he
      simp only at he
      simp only [go_sem, reduceIte, Nat.reduceEqDiff, reduceCtorEq, Nat.reduceLT, Nat.reduceAdd, Nat.reduceSub, Nat.reduceMul, Nat.reduceLeDiff, Int.reduceLT, Int.reduceLE, Int.reduceToNat, Int.reduceEq, Int.reduceAdd, Int.reduceSub, Int.reduceNeg, Int.reduceBNe, Int.reduceBEq, strs, h]
      simp only [go_sem, reduceIte, Nat.reduceEqDiff, reduceCtorEq, Nat.reduceLT, Nat.reduceAdd, Nat.reduceSub, Nat.reduceMul, Nat.reduceLeDiff, Int.reduceLT, Int.reduceLE, Int.reduceToNat, Int.reduceEq, Int.reduceAdd, Int.reduceSub, Int.reduceNeg, Int.reduceBNe, Int.reduceBEq, getD_str hka, h, i1, he, hx]
  · have hx := idx_none (p := fun x => s == x) (d := []) (l := l) (fun j hj => hI j (by omega))
    simp only [go_sem, reduceIte, Nat.reduceEqDiff, reduceCtorEq, Nat.reduceLT, Nat.reduceAdd, Nat.reduceSub, Nat.reduceMul, Nat.reduceLeDiff, Int.reduceLT, Int.reduceLE, Int.reduceToNat, Int.reduceEq, Int.reduceAdd, Int.reduceSub, Int.reduceNeg, Int.reduceBNe, Int.reduceBEq, strs, h, hx]
set_option maxHeartbeats 1000000 in
theorem Index_pure (l : List Fd) (r : Rf) (hl : l.length ≤ maxLen) : PL.Pure Try.prog 103 [flds l, ref r] (.int .i64 (idx (fun x => decide (x.at' = r)) l)) := by
  refine PL.Pure.of_v Try.func103 (by decide) rfl Try.ntmps103 Try.results103 (by simp) rfl ?_
  simp only [go_sem, reduceIte, Nat.reduceEqDiff, reduceCtorEq, Nat.reduceLT, Nat.reduceAdd, Nat.reduceSub, Nat.reduceMul, Nat.reduceLeDiff, Int.reduceLT, Int.reduceLE, Int.reduceToNat, Int.reduceEq, Int.reduceAdd, Int.reduceSub, Int.reduceNeg, Int.reduceBNe, Int.reduceBEq, flds, ref]
  refine vLoopM (ι := { x : Nat // x ≤ (l).length ∧ (∀ j, j < x → (fun x => decide (x.at' = r)) (l.getD j default) = false) }) 20 (fun x => [(3, .ptr 3 0), (7, flds l), (8, .int .i64 (l.length : Int)), (9, .int .i64 (x.1 : Int))]) (fun x => [(3, [.int .i64 r.sc, .str r.gr, .str r.nm], false)]) (fun x => []) (fun x => (l).length - x.1) ⟨0, Nat.zero_le _, fun j hj => absurd hj (Nat.not_lt_zero j)⟩ ⟨rfl, (forall_cons rfl (forall_cons rfl (forall_cons rfl (forall_cons rfl forall_nil)))), (forall_cons ⟨rfl, rfl⟩ forall_nil), forall_nil⟩ (fun x => ⟨(forall_cons rfl (forall_cons rfl (forall_cons rfl (forall_cons rfl forall_nil)))), (forall_cons rfl forall_nil)⟩) (fun x => ?_); obtain ⟨k, hk, hI⟩ := x; simp only at hk hI ⊢
  by_cases h : (k : Int) < (l.length : Int)
  · (have hka : k < (l).length := by omega); (have w1 := w64s hka (hl)); (have i1 : (0 : Int) ≤ (k : Int) := by omega)
    cases he : (fun x => decide (x.at' = r)) (l.getD k default)
    · have he0 := he
      simp only at he
      simp only [go_sem, reduceIte, Nat.reduceEqDiff, reduceCtorEq, Nat.reduceLT, Nat.reduceAdd, Nat.reduceSub, Nat.reduceMul, Nat.reduceLeDiff, Int.reduceLT, Int.reduceLE, Int.reduceToNat, Int.reduceEq, Int.reduceAdd, Int.reduceSub, Int.reduceNeg, Int.reduceBNe, Int.reduceBEq, flds, h]
      simp only [go_sem, reduceIte, Nat.reduceEqDiff, reduceCtorEq, Nat.reduceLT, Nat.reduceAdd, Nat.reduceSub, Nat.reduceMul, Nat.reduceLeDiff, Int.reduceLT, Int.reduceLE, Int.reduceToNat, Int.reduceEq, Int.reduceAdd, Int.reduceSub, Int.reduceNeg, Int.reduceBNe, Int.reduceBEq, getD_fld hka, h, i1, fld, ref_fold, he, w1]
      exact ⟨⟨k + 1, by (try simp only); omega, below_succ hI he0⟩, by show (l).length - (k + 1) < (l).length - k; omega, ⟨rfl, (forall_cons rfl (forall_cons rfl (forall_cons rfl (forall_cons rfl forall_nil)))), (forall_cons ⟨rfl, rfl⟩ forall_nil), forall_nil⟩⟩
    · have hx := idx_found (p := fun x => decide (x.at' = r)) hka hI he
      simp only at he
      simp only [go_sem, reduceIte, Nat.reduceEqDiff, reduceCtorEq, Nat.reduceLT, Nat.reduceAdd, Nat.reduceSub, Nat.reduceMul, Nat.reduceLeDiff, Int.reduceLT, Int.reduceLE, Int.reduceToNat, Int.reduceEq, Int.reduceAdd, Int.reduceSub, Int.reduceNeg, Int.reduceBNe, Int.reduceBEq, flds, h]
      simp only [go_sem, reduceIte, Nat.reduceEqDiff, reduceCtorEq, Nat.reduceLT, Nat.reduceAdd, Nat.reduceSub, Nat.reduceMul, Nat.reduceLeDiff, Int.reduceLT, Int.reduceLE, Int.reduceToNat, Int.reduceEq, Int.reduceAdd, Int.reduceSub, Int.reduceNeg, Int.reduceBNe, Int.reduceBEq, getD_fld hka, h, i1, fld, ref_fold, he, hx]
  · have hx := idx_none (p := fun x => decide (x.at' = r)) (d := default) (l := l) (fun j hj => hI j (by omega))
    simp only [go_sem, reduceIte, Nat.reduceEqDiff, reduceCtorEq, Nat.reduceLT, Nat.reduceAdd, Nat.reduceSub, Nat.reduceMul, Nat.reduceLeDiff, Int.reduceLT, Int.reduceLE, Int.reduceToNat, Int.reduceEq, Int.reduceAdd, Int.reduceSub, Int.reduceNeg, Int.reduceBNe, Int.reduceBEq, flds, h, hx]
set_option maxHeartbeats 1000000 in
theorem RAtE_pure (l : List Eg) (t : Tg) (hl : l.length ≤ maxLen) : PL.Pure Try.prog 53 [egs l, tg t] (.int .i64 (idx (fun x => decide (x.id = t)) l)) := by
  refine PL.Pure.of_v Try.func53 (by decide) rfl Try.ntmps53 Try.results53 (by simp) rfl ?_
  simp only [go_sem, reduceIte, Nat.reduceEqDiff, reduceCtorEq, Nat.reduceLT, Nat.reduceAdd, Nat.reduceSub, Nat.reduceMul, Nat.reduceLeDiff, Int.reduceLT, Int.reduceLE, Int.reduceToNat, Int.reduceEq, Int.reduceAdd, Int.reduceSub, Int.reduceNeg, Int.reduceBNe, Int.reduceBEq, egs, tg]
  refine vLoopM (ι := { x : Nat // x ≤ (l).length ∧ (∀ j, j < x → (fun x => decide (x.id = t)) (l.getD j default) = false) }) 20 (fun x => [(0, egs l), (3, .ptr 3 0), (5, .int .i64 (x.1 : Int))]) (fun x => [(3, [.int .i64 t.r, .int .i64 t.n], false)]) (fun x => []) (fun x => (l).length - x.1) ⟨0, Nat.zero_le _, fun j hj => absurd hj (Nat.not_lt_zero j)⟩ ⟨rfl, (forall_cons rfl (forall_cons rfl (forall_cons rfl forall_nil))), (forall_cons ⟨rfl, rfl⟩ forall_nil), forall_nil⟩ (fun x => ⟨(forall_cons rfl (forall_cons rfl (forall_cons rfl forall_nil))), (forall_cons rfl forall_nil)⟩) (fun x => ?_); obtain ⟨k, hk, hI⟩ := x; simp only at hk hI ⊢
  by_cases h : (k : Int) < (l.length : Int)
  · (have hka : k < (l).length := by omega); (have w1 := w64s hka (hl)); (have i1 : (0 : Int) ≤ (k : Int) := by omega)
    cases he : (fun x => decide (x.id = t)) (l.getD k default)
    · have he0 := he
      simp only at he
      simp only [go_sem, reduceIte, Nat.reduceEqDiff, reduceCtorEq, Nat.reduceLT, Nat.reduceAdd, Nat.reduceSub, Nat.reduceMul, Nat.reduceLeDiff, Int.reduceLT, Int.reduceLE, Int.reduceToNat, Int.reduceEq, Int.reduceAdd, Int.reduceSub, Int.reduceNeg, Int.reduceBNe, Int.reduceBEq, egs, h]
      refine vDrawQ (by kernel_rfl) (by kernel_rfl) ?_
      simp only [go_sem, reduceIte, Nat.reduceEqDiff, reduceCtorEq, Nat.reduceLT, Nat.reduceAdd, Nat.reduceSub, Nat.reduceMul, Nat.reduceLeDiff, Int.reduceLT, Int.reduceLE, Int.reduceToNat, Int.reduceEq, Int.reduceAdd, Int.reduceSub, Int.reduceNeg, Int.reduceBNe, Int.reduceBEq, getD_eg hka, h, i1, eg, tg_fold, he, w1]
      exact ⟨⟨k + 1, by (try simp only); omega, below_succ hI he0⟩, by show (l).length - (k + 1) < (l).length - k; omega, ⟨rfl, (forall_cons rfl (forall_cons rfl (forall_cons rfl forall_nil))), (forall_cons ⟨rfl, rfl⟩ forall_nil), forall_nil⟩⟩
    · have hx := idx_found (p := fun x => decide (x.id = t)) hka hI he
      simp only at he
      simp only [go_sem, reduceIte, Nat.reduceEqDiff, reduceCtorEq, Nat.reduceLT, Nat.reduceAdd, Nat.reduceSub, Nat.reduceMul, Nat.reduceLeDiff, Int.reduceLT, Int.reduceLE, Int.reduceToNat, Int.reduceEq, Int.reduceAdd, Int.reduceSub, Int.reduceNeg, Int.reduceBNe, Int.reduceBEq, egs, h]
      refine vDrawQ (by kernel_rfl) (by kernel_rfl) ?_
      simp only [go_sem, reduceIte, Nat.reduceEqDiff, reduceCtorEq, Nat.reduceLT, Nat.reduceAdd, Nat.reduceSub, Nat.reduceMul, Nat.reduceLeDiff, Int.reduceLT, Int.reduceLE, Int.reduceToNat, Int.reduceEq, Int.reduceAdd, Int.reduceSub, Int.reduceNeg, Int.reduceBNe, Int.reduceBEq, getD_eg hka, h, i1, eg, tg_fold, he, hx]
  · have hx := idx_none (p := fun x => decide (x.id = t)) (d := default) (l := l) (fun j hj => hI j (by omega))
    simp only [go_sem, reduceIte, Nat.reduceEqDiff, reduceCtorEq, Nat.reduceLT, Nat.reduceAdd, Nat.reduceSub, Nat.reduceMul, Nat.reduceLeDiff, Int.reduceLT, Int.reduceLE, Int.reduceToNat, Int.reduceEq, Int.reduceAdd, Int.reduceSub, Int.reduceNeg, Int.reduceBNe, Int.reduceBEq, egs, h, hx]
end Go.Proofs.Ytbojhapdidieoaa
