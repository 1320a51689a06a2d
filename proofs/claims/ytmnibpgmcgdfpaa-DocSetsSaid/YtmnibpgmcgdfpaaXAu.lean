/- Contracts of functions and laws of this seat, each for every input that it names: lemmas of the proof. -/
import Derived.Test.YtmnibpgmcgdfpaaPlL
import Derived.Test.YtmnibpgmcgdfpaaXAa
import Derived.Test.YtmnibpgmcgdfpaaXAc
import Derived.Test.YtmnibpgmcgdfpaaXAn
import Derived.ProofKit
set_option linter.unusedSimpArgs false
set_option linter.unusedVariables false
set_option linter.unusedSimpArgs false
set_option linter.unusedVariables false
namespace Go.Proofs.Ytmnibpgmcgdfpaa
open Go.PL
set_option maxHeartbeats 1000000 in
theorem Scope_pure (l : List Fd) (sc : Int) (hl : l.length ≤ 100000) (hc : ∀ f ∈ l, f.cases'.length ≤ 1000000) : PL.Pure Try.prog 55 [flds l, .int .i64 sc] (flds (scopeM l sc)) := by
  have hm : l.length ≤ maxLen := by rw [maxLen_eq]; omega
  refine pov2 Try.func55 rfl Try.ntmps55 Try.results55 (flds_dids _) ?_
  simp only [go_sem, flds]
  refine awp_nilRow 5 23 7 76 rfl rfl ?_
  refine vLoopM (ι := { x : Nat × (List Fd) // x.1 ≤ (l).length ∧ (x.2 = scopeM (l.take x.1) sc) }) 26 (fun x => [(1, .int .i64 sc), (5, .sl (.row 23) (x.1.2.map fld)), (8, flds l), (9, .int .i64 (l.length : Int)), (10, .int .i64 (x.1.1 : Int))]) (fun x => []) (fun x => [(23, .live (x.1.2.length) (7) (76))]) (fun x => (l).length - x.1.1) ⟨(0, []), Nat.zero_le _, rfl⟩ ⟨rfl, (forall_cons rfl (forall_cons rfl (forall_cons rfl (forall_cons rfl (forall_cons rfl forall_nil))))), forall_nil, (forall_cons rfl forall_nil)⟩ (fun x => ⟨(forall_cons rfl (forall_cons (by simp [PV.ids, refInM]) (forall_cons rfl (forall_cons rfl (forall_cons rfl forall_nil))))), forall_nil⟩) (fun x => ?_); obtain ⟨⟨k, acc⟩, hk, hI⟩ := x; simp only at hk hI ⊢
  have hacc : acc.length ≤ l.length := by
    rw [hI]; exact Nat.le_trans (List.length_filter_le _ _) (take_le_len _ _)
  by_cases h : (k : Int) < (l.length : Int)
  · (have hka : k < (l).length := by omega); (have w1 := w64s hka (hm)); (have i1 : (0 : Int) ≤ (k : Int) := by omega)
    have hr := room1 (show acc.length + 1 ≤ 1000000 by omega) (show 96 ≤ 1000 by omega)
    have hO := FOwn_pure (l.getD k default) (hc _ (getD_mem' hka))
    cases he : ((l.getD k default).at'.sc == sc)
    · have hs : scopeM (l.take (k + 1)) sc = scopeM (l.take k) sc := by
        rw [take_snoc hka (d := default)]
        simp only [scopeM, List.filter_append, List.filter_cons, he, Bool.false_eq_true, if_false, List.filter_nil, List.append_nil]
      simp only [go_sem, flds, h, getD_fld hka, fld, i1, he, w1]
      exact ⟨⟨(k + 1, acc), by (try simp only); omega, by simp only; rw [hs, hI]⟩, by show (l).length - (k + 1) < (l).length - k; omega, ⟨rfl, (forall_cons rfl (forall_cons (by simp [upd, fld]) (forall_cons rfl (forall_cons rfl (forall_cons rfl forall_nil))))), forall_nil, (forall_cons (by simp [upd]) forall_nil)⟩⟩
    · have hs : scopeM (l.take (k + 1)) sc = scopeM (l.take k) sc ++ [l.getD k default] := by
        rw [take_snoc hka (d := default)]
        simp only [scopeM, List.filter_append, List.filter_cons, he, if_true, List.filter_nil]
      simp only [go_sem, flds, h, getD_fld hka, fld, i1, he]
      refine vc2 (hO) ?_
      simp only [go_sem, fld, sized_fld, hr, w1]
      exact ⟨⟨(k + 1, acc ++ [l.getD k default]), by (try simp only); omega, by simp only; rw [hs, hI]⟩, by show (l).length - (k + 1) < (l).length - k; omega, ⟨rfl, (forall_cons rfl (forall_cons (by simp [upd, fld]) (forall_cons rfl (forall_cons rfl (forall_cons rfl forall_nil))))), forall_nil, (forall_cons (by simp [upd]) forall_nil)⟩⟩
  · obtain rfl : k = l.length := by omega
    rw [List.take_length] at hI
    subst hI
    simp only [go_sem, h, flds]
def atF (r : Rf) : Fd → Bool := fun x => decide (x.at' = r)
def findF (l : List Fd) (r : Rf) : Fd × Int := if idx (atF r) l < 0 then (default, 6) else (l.getD (idx (atF r) l).toNat default, 0)
def fldc (x : Fd × Int) : PV := .tup [fld x.1, .int .i64 x.2]
theorem fldc_dids (x : Fd × Int) : (fldc x).dids = [] := by simp only [fldc, PV.dids, PV.didsL, fld_dids, List.append_nil]
theorem fld_default : fld default = .agg [.int .i64 0, .str [], .str [], .int .i64 0, .str [], .sl .no [], .int .i64 0] := rfl
set_option maxHeartbeats 1000000 in
theorem SFind_pure (l : List Fd) (r : Rf) (hl : l.length ≤ 100000) (hc : ∀ f ∈ l, f.cases'.length ≤ 1000000) : PL.Pure Try.prog 72 [flds l, ref r] (fldc (findF l r)) := by
  have hm : l.length ≤ maxLen := by rw [maxLen_eq]; omega
  have hI : PL.Pure Try.prog 107 [flds l, ref r] (.int .i64 (idx (atF r) l)) := Index_pure l r hm
  unfold findF
  rcases idx_cases (atF r) l with h2 | ⟨k, hk, h2⟩
  · rw [h2] at hI ⊢
    refine pov2 Try.func72 rfl Try.ntmps72 Try.results72 (fldc_dids _) ?_
    simp only [go_sem, flds, ref]
    refine vc2 (hI) ?_
    simp only [go_sem, fldc, fld_default]
  · have i1 : (0 : Int) ≤ (k : Int) := by omega
    have i2 : (k : Int) < (l.length : Int) := by omega
    have i3 : ¬ (k : Int) < 0 := by omega
    have hO := FOwn_pure (l.getD k default) (hc _ (getD_mem' hk))
    rw [h2] at hI
    rw [h2, if_neg i3]
    refine pov2 Try.func72 rfl Try.ntmps72 Try.results72 (fldc_dids _) ?_
    simp only [go_sem, flds, ref]
    refine vc2 (hI) ?_
    simp only [go_sem, i1, i2, i3, getD_fld hk, fld]
    refine vc2 (hO) ?_
    simp only [go_sem, fldc, fld]
set_option maxRecDepth 20000 in
set_option maxHeartbeats 8000000 in
theorem SRight_pure (l : List Fd) (hl : l.length ≤ maxLen) (hl' : ∀ f ∈ l, f.cases'.length ≤ maxLen) : PL.Pure Try.prog 53 [flds l] (.bool (rightL l)) := by
  by_cases h16 : 16 < (l.length : Int)
  · refine pov1 Try.func53 rfl Try.ntmps53 Try.results53 ?_
    simp only [go_sem, flds, h16, rightL, Bool.false_and]
  · have hx : rightL l = (List.range l.length).all (fldOk l) := by simp only [rightL, h16, decide_false, Bool.not_false, Bool.true_and]
    rw [hx]
    refine pov1 Try.func53 rfl Try.ntmps53 Try.results53 ?_
    simp only [go_sem, flds, h16]
    refine vLoopM (ι := { x : Nat // x ≤ (l).length ∧ (∀ j, j < x → fldOk l j = true) }) 33 (fun x => [(0, flds l), (8, flds l), (9, .int .i64 (l.length : Int)), (10, .int .i64 (x.1 : Int))]) (fun x => []) (fun x => []) (fun x => (l).length - x.1) ⟨0, Nat.zero_le _, fun j hj => absurd hj (Nat.not_lt_zero j)⟩ ⟨rfl, (forall_cons rfl (forall_cons rfl (forall_cons rfl (forall_cons rfl forall_nil)))), forall_nil, forall_nil⟩ (fun x => ⟨(forall_cons rfl (forall_cons rfl (forall_cons rfl (forall_cons rfl forall_nil)))), forall_nil⟩) (fun x => ?_); obtain ⟨k, hk, hI⟩ := x; simp only at hk hI ⊢
    by_cases h : (k : Int) < (l.length : Int)
    · (have hka : k < (l).length := by omega); (have w1 := w64s hka (hl)); (have i1 : (0 : Int) ≤ (k : Int) := by omega)
      have hR := Right_pure (l.getD k default) (hl' _ (getD_mem' hka))
      cases hr : rightF (l.getD k default)
      · rw [hr] at hR
        have hz := rall_false (p := fldOk l) hka (by simp only [fldOk, hr, Bool.false_and])
        simp only [go_sem, flds, h, getD_fld hka, fld, i1]
        refine vc2 (hR) ?_
        simp only [go_sem, hz]
      · rw [hr] at hR
        by_cases h0 : 0 < (k : Int)
        · have hk1 : k - 1 < l.length := by omega
          have w2 : IntKind.i64.wrap ((k : Int) - 1) = ((k - 1 : Nat) : Int) := by
            rw [maxLen_eq] at hl
            rw [w64 (by omega)]; omega
          have j1 : (0 : Int) ≤ ((k - 1 : Nat) : Int) := by omega
          have j2 : ((k - 1 : Nat) : Int) < (l.length : Int) := by omega
          have hL := Less_pure (l.getD (k - 1) default).at' (l.getD k default).at'
          cases hb : lessB (l.getD (k - 1) default).at' (l.getD k default).at'
          · rw [hb] at hL
            have hz := rall_false (p := fldOk l) hka (by simp only [fldOk, hb, decide_eq_false (show ¬ k = 0 by omega), Bool.or_self, Bool.and_false])
            simp only [go_sem, flds, h, getD_fld hka, fld, i1]
            refine vc2 (hR) ?_
            simp only [go_sem]
            refine vDq ?_
            simp only [go_sem, h0, w2, getD_fld hk1, getD_fld hka, fld, h, i1, j1, j2]
            refine vc1 (hL) ?_
            simp only [go_sem, hz]
          · rw [hb] at hL
            have ok : fldOk l k = true := by simp only [fldOk, hr, hb, Bool.or_true, Bool.and_self]
            simp only [go_sem, flds, h, getD_fld hka, fld, i1]
            refine vc2 (hR) ?_
            simp only [go_sem]
            refine vDq ?_
            simp only [go_sem, h0, w2, getD_fld hk1, getD_fld hka, fld, h, i1, j1, j2]
            refine vc1 (hL) ?_
            simp only [go_sem, w1]
            exact ⟨⟨k + 1, by (try simp only); omega, below_succ hI ok⟩, by show (l).length - (k + 1) < (l).length - k; omega, ⟨rfl, (forall_cons rfl (forall_cons rfl (forall_cons rfl (forall_cons rfl forall_nil)))), forall_nil, forall_nil⟩⟩
        · have ok : fldOk l k = true := by simp only [fldOk, hr, decide_eq_true (show k = 0 by omega), Bool.true_or, Bool.and_self]
          simp only [go_sem, flds, h, getD_fld hka, fld, i1]
          refine vc2 (hR) ?_
          simp only [go_sem]
          refine vDq ?_
          simp only [go_sem, h0, w1]
          exact ⟨⟨k + 1, by (try simp only); omega, below_succ hI ok⟩, by show (l).length - (k + 1) < (l).length - k; omega, ⟨rfl, (forall_cons rfl (forall_cons rfl (forall_cons rfl (forall_cons rfl forall_nil)))), forall_nil, forall_nil⟩⟩
    · have hz := rall_true (p := fldOk l) (n := l.length) (fun j hj => hI j (by omega))
      simp only [go_sem, flds, h, hz]

def withoutM (l : List Fd) (r : Rf) : List Fd × Int := if rightL l = false then ([], 5) else if idx (atF r) l < 0 then ([], 6) else (l.eraseIdx (idx (atF r) l).toNat, 0)
end Go.Proofs.Ytmnibpgmcgdfpaa

set_option linter.unusedSimpArgs false
set_option linter.unusedVariables false
set_option linter.unusedSimpArgs false
set_option linter.unusedVariables false
namespace Go.Proofs.Ytmnibpgmcgdfpaa
open Go.PL
def less' (r : Rf) : Fd → Bool := fun f => lessB f.at' r
def insM (l : List Fd) (f : Fd) : List Fd := l.takeWhile (less' f.at') ++ f :: l.dropWhile (less' f.at')
def withM (l : List Fd) (f : Fd) : List Fd × Int := if rightL l = false ∨ rightF f = false then ([], 5) else if 0 ≤ idx (atF f.at') l then ([], 7) else if 16 ≤ (l.length : Int) then ([], 14) else (insM l f, 0)
structure WA (l : List Fd) (f : Fd) where
  k : Nat
  acc : List Fd
  hk : k ≤ l.length
  h : acc ++ insM (l.drop k) f = insM l f
structure WB (l : List Fd) (f : Fd) where
  k : Nat
  acc : List Fd
  hk : k ≤ l.length
  h : acc ++ l.drop k = insM l f
def fcells (f : Fd) : List PV := [.int .i64 f.at'.sc, .str f.at'.gr, .str f.at'.nm, .int .i64 f.kind, .str f.df, .sl .no (f.cases'.map .str), .int .i64 f.worth]
end Go.Proofs.Ytmnibpgmcgdfpaa

set_option linter.unusedSimpArgs false
set_option linter.unusedVariables false
set_option linter.unusedSimpArgs false
set_option linter.unusedVariables false
namespace Go.Proofs.Ytmnibpgmcgdfpaa
open Go.PL
end Go.Proofs.Ytmnibpgmcgdfpaa

set_option linter.unusedSimpArgs false
set_option linter.unusedVariables false
set_option linter.unusedSimpArgs false
set_option linter.unusedVariables false
namespace Go.Proofs.Ytmnibpgmcgdfpaa
open Go.PL
def tablesB (x : Ln) : Bool := decide (0 < (x.fo.length : Int)) || decide (0 < (x.ba.length : Int))
def rightLn (x : Ln) : Bool :=
  if x.kind = 2 ∨ x.kind = 3 then decide (x.at' = default) && (decide (x.nm = []) && (decide (x.ot = []) && (decide (x.fac = 0) && (!tablesB x && rightF x.fd))))
  else (placeB x.at' && decide (x.fd = default)) && (if x.kind = 8 then decide (x.fac = 0) && (tableM x.fo x.ba && (tableM x.ba x.fo && ((caseM x.fo x.nm).2 && ((caseM x.ba x.ot).2 && (((caseM x.fo x.nm).1 == x.ot) && ((caseM x.ba x.ot).1 == x.nm))))))
    else !tablesB x && (if x.kind = 6 ∨ x.kind = 9 then nameB x.nm && (nameB x.ot && (!(x.nm == x.ot) && (decide (1 < x.fac) && decide (x.fac < 1001))))
      else decide (x.fac = 0) && (if x.kind = 7 ∨ x.kind = 10 then decide (x.nm = []) && decide ((x.ot.length : Int) < 41)
        else decide (x.ot = []) && (if x.kind = 1 then nameB x.nm else if x.kind = 4 then decide (x.nm = []) && !(x.at'.gr == []) else decide (x.kind = 5) && (decide (x.at'.gr = []) && nameB x.nm)))))
end Go.Proofs.Ytmnibpgmcgdfpaa

set_option linter.unusedSimpArgs false
set_option linter.unusedVariables false
set_option linter.unusedSimpArgs false
set_option linter.unusedVariables false
namespace Go.Proofs.Ytmnibpgmcgdfpaa
open Go.PL
def named (r : Rf) (s : Str) : Rf := ⟨r.sc, r.gr, s⟩
/-- of a right lens -/
def goesR (x : Ln) : List Rf := if x.kind = 2 then [] else if x.kind = 3 then [x.fd.at'] else if x.kind = 9 then [named x.at' x.nm, named x.at' x.ot] else [x.at']
def comesR (x : Ln) : List Rf :=
  if x.kind = 1 then [named x.at' x.nm] else if x.kind = 2 then [x.fd.at'] else if x.kind = 3 then [] else if x.kind = 4 then [⟨x.at'.sc, [], x.at'.nm⟩]
  else if x.kind = 5 then [⟨x.at'.sc, x.nm, x.at'.nm⟩] else if x.kind = 6 then [named x.at' x.nm, named x.at' x.ot] else [x.at']
structure OkFs (l : List Fd) : Prop where
  n : l.length ≤ 1000
  c : ∀ f ∈ l, f.cases'.length ≤ 1000000
def mergedM (l : List Fd) (x : Ln) : List Fd × Bool :=
  if (findF l (named x.at' x.nm)).2 ≠ 0 ∨ (findF l (named x.at' x.nm)).1.kind ≠ 1 then ([], false)
  else if (findF l (named x.at' x.ot)).2 ≠ 0 ∨ (findF l (named x.at' x.ot)).1.kind ≠ 1 ∨ (findF l (named x.at' x.ot)).1.worth ≠ IntKind.i64.wrap ((findF l (named x.at' x.nm)).1.worth * x.fac) then ([], false)
  else ([⟨x.at', 1, [], [], (findF l (named x.at' x.nm)).1.worth⟩], true)
end Go.Proofs.Ytmnibpgmcgdfpaa

set_option linter.unusedSimpArgs false
set_option linter.unusedVariables false
set_option linter.unusedSimpArgs false
set_option linter.unusedVariables false
namespace Go.Proofs.Ytmnibpgmcgdfpaa
open Go.PL
def arrM (l : List Fd) (x : Ln) : List Fd × Bool :=
  if x.kind = 2 then ([x.fd], true)
  else if x.kind = 3 then ([], decide ((findF l x.fd.at').2 = 0) && decide ((findF l x.fd.at').1 = x.fd))
  else if x.kind = 9 then mergedM l x
  else if (findF l x.at').2 ≠ 0 then ([], false)
  else if x.kind = 6 then ([⟨named x.at' x.nm, 1, [], [], (findF l x.at').1.worth⟩, ⟨named x.at' x.ot, 1, [], [], IntKind.i64.wrap ((findF l x.at').1.worth * x.fac)⟩], decide ((findF l x.at').1.kind = 1))
  else if x.kind = 7 then ([⟨x.at', 4, [], [], 0⟩], decide ((findF l x.at').1.kind = 2) && decide ((findF l x.at').1.df = x.ot))
  else if x.kind = 10 then ([⟨x.at', 2, x.ot, [], 0⟩], decide ((findF l x.at').1.kind = 4))
  else if x.kind = 8 then ([⟨x.at', 3, x.ot, fromsM x.ba, 0⟩], decide ((findF l x.at').1 = ⟨x.at', 3, x.nm, fromsM x.fo, 0⟩))
  else ([⟨(comesR x).getD 0 default, (findF l x.at').1.kind, (findF l x.at').1.df, (findF l x.at').1.cases', (findF l x.at').1.worth⟩], true)
end Go.Proofs.Ytmnibpgmcgdfpaa

set_option linter.unusedSimpArgs false
set_option linter.unusedVariables false
set_option linter.unusedSimpArgs false
set_option linter.unusedVariables false
namespace Go.Proofs.Ytmnibpgmcgdfpaa
open Go.PL
def goAll : List Rf → List Fd → Option (List Fd)
  | [], l => some l
  | r :: rs, l => if (withoutM l r).2 ≠ 0 then none else goAll rs (withoutM l r).1
def comeAll : List Fd → List Fd → Option (List Fd)
  | [], l => some l
  | f :: fs, l => if (withM l f).2 ≠ 0 then none else comeAll fs (withM l f).1
def applyR (l : List Fd) (x : Ln) : Option (List Fd) := if (arrM l x).2 = false then none else (goAll (goesR x) l).bind (comeAll (arrM l x).1)
def applyM (l : List Fd) (x : Ln) : List Fd × Int :=
  if rightL l = false ∨ rightLn x = false then ([], 5) else match applyR l x with | none => ([], 16) | some m => (m, 0)
end Go.Proofs.Ytmnibpgmcgdfpaa

set_option linter.unusedSimpArgs false
set_option linter.unusedVariables false
set_option linter.unusedSimpArgs false
set_option linter.unusedVariables false
namespace Go.Proofs.Ytmnibpgmcgdfpaa
open Go.PL
def roundP (fo ba : List Pr) (p : Pr) : Bool := (caseM fo p.fr').2 && ((caseM ba (caseM fo p.fr').1).2 && ((caseM ba (caseM fo p.fr').1).1 == p.fr'))
def roundM (fo ba : List Pr) : Bool := fo.all (roundP fo ba)
def keptM (x : Ln) (r : Rf) : Bool :=
  if rightLn x = false then false else if idx (fun a => decide (r = a)) (goesR x) < 0 then true
  else if x.kind = 1 ∨ x.kind = 4 ∨ x.kind = 5 ∨ x.kind = 6 ∨ x.kind = 7 ∨ x.kind = 10 then true
  else if x.kind = 9 then idx (fun a => decide (r = a)) (goesR x) == 0
  else if x.kind = 8 then roundM x.fo x.ba else false
def traceM (x : Ln) (r : Rf) : Rf × Bool :=
  if rightLn x = false then (default, false) else if ((goesR x).any fun a => decide (r = a)) = false then (r, true)
  else if (comesR x).length = 0 then (default, false) else ((comesR x).getD 0 default, true)
end Go.Proofs.Ytmnibpgmcgdfpaa

set_option linter.unusedSimpArgs false
set_option linter.unusedVariables false
set_option linter.unusedSimpArgs false
set_option linter.unusedVariables false
namespace Go.Proofs.Ytmnibpgmcgdfpaa
open Go.PL
structure Opn where
  id : Tg
  sch : Tg
  time : Int
  cart : Str
  kind : Int
  item : Str
  at' : Rf
  delta : Int
  has : Bool
  text : Str
  drops : List Tg
  deriving DecidableEq, Inhabited
end Go.Proofs.Ytmnibpgmcgdfpaa

set_option linter.unusedSimpArgs false
set_option linter.unusedVariables false
set_option linter.unusedSimpArgs false
set_option linter.unusedVariables false
namespace Go.Proofs.Ytmnibpgmcgdfpaa
open Go.PL
end Go.Proofs.Ytmnibpgmcgdfpaa

set_option linter.unusedSimpArgs false
set_option linter.unusedVariables false
set_option linter.unusedSimpArgs false
set_option linter.unusedVariables false
namespace Go.Proofs.Ytmnibpgmcgdfpaa
open Go.PL
/-! the order of places -/
theorem bl_irrefl : ∀ (a : Str), bytesLt a a = false
  | [] => rfl
  | x :: a => by
    have := bl_irrefl a
    unfold bytesLt at *
    simp [Op.bytesLess, this]
theorem bl_trans : ∀ {a b c : Str}, bytesLt a b = true → bytesLt b c = true → bytesLt a c = true
  | [], [], _, h, _ => by simp [bytesLt, Op.bytesLess] at h
  | [], _ :: _, [], _, h => by simp [bytesLt, Op.bytesLess] at h
  | [], _ :: _, _ :: _, _, _ => by simp [bytesLt, Op.bytesLess]
  | _ :: _, [], _, h, _ => by simp [bytesLt, Op.bytesLess] at h
  | _ :: _, _ :: _, [], _, h => by simp [bytesLt, Op.bytesLess] at h
  | x :: a, y :: b, z :: c, h1, h2 => by
    have ih := bl_trans (a := a) (b := b) (c := c)
    unfold bytesLt at *
    simp only [Op.bytesLess, Bool.or_eq_true, decide_eq_true_eq, Bool.and_eq_true, beq_iff_eq] at *
    rcases h1 with h1 | ⟨rfl, h1⟩
    · rcases h2 with h2 | ⟨rfl, h2⟩
      · exact .inl (UInt8.lt_trans h1 h2)
      · exact .inl h1
    · rcases h2 with h2 | ⟨rfl, h2⟩
      · exact .inl h2
      · exact .inr ⟨rfl, ih h1 h2⟩
theorem bl_total : ∀ (a b : Str), bytesLt a b = true ∨ a = b ∨ bytesLt b a = true
  | [], [] => .inr (.inl rfl)
  | [], _ :: _ => .inl (by simp [bytesLt, Op.bytesLess])
  | _ :: _, [] => .inr (.inr (by simp [bytesLt, Op.bytesLess]))
  | x :: a, y :: b => by
    have ih := bl_total a b
    unfold bytesLt at *
    simp only [Op.bytesLess, Bool.or_eq_true, decide_eq_true_eq, Bool.and_eq_true, beq_iff_eq] at *
    rcases Nat.lt_trichotomy x.toNat y.toNat with h | h | h
    · exact .inl (.inl h)
    · have e : x = y := UInt8.toNat_inj.1 h
      subst e
      rcases ih with ih | rfl | ih
      · exact .inl (.inr ⟨rfl, ih⟩)
      · exact .inr (.inl rfl)
      · exact .inr (.inr (.inr ⟨rfl, ih⟩))
    · exact .inr (.inr (.inl h))
theorem lb_irrefl (a : Rf) : lessB a a = false := by simp [lessB, bl_irrefl]
theorem lb_trans {a b c : Rf} (h1 : lessB a b = true) (h2 : lessB b c = true) : lessB a c = true := by
  unfold lessB at *
  by_cases e1 : a.sc = b.sc
  · by_cases e2 : b.sc = c.sc
    · simp only [e1, e2, ne_eq, not_true_eq_false, if_false] at *
      by_cases g1 : a.gr = b.gr
      · by_cases g2 : b.gr = c.gr
        · simp only [g1, g2, not_true_eq_false, if_false] at *
          exact bl_trans h1 h2
        · simp only [g1, g2, not_true_eq_false, not_false_eq_true, if_false, if_true] at *
          exact h2
      · by_cases g2 : b.gr = c.gr
        · rw [← g2]
          simp only [g1, not_false_eq_true, if_true] at *
          exact h1
        · simp only [g1, g2, not_false_eq_true, if_true] at *
          have := bl_trans h1 h2
          have hn : ¬ a.gr = c.gr := fun e => by rw [e, bl_irrefl] at this; cases this
          simp only [hn, not_false_eq_true, if_true]
          exact this
    · simp only [e1, e2, ne_eq, not_false_eq_true, if_true] at *
      exact h2
  · by_cases e2 : b.sc = c.sc
    · rw [← e2]
      simp only [e1, ne_eq, not_false_eq_true, if_true] at *
      exact h1
    · simp only [e1, e2, ne_eq, not_false_eq_true, if_true, decide_eq_true_eq] at *
      have hn : ¬ a.sc = c.sc := by omega
      simp only [hn, not_false_eq_true, if_true, decide_eq_true_eq]
      omega
/-- rising by places -/
def Rise (l : List Fd) : Prop := l.Pairwise fun a b => lessB a.at' b.at' = true
theorem rise_of_steps : ∀ {l : List Fd}, (∀ i, i < l.length → i = 0 ∨ lessB (l.getD (i - 1) default).at' (l.getD i default).at' = true) → Rise l
  | [], _ => List.Pairwise.nil
  | [a], _ => List.pairwise_singleton _ _
  | a :: b :: l, h => by
    have ih : Rise (b :: l) := rise_of_steps fun i hi => by
      cases i with
      | zero => exact .inl rfl
      | succ i =>
        have := h (i + 2) (by simp at hi ⊢; omega)
        right
        simpa using this
    have hab : lessB a.at' b.at' = true := by simpa using h 1 (by simp)
    refine List.pairwise_cons.2 ⟨fun x hx => ?_, ih⟩
    rcases List.mem_cons.1 hx with rfl | hx
    · exact hab
    · exact lb_trans hab ((List.pairwise_cons.1 ih).1 x hx)
theorem steps_of_rise {l : List Fd} (h : Rise l) : ∀ i, i < l.length → i = 0 ∨ lessB (l.getD (i - 1) default).at' (l.getD i default).at' = true := fun i hi => by
  by_cases h0 : i = 0
  · exact .inl h0
  · right
    rw [getD_lt (by omega), getD_lt hi]
    exact List.pairwise_iff_getElem.1 h (i - 1) i (by omega) hi (by omega)
theorem right_iff {l : List Fd} : rightL l = true ↔ l.length ≤ 16 ∧ Rise l ∧ ∀ f ∈ l, rightF f = true := by
  unfold rightL
  simp only [Bool.and_eq_true, Bool.not_eq_true', decide_eq_false_iff_not, List.all_eq_true, List.mem_range, fldOk, Bool.or_eq_true, decide_eq_true_eq]
  constructor
  · rintro ⟨h1, h2⟩
    refine ⟨by omega, rise_of_steps fun i hi => (h2 i hi).2, fun f hf => ?_⟩
    obtain ⟨i, hi, rfl⟩ := List.getElem_of_mem hf
    have := (h2 i hi).1
    rwa [getD_lt hi] at this
  · rintro ⟨h1, h2, h3⟩
    exact ⟨by omega, fun i hi => ⟨h3 _ (getD_mem hi), steps_of_rise h2 i hi⟩⟩
theorem rise_at {l : List Fd} (h : Rise l) {f g : Fd} (hf : f ∈ l) (hg : g ∈ l) (e : f.at' = g.at') : f = g := by
  obtain ⟨i, hi, rfl⟩ := List.getElem_of_mem hf
  obtain ⟨j, hj, rfl⟩ := List.getElem_of_mem hg
  rcases Nat.lt_trichotomy i j with h1 | h1 | h1
  · have := List.pairwise_iff_getElem.1 h i j hi hj h1
    rw [e, lb_irrefl] at this; cases this
  · subst h1; rfl
  · have := List.pairwise_iff_getElem.1 h j i hj hi h1
    rw [e, lb_irrefl] at this; cases this
end Go.Proofs.Ytmnibpgmcgdfpaa

set_option linter.unusedSimpArgs false
set_option linter.unusedVariables false
set_option linter.unusedSimpArgs false
set_option linter.unusedVariables false
namespace Go.Proofs.Ytmnibpgmcgdfpaa
open Go.PL
def findE (m : List Eg) (id : Tg) : Option Eg := m.find? fun e => decide (id = e.id)
theorem findE_id {m : List Eg} {id : Tg} {e : Eg} (h : findE m id = some e) : id = e.id ∧ e ∈ m := by
  unfold findE at h
  exact ⟨by simpa using List.find?_some h, List.mem_of_find?_eq_some h⟩
/-- the edges from the root to a tag -/
inductive Way (m : List Eg) : Tg → List Eg → Prop
  | root : Way m default []
  | step {id : Tg} {e : Eg} {w : List Eg} (hn : id ≠ default) (he : findE m id = some e) (hw : Way m e.par w) : Way m id (w ++ [e])
theorem Way.fn {m : List Eg} {id : Tg} {w w' : List Eg} (h : Way m id w) (h' : Way m id w') : w = w' := by
  induction h generalizing w' with
  | root => cases h' with
    | root => rfl
    | step hn he hw => exact absurd rfl hn
  | step hn he hw ih =>
    cases h' with
    | root => exact absurd rfl hn
    | step hn' he' hw' =>
      rw [he] at he'
      cases he'
      rw [ih hw']
theorem Way.mem {m : List Eg} {id : Tg} {w : List Eg} (h : Way m id w) : ∀ e ∈ w, e ∈ m := by
  induction h with
  | root => intro e he; cases he
  | step hn he hw ih =>
    intro x hx
    rcases List.mem_append.1 hx with hx | hx
    · exact ih x hx
    · rw [List.mem_singleton.1 hx]; exact (findE_id he).2
/-- each part of a way is a way -/
theorem Way.take {m : List Eg} {id : Tg} {w : List Eg} (h : Way m id w) : ∀ k (hk : k < w.length), Way m (w[k]).id (w.take (k + 1)) := by
  induction h with
  | root => intro k hk; simp at hk
  | step hn he hw ih =>
    rename_i id e w
    intro k hk
    by_cases hlt : k < w.length
    · rw [List.getElem_append_left hlt, List.take_append_of_le_length (by omega)]
      exact ih k hlt
    · have hk' : k = w.length := by simp at hk; omega
      subst hk'
      have e1 : (w ++ [e])[w.length]'hk = e := by simp
      rw [e1, List.take_of_length_le (by simp)]
      have := (findE_id he).1
      rw [← this]
      exact .step hn he hw
theorem Way.nodup {m : List Eg} {id : Tg} {w : List Eg} (h : Way m id w) : w.Nodup := by
  rw [List.nodup_iff_pairwise_ne, List.pairwise_iff_getElem]
  intro i j hi hj hij e
  have h1 := h.take i hi
  have h2 := h.take j hj
  rw [e] at h1
  have := congrArg List.length (h1.fn h2)
  simp at this
  omega
theorem nodup_le {α : Type} [DecidableEq α] : ∀ {l m : List α}, l.Nodup → (∀ x ∈ l, x ∈ m) → l.length ≤ m.length
  | [], _, _, _ => Nat.zero_le _
  | a :: l, m, hn, hs => by
    rw [List.nodup_cons] at hn
    have ha : a ∈ m := hs a (by simp)
    have := nodup_le (l := l) (m := m.erase a) hn.2 (fun x hx => (List.mem_erase_of_ne (fun e : x = a => hn.1 (e ▸ hx))).2 (hs x (by simp [hx])))
    rw [List.length_erase_of_mem ha] at this
    have : 0 < m.length := List.length_pos_of_mem ha
    simp only [List.length_cons]
    omega
theorem Way.len {m : List Eg} {id : Tg} {w : List Eg} (h : Way m id w) : w.length ≤ m.length := nodup_le h.nodup h.mem
/-- unlike tags, none of them the root's -/
structure Apart (m : List Eg) : Prop where
  d : (m.map (·.id)).Nodup
  n : ∀ e ∈ m, e.id ≠ default
theorem Apart.find {m : List Eg} (h : Apart m) {e : Eg} (he : e ∈ m) : findE m e.id = some e := by
  obtain ⟨l1, l2, rfl⟩ := List.append_of_mem he
  have hd := h.d
  simp only [List.map_append, List.map_cons] at hd
  unfold findE
  rw [List.find?_append]
  have hno : l1.find? (fun x => decide (e.id = x.id)) = none := by
    rw [List.find?_eq_none]
    intro x hx hh
    have hx' : x.id ∈ l1.map (·.id) := List.mem_map.2 ⟨x, hx, rfl⟩
    have := (List.nodup_append.1 hd).2.2 _ hx' e.id (by simp)
    exact this (by simpa using Eq.symm (by simpa using hh))
  rw [hno]
  simp
end Go.Proofs.Ytmnibpgmcgdfpaa

set_option linter.unusedSimpArgs false
set_option linter.unusedVariables false
set_option linter.unusedSimpArgs false
set_option linter.unusedVariables false
namespace Go.Proofs.Ytmnibpgmcgdfpaa
open Go.PL
structure Seen (n : Nat) (p : Nat → Prop) where
  l : List Nat
  d : l.Nodup
  h : ∀ i ∈ l, i < n ∧ p i
def Seen.next {n : Nat} {p : Nat → Prop} (s : Seen n p) (i : Nat) (hi : i < n) (hp : p i) (hn : i ∉ s.l) : Seen n p :=
  ⟨s.l ++ [i], by rw [List.nodup_append]; exact ⟨s.d, by simp, fun a ha b hb => by simp at hb; subst hb; exact fun e => hn (e ▸ ha)⟩, fun j hj => by
    rcases List.mem_append.1 hj with hj | hj
    · exact s.h j hj
    · simp at hj; subst hj; exact ⟨hi, hp⟩⟩
theorem Seen.len {n : Nat} {p : Nat → Prop} (s : Seen n p) : s.l.length ≤ n := by
  have := nodup_le (m := List.range n) s.d (fun i hi => List.mem_range.2 (s.h i hi).1)
  simpa using this
end Go.Proofs.Ytmnibpgmcgdfpaa

set_option linter.unusedSimpArgs false
set_option linter.unusedVariables false
set_option linter.unusedSimpArgs false
set_option linter.unusedVariables false
namespace Go.Proofs.Ytmnibpgmcgdfpaa
open Go.PL
end Go.Proofs.Ytmnibpgmcgdfpaa

set_option linter.unusedSimpArgs false
set_option linter.unusedVariables false
set_option linter.unusedSimpArgs false
set_option linter.unusedVariables false
namespace Go.Proofs.Ytmnibpgmcgdfpaa
open Go.PL
def edgeB (e : Eg) : Bool := tagB e.id && ((decide (e.par = default) || (tagB e.par && !decide (e.par = e.id))) && (decide (1 ≤ e.ln.kind) && (decide (e.ln.kind ≤ 8) && rightLn e.ln)))
end Go.Proofs.Ytmnibpgmcgdfpaa

set_option linter.unusedSimpArgs false
set_option linter.unusedVariables false
set_option linter.unusedSimpArgs false
set_option linter.unusedVariables false
namespace Go.Proofs.Ytmnibpgmcgdfpaa
open Go.PL
def putM (m : List Eg) (e : Eg) : List Eg × Int :=
  if edgeB e = false then (m, 5) else match findE m e.id with
    | some x => if x = e then (m, 7) else (m, 15)
    | none => if 40 ≤ m.length then (m, 9) else (m ++ [e], 0)
/-- a list of edges that a tree holds -/
structure OkM (m : List Eg) : Prop where
  a : Apart m
  l : ∀ e ∈ m, OkLn e.ln
  n : m.length ≤ 40
/-- with one more edge the settled ones are as they were -/
theorem findE_append {m : List Eg} {e x : Eg} {id : Tg} (h : findE m id = some x) : findE (m ++ [e]) id = some x := by
  unfold findE at *; rw [List.find?_append, h]; rfl
theorem Way.append {m : List Eg} {e : Eg} {id : Tg} {w : List Eg} (h : Way m id w) : Way (m ++ [e]) id w := by
  induction h with
  | root => exact .root
  | step hn he hw ih => exact .step hn (findE_append he) ih
end Go.Proofs.Ytmnibpgmcgdfpaa

set_option linter.unusedSimpArgs false
set_option linter.unusedVariables false
set_option linter.unusedSimpArgs false
set_option linter.unusedVariables false
namespace Go.Proofs.Ytmnibpgmcgdfpaa
open Go.PL
structure OkOp (o : Opn) : Prop where
  d : o.drops.length ≤ 1000000
end Go.Proofs.Ytmnibpgmcgdfpaa

set_option linter.unusedSimpArgs false
set_option linter.unusedVariables false
set_option linter.unusedSimpArgs false
set_option linter.unusedVariables false
namespace Go.Proofs.Ytmnibpgmcgdfpaa
open Go.PL
theorem right_kinds {f : Fd} (h : rightF f = true) : f.kind = 1 ∨ f.kind = 2 ∨ f.kind = 3 ∨ f.kind = 4 := by
  simp only [rightF, Bool.and_eq_true] at h
  have h := h.2
  by_cases k1 : f.kind = 1
  · exact .inl k1
  · rw [if_neg k1] at h
    by_cases k3 : f.kind = 3
    · exact .inr (.inr (.inl k3))
    · simp only [if_neg k3, Bool.and_eq_true] at h
      have h := h.2
      simp [tail2] at h
      omega
set_option maxRecDepth 20000 in
set_option maxHeartbeats 8000000 in
theorem FFits_pure (f : Fd) (s : Str) (hf : f.cases'.length ≤ maxLen) : PL.Pure Try.prog 128 [fld f, .str s] (.bool (fitsF f s)) := by
  have hR := Right_pure f hf
  have hT := Text_pure s
  have hC := ConStr_pure f.cases' s hf
  unfold fitsF
  cases hr : rightF f
  · rw [hr] at hR
    refine pov1 Try.func128 rfl Try.ntmps128 Try.results128 ?_
    simp only [go_sem, fld]
    refine vc2 (hR) ?_
    simp only [go_sem, Bool.false_and]
  · have hk := right_kinds hr
    rw [hr] at hR
    have e41 : decide ((s.length : Int) ≤ 40) = decide ((s.length : Int) < 41) := by rw [Bool.eq_iff_iff]; simp; omega
    rw [e41] at hT
    obtain ⟨a, kind, d, c, w⟩ := f
    simp only at hk hR hT hC ⊢
    rcases hk with rfl | rfl | rfl | rfl
    · refine pov1 Try.func128 rfl Try.ntmps128 Try.results128 ?_
      simp only [go_sem, fld]
      refine vc2 (hR) ?_
      simp only [go_sem]
      rfl
    · refine pov1 Try.func128 rfl Try.ntmps128 Try.results128 ?_
      simp only [go_sem, fld]
      refine vc2 (hR) ?_
      simp only [go_sem]
      refine vc1 (hT) ?_
      simp only [go_sem]
      simp
    · refine pov1 Try.func128 rfl Try.ntmps128 Try.results128 ?_
      simp only [go_sem, fld]
      refine vc2 (hR) ?_
      simp only [go_sem]
      refine vc1 (hC) ?_
      simp only [go_sem]
      simp
    · refine pov1 Try.func128 rfl Try.ntmps128 Try.results128 ?_
      simp only [go_sem, fld]
      refine vc2 (hR) ?_
      simp only [go_sem]
      refine vc1 (hT) ?_
      simp only [go_sem]
      simp
end Go.Proofs.Ytmnibpgmcgdfpaa

set_option linter.unusedSimpArgs false
set_option linter.unusedVariables false
set_option linter.unusedSimpArgs false
set_option linter.unusedVariables false
namespace Go.Proofs.Ytmnibpgmcgdfpaa
open Go.PL
set_option maxRecDepth 20000 in
set_option maxHeartbeats 8000000 in
theorem fitAll_pure (f : Fd) (l : List Str) (hf : f.cases'.length ≤ maxLen) (hl : l.length ≤ maxLen) : PL.Pure Try.prog 108 [fld f, strs l] (.bool (l.all (fitsF f))) := by
  refine pov1 Try.func108 rfl Try.ntmps108 Try.results108 ?_
  simp only [go_sem, fld, strs]
  refine vLoopM (ι := { x : Nat // x ≤ (l).length ∧ (∀ j, j < x → fitsF f (l.getD j []) = true) }) 18 (fun x => [(2, .ptr 2 0), (7, strs l), (8, .int .i64 (l.length : Int)), (9, .int .i64 (x.1 : Int))]) (fun x => [(2, fcells f, false)]) (fun x => []) (fun x => (l).length - x.1) ⟨0, Nat.zero_le _, fun j hj => absurd hj (Nat.not_lt_zero j)⟩ ⟨rfl, (forall_cons rfl (forall_cons rfl (forall_cons rfl (forall_cons rfl forall_nil)))), (forall_cons ⟨rfl, rfl⟩ forall_nil), forall_nil⟩ (fun x => ⟨(forall_cons rfl (forall_cons rfl (forall_cons rfl (forall_cons rfl forall_nil)))), (forall_cons rfl forall_nil)⟩) (fun x => ?_); obtain ⟨k, hk, hI⟩ := x; simp only at hk hI ⊢
  by_cases h : (k : Int) < (l.length : Int)
  · (have hka : k < (l).length := by omega); (have w1 := w64s hka (hl)); (have i1 : (0 : Int) ≤ (k : Int) := by omega)
    have hF := FFits_pure f (l.getD k []) hf
    cases hq : fitsF f (l.getD k [])
    · rw [hq] at hF
      have hz := all_false (p := fitsF f) hka hq
      simp only [go_sem, strs, h, getD_str hka, i1, fcells]
      refine vc2 (hF) ?_
      simp only [go_sem, hz]
    · rw [hq] at hF
      simp only [go_sem, strs, h, getD_str hka, i1, fcells]
      refine vc2 (hF) ?_
      simp only [go_sem, w1]
      exact ⟨⟨k + 1, by (try simp only); omega, below_succ hI hq⟩, by show (l).length - (k + 1) < (l).length - k; omega, ⟨rfl, (forall_cons rfl (forall_cons rfl (forall_cons rfl (forall_cons rfl forall_nil)))), (forall_cons ⟨rfl, rfl⟩ forall_nil), forall_nil⟩⟩
  · have hz := all_true (p := fitsF f) (d := []) (l := l) (fun j hj => hI j (by omega))
    simp only [go_sem, h, hz]
set_option maxRecDepth 20000 in
set_option maxHeartbeats 8000000 in
theorem DFits_pure (f : Fd) (e : En) (hl : f.cases'.length ≤ maxLen) (he : e.l.length ≤ maxLen) : PL.Pure Try.prog 73 [fld f, ent e] (.bool (fitsE f e)) := by
  have hR := Right_pure f hl
  have hA := fitAll_pure f e.l hl he
  cases hr : rightF f
  · rw [hr] at hR
    refine pov1 Try.func73 rfl Try.ntmps73 Try.results73 ?_
    simp only [go_sem, fld, ent]
    refine vc2 (hR) ?_
    simp only [go_sem, fitsE, hr, Bool.false_and]
  · rw [hr] at hR
    by_cases ha : e.at' = f.at'
    · have ha' := decide_eq_true ha
      by_cases h1 : f.kind = 1
      · have k1 : (f.kind == 1) = true := by rw [h1]; rfl
        have hx : fitsE f e = fitsN e := by simp only [fitsE, hr, ha', Bool.and_self, Bool.true_and, h1, if_true]
        rw [hx]
        refine pov1 Try.func73 rfl Try.ntmps73 Try.results73 ?_
        simp only [go_sem, fld, ent]
        refine vc2 (hR) ?_
        simp only [go_sem, ref_fold, ha', k1]
        repeat' ((first | refine vGuard_t (fun h => ?_) (fun h => ?_) | refine vGuard_f (fun h => ?_) (fun h => ?_) | refine vCond_b (fun h => ?_) (fun h => ?_) | refine vDq ?_) <;> first | simp only [go_sem, h] | simp only [go_sem] | skip)
        all_goals (simp_all [fitsN]; try (first | omega | (rw [decide_eq_true (show (-4503599627370497 : Int) < e.n by omega), decide_eq_true (show e.n < 4503599627370497 by omega)]; simp)))
      · have k1 : (f.kind == 1) = false := beq_eq_false_iff_ne.2 h1
        have hx : fitsE f e = (cntOk f e && fitsT f e) := by simp only [fitsE, hr, ha', Bool.and_self, Bool.true_and, h1, if_false]
        rw [hx]
        by_cases hn : e.n = 0
        · have n1 : (e.n != 0) = false := by rw [hn]; rfl
          by_cases h4 : f.kind = 4
          · have k4 : (f.kind == 4) = true := by rw [h4]; rfl
            have hx2 : (cntOk f e && fitsT f e) = (decide ((e.l.length : Int) ≤ 400) && e.l.all (fitsF f)) := by
              simp only [cntOk, fitsT, h4, if_true, hn, decide_true, Bool.and_true]
              congr 1
              rw [Bool.eq_iff_iff]; simp
            rw [hx2]
            by_cases h5 : (e.l.length : Int) ≤ 400
            · refine pov1 Try.func73 rfl Try.ntmps73 Try.results73 ?_
              simp only [go_sem, fld, ent]
              refine vc2 (hR) ?_
              simp only [go_sem, ref_fold, ha', k1, n1, k4, h5]
              refine vc2 (hA) ?_
              simp only [go_sem, decide_eq_true h5, Bool.true_and]
            · refine pov1 Try.func73 rfl Try.ntmps73 Try.results73 ?_
              simp only [go_sem, fld, ent]
              refine vc2 (hR) ?_
              simp only [go_sem, ref_fold, ha', k1, n1, k4, h5, Bool.false_and]
          · have k4 : (f.kind == 4) = false := beq_eq_false_iff_ne.2 h4
            have hx2 : (cntOk f e && fitsT f e) = (((e.l.length : Int) == 1) && e.l.all (fitsF f)) := by
              simp only [cntOk, fitsT, h4, if_false, hn, decide_true, Bool.and_true]
              congr 1
            rw [hx2]
            cases h5 : (e.l.length : Int) == 1
            · refine pov1 Try.func73 rfl Try.ntmps73 Try.results73 ?_
              simp only [go_sem, fld, ent]
              refine vc2 (hR) ?_
              simp only [go_sem, ref_fold, ha', k1, n1, k4, h5, Bool.false_and]
            · refine pov1 Try.func73 rfl Try.ntmps73 Try.results73 ?_
              simp only [go_sem, fld, ent]
              refine vc2 (hR) ?_
              simp only [go_sem, ref_fold, ha', k1, n1, k4, h5]
              refine vc2 (hA) ?_
              simp only [go_sem, Bool.true_and]
        · have n1 : (e.n != 0) = true := bne_iff_ne.2 hn
          have hx2 : (cntOk f e && fitsT f e) = false := by simp [fitsT, hn]
          rw [hx2]
          refine pov1 Try.func73 rfl Try.ntmps73 Try.results73 ?_
          simp only [go_sem, fld, ent]
          refine vc2 (hR) ?_
          simp only [go_sem, ref_fold, ha', k1, n1]
    · have ha' := decide_eq_false ha
      have hx : fitsE f e = false := by simp only [fitsE, ha', Bool.and_false, Bool.false_and]
      rw [hx]
      refine pov1 Try.func73 rfl Try.ntmps73 Try.results73 ?_
      simp only [go_sem, fld, ent]
      refine vc2 (hR) ?_
      simp only [go_sem, ref_fold, ha']
theorem getD_ent' {l : List En} {i : Nat} (h : i < l.length) : (l.map ent).getD i .any = ent (l.getD i default) := getD_map h
theorem getD_row' {l : List Rw} {i : Nat} (h : i < l.length) : (l.map row).getD i .any = row (l.getD i default) := getD_map h
set_option maxRecDepth 20000 in
set_option maxHeartbeats 8000000 in
theorem rightEntries_pure (l : List Fd) (es : List En) (hl : l.length ≤ maxLen) (hes : es.length ≤ maxLen) (hl' : ∀ f ∈ l, f.cases'.length ≤ maxLen) (hes' : ∀ e ∈ es, e.l.length ≤ maxLen) : PL.Pure Try.prog 54 [flds l, ents es] (.bool (entriesB l es)) := by
  by_cases he : l.length = es.length
  · have he' : ((l.length : Int) != (es.length : Int)) = false := by rw [he]; exact bne_self_eq_false _
    have hx : entriesB l es = (List.range l.length).all (fun i => fitsE (l.getD i default) (es.getD i default)) := by simp only [entriesB, he, decide_true, Bool.true_and]
    rw [hx]
    refine pov1 Try.func54 rfl Try.ntmps54 Try.results54 ?_
    simp only [go_sem, flds, ents, he']
    refine vLoopM (ι := { x : Nat // x ≤ (l).length ∧ (∀ j, j < x → fitsE (l.getD j default) (es.getD j default) = true) }) 27 (fun x => [(1, ents es), (12, flds l), (13, .int .i64 (l.length : Int)), (14, .int .i64 (x.1 : Int))]) (fun x => []) (fun x => []) (fun x => (l).length - x.1) ⟨0, Nat.zero_le _, fun j hj => absurd hj (Nat.not_lt_zero j)⟩ ⟨rfl, (forall_cons rfl (forall_cons rfl (forall_cons rfl (forall_cons rfl forall_nil)))), forall_nil, forall_nil⟩ (fun x => ⟨(forall_cons rfl (forall_cons rfl (forall_cons rfl (forall_cons rfl forall_nil)))), forall_nil⟩) (fun x => ?_); obtain ⟨k, hk, hI⟩ := x; simp only at hk hI ⊢
    by_cases h : (k : Int) < (l.length : Int)
    · (have hka : k < (l).length := by omega); (have w1 := w64s hka (hl)); (have i1 : (0 : Int) ≤ (k : Int) := by omega)
      have hkb : k < es.length := by omega
      have i2 : (k : Int) < (es.length : Int) := by omega
      have hF := DFits_pure (l.getD k default) (es.getD k default) (hl' _ (getD_mem' hka)) (hes' _ (getD_mem' hkb))
      cases hf : fitsE (l.getD k default) (es.getD k default)
      · rw [hf] at hF
        have hz := rall_false (p := fun i => fitsE (l.getD i default) (es.getD i default)) hka hf
        simp only [go_sem, flds, ents, h, i1, getD_fld hka, fld]
        refine vDq ?_
        simp only [go_sem, getD_ent' hkb, ent, i1, i2]
        refine vc2 (hF) ?_
        simp only [go_sem, hz]
      · rw [hf] at hF
        simp only [go_sem, flds, ents, h, i1, getD_fld hka, fld]
        refine vDq ?_
        simp only [go_sem, getD_ent' hkb, ent, i1, i2]
        refine vc2 (hF) ?_
        simp only [go_sem, w1]
        exact ⟨⟨k + 1, by (try simp only); omega, below_succ hI hf⟩, by show (l).length - (k + 1) < (l).length - k; omega, ⟨rfl, (forall_cons rfl (forall_cons rfl (forall_cons rfl (forall_cons rfl forall_nil)))), forall_nil, forall_nil⟩⟩
    · have hz := rall_true (p := fun i => fitsE (l.getD i default) (es.getD i default)) (n := l.length) (fun j hj => hI j (by omega))
      simp only [go_sem, h, hz]
  · have he' : ((l.length : Int) != (es.length : Int)) = true := bne_iff_ne.2 (by omega)
    have hx : entriesB l es = false := by simp only [entriesB, he, decide_false, Bool.false_and]
    rw [hx]
    refine pov1 Try.func54 rfl Try.ntmps54 Try.results54 ?_
    simp only [go_sem, flds, ents, he']
end Go.Proofs.Ytmnibpgmcgdfpaa

set_option linter.unusedSimpArgs false
set_option linter.unusedVariables false
set_option linter.unusedSimpArgs false
set_option linter.unusedVariables false
namespace Go.Proofs.Ytmnibpgmcgdfpaa
open Go.PL
structure Cg where
  kind : Int
  item : Str
  was : En
  now : En
  l : List En
deriving DecidableEq, Inhabited
structure FineC (c : Cg) : Prop where
  w : c.was.l.length ≤ maxLen
  n : c.now.l.length ≤ maxLen
  l : c.l.length ≤ maxLen
  e : ∀ e ∈ c.l, e.l.length ≤ maxLen
end Go.Proofs.Ytmnibpgmcgdfpaa

set_option linter.unusedSimpArgs false
set_option linter.unusedVariables false
set_option linter.unusedSimpArgs false
set_option linter.unusedVariables false
namespace Go.Proofs.Ytmnibpgmcgdfpaa
open Go.PL
end Go.Proofs.Ytmnibpgmcgdfpaa

set_option linter.unusedSimpArgs false
set_option linter.unusedVariables false
set_option linter.unusedSimpArgs false
set_option linter.unusedVariables false
namespace Go.Proofs.Ytmnibpgmcgdfpaa
open Go.PL
open Go.ChangeShapes Go.WideShapes Go.ChangeAt Go.RowKit
theorem oddFds : oddB Try.prog 37 = false := by kernel_rfl
theorem oddEnts : oddB Try.prog 28 = false := by kernel_rfl
theorem oddRows : oddB Try.prog 38 = false := by kernel_rfl
theorem pa_fld {p : PV} (h : PA Try.prog 76 p) : ∃ f : Fd, p = fld f ∧ f.cases'.length ≤ maxLen := by
  obtain ⟨cs, rfl, h1⟩ := PA.agg tagg_76 h
  obtain ⟨f, rfl, hf⟩ := pt_fld h1
  exact ⟨f, rfl, hf⟩
theorem pa_flds {p : PV} (h : PA Try.prog 37 p) : ∃ l : List Fd, p = flds l ∧ l.length ≤ maxLen ∧ ∀ f ∈ l, f.cases'.length ≤ maxLen := by
  obtain ⟨l, rfl, h1, h2⟩ := h.slice oddFds Try.underlying37
  obtain ⟨xs, rfl, h3⟩ := all_told (fun p hp => pa_fld (h2 p hp))
  exact ⟨xs, rfl, by simpa using h1, h3⟩
theorem pa_ent {p : PV} (h : PA Try.prog 27 p) : ∃ e : En, p = ent e ∧ e.l.length ≤ maxLen := by
  obtain ⟨cs, rfl, h1⟩ := PA.agg tagg_27 h
  have h1 : PTs Try.prog [24, 2, 25] cs := h1.struct_inv Try.underlying27
  obtain ⟨a, b, rfl, h2, h3⟩ := h1.cons_inv
  obtain ⟨c, d, rfl, h4, h5⟩ := h3.cons_inv
  obtain ⟨e, f, rfl, h6, h7⟩ := h5.cons_inv
  obtain ⟨r, rfl⟩ := pt_ref h2
  obtain ⟨n, rfl, _⟩ := h4.int_inv Try.underlying2
  obtain ⟨l, rfl, hl⟩ := pt_strs h6
  rw [h7.nil_inv]
  exact ⟨⟨r, n, l⟩, rfl, hl⟩
theorem pt_ents {cs : List PV} (h : PT Try.prog 28 cs) : ∃ l : List En, cs = [.sl .no (l.map ent)] ∧ l.length ≤ maxLen ∧ ∀ e ∈ l, e.l.length ≤ maxLen := by
  obtain ⟨l, rfl, h1, h2⟩ := h.slice_inv oddEnts Try.underlying28
  obtain ⟨xs, rfl, h3⟩ := all_told (fun p hp => pa_ent (h2 p hp))
  exact ⟨xs, rfl, by simpa using h1, h3⟩
theorem pa_row {p : PV} (h : PA Try.prog 53 p) : ∃ r : Rw, p = row r ∧ r.l.length ≤ maxLen ∧ ∀ e ∈ r.l, e.l.length ≤ maxLen := by
  obtain ⟨cs, rfl, h1⟩ := PA.agg tagg_53 h
  have h1 : PTs Try.prog [9, 28] cs := h1.struct_inv Try.underlying53
  obtain ⟨a, b, rfl, h2, h3⟩ := h1.cons_inv
  obtain ⟨c, d, rfl, h4, h5⟩ := h3.cons_inv
  obtain ⟨s, rfl, _⟩ := h2.string_inv Try.underlying9
  obtain ⟨l, rfl, hl⟩ := pt_ents h4
  rw [h5.nil_inv]
  exact ⟨⟨s, l⟩, rfl, hl⟩
theorem pa_doc {p : PV} (h : PA Try.prog 40 p) : ∃ d : Dc, p = doc d ∧ Fine d := by
  obtain ⟨cs, rfl, h1⟩ := PA.agg tagg_40 h
  have h1 : PTs Try.prog [28, 38] cs := h1.struct_inv Try.underlying40
  obtain ⟨a, b, rfl, h2, h3⟩ := h1.cons_inv
  obtain ⟨c, d, rfl, h4, h5⟩ := h3.cons_inv
  obtain ⟨l, rfl, hl⟩ := pt_ents h2
  obtain ⟨m, rfl, h6, h7⟩ := h4.slice_inv oddRows Try.underlying38
  obtain ⟨xs, rfl, h8⟩ := all_told (fun p hp => pa_row (h7 p hp))
  rw [h5.nil_inv]
  exact ⟨⟨l, xs⟩, rfl, hl.1, by simpa using h6, hl.2, h8⟩
end Go.Proofs.Ytmnibpgmcgdfpaa
