/- Contracts of functions and laws of this seat, each for every input that it names: lemmas of the proof. -/
import Derived.Test.YtmnibpgmcgdfpaaPlL
import Derived.Test.YtmnibpgmcgdfpaaXAa
import Derived.Test.YtmnibpgmcgdfpaaRows
import Derived.ProofKit
set_option linter.unusedSimpArgs false
set_option linter.unusedVariables false
set_option linter.unusedSimpArgs false
set_option linter.unusedVariables false
namespace Go.Proofs.Ytmnibpgmcgdfpaa
open Go.PL
theorem all_true {α : Type} {p : α → Bool} {l : List α} {d : α} (h : ∀ j, j < l.length → p (l.getD j d) = true) : l.all p = true := by
  rw [List.all_eq_true]
  intro x hx
  obtain ⟨j, hj, rfl⟩ := List.getElem_of_mem hx
  have := h j hj
  simpa [List.getD_eq_getElem?_getD, hj] using this
theorem all_false {α : Type} {p : α → Bool} {l : List α} {k : Nat} {d : α} (hk : k < l.length) (h : p (l.getD k d) = false) : l.all p = false := by
  rw [List.all_eq_false]
  exact ⟨l.getD k d, getD_mem' hk, by rw [h]; simp⟩
theorem rall_false {p : Nat → Bool} {n k : Nat} (hk : k < n) (h : p k = false) : (List.range n).all p = false := by
  rw [List.all_eq_false]; exact ⟨k, by simpa using hk, by simp [h]⟩
theorem rall_true {p : Nat → Bool} {n : Nat} (h : ∀ j, j < n → p j = true) : (List.range n).all p = true := by
  rw [List.all_eq_true]; intro j hj; exact h j (List.mem_range.1 hj)
def fitsN (e : En) : Bool := decide (-4503599627370497 < e.n) && (decide (e.n < 4503599627370497) && ((e.l.length : Int) == 0))
def cntOk (f : Fd) (e : En) : Bool := if f.kind = 4 then !decide (400 < (e.l.length : Int)) else decide ((e.l.length : Int) = 1)
def fitsT (f : Fd) (e : En) : Bool := e.l.all (fitsF f) && decide (e.n = 0)
def fitsE (f : Fd) (e : En) : Bool := (rightF f && decide (e.at' = f.at')) && (if f.kind = 1 then fitsN e else cntOk f e && fitsT f e)
set_option maxRecDepth 20000 in
set_option maxHeartbeats 8000000 in
theorem RFitsE_pure (f : Fd) (e : En) (hl : f.cases'.length ≤ maxLen) (he : e.l.length ≤ maxLen) : PL.Pure Try.prog 76 [fld f, ent e] (.bool (fitsE f e)) := by
  have hR := RRight_pure f hl
  cases hr : rightF f
  · rw [hr] at hR
    refine pov1 Try.func76 rfl Try.ntmps76 Try.results76 ?_
    simp only [go_sem, fld, ent]
    refine vc2 (hR) ?_
    simp only [go_sem, fitsE, hr, Bool.false_and]
  · rw [hr] at hR
    by_cases ha : e.at' = f.at'
    · have ha' := decide_eq_true ha
      by_cases h1 : f.kind = 1
      · have k1 : (f.kind == 1) = true := by rw [h1]; rfl
        have hx : fitsE f e = fitsN e := by simp only [fitsE, hr, ha', Bool.and_self, Bool.true_and, h1, if_true]
        rw [hx]
        refine pov1 Try.func76 rfl Try.ntmps76 Try.results76 ?_
        simp only [go_sem, fld, ent]
        refine vc2 (hR) ?_
        simp only [go_sem, ref_fold, ha', k1]
        repeat' ((first | refine vGuard_t (fun h => ?_) (fun h => ?_) | refine vGuard_f (fun h => ?_) (fun h => ?_) | refine vCond_b (fun h => ?_) (fun h => ?_) | refine vDq ?_) <;> first | simp only [go_sem, h] | simp only [go_sem] | skip)
        all_goals (simp_all [fitsN]; try omega)
      · have k1 : (f.kind == 1) = false := beq_eq_false_iff_ne.2 h1
        have hx : fitsE f e = (cntOk f e && fitsT f e) := by simp only [fitsE, hr, ha', Bool.and_self, Bool.true_and, h1, if_false]
        rw [hx]
        cases hc : cntOk f e
        · have hz : (false && fitsT f e) = false := rfl
          by_cases h4 : f.kind = 4
          · have k4 : (f.kind == 4) = true := by rw [h4]; rfl
            have k5 : (f.kind != 4) = false := by rw [h4]; rfl
            have g : 400 < (e.l.length : Int) := by simpa [cntOk, h4] using hc
            refine pov1 Try.func76 rfl Try.ntmps76 Try.results76 ?_
            simp only [go_sem, fld, ent]
            refine vc2 (hR) ?_
            simp only [go_sem, ref_fold, ha', k1, k4, g, Bool.false_and]
          · have k4 : (f.kind == 4) = false := beq_eq_false_iff_ne.2 h4
            have k5 : (f.kind != 4) = true := bne_iff_ne.2 h4
            have g : ((e.l.length : Int) != 1) = true := by
              rw [bne_iff_ne]
              simpa [cntOk, h4] using hc
            refine pov1 Try.func76 rfl Try.ntmps76 Try.results76 ?_
            simp only [go_sem, fld, ent]
            refine vc2 (hR) ?_
            simp only [go_sem, ref_fold, ha', k1, k4, k5, g, Bool.false_and]
        · rw [Bool.true_and]
          have go : ∀ (_ : (f.kind == 4) = true ∧ ¬ 400 < (e.l.length : Int) ∧ (f.kind != 4) = false ∨ (f.kind == 4) = false ∧ (f.kind != 4) = true ∧ ((e.l.length : Int) != 1) = false), PL.Pure Try.prog 76 [fld f, ent e] (.bool (fitsT f e)) := by
            intro hk
            have lp : ∀ (Q : Exit → St → Prop) (s : St) (c : Code), True := fun _ _ _ => trivial
            rcases hk with ⟨k4, g, k5⟩ | ⟨k4, k5, g⟩
            all_goals
              refine pov1 Try.func76 rfl Try.ntmps76 Try.results76 ?_
              simp only [go_sem, fld, ent]
              refine vc2 (hR) ?_
              simp only [go_sem, ref_fold, ha', k1, k4, k5, g]
              refine vLoopM (ι := { k : Nat // k ≤ e.l.length ∧ ∀ j, j < k → fitsF f (e.l.getD j []) = true }) 71 (fun x => [(2, .ptr 2 0), (3, .ptr 3 0), (5, .int .i64 (x.1 : Int))]) (fun x => [(2, [.int .i64 f.at'.sc, .str f.at'.gr, .str f.at'.nm, .int .i64 f.kind, .str f.df, .sl .no (f.cases'.map .str), .int .i64 f.worth], false), (3, [.int .i64 e.at'.sc, .str e.at'.gr, .str e.at'.nm, .int .i64 e.n, .sl .no (e.l.map .str)], false)]) (fun x => []) (fun x => e.l.length - x.1) ⟨0, by omega, fun j hj => by omega⟩
                ⟨rfl, (forall_cons rfl (forall_cons rfl (forall_cons rfl (forall_nil)))), forall_cons ⟨rfl, rfl⟩ (forall_cons ⟨rfl, rfl⟩ forall_nil), forall_nil⟩ (fun x => ⟨(forall_cons rfl (forall_cons rfl (forall_cons rfl (forall_nil)))), (forall_cons rfl (forall_cons rfl (forall_nil)))⟩) (fun x => ?_)
              obtain ⟨k, hk, hall⟩ := x
              simp only
              by_cases h : (k : Int) < (e.l.length : Int)
              · have hka : k < e.l.length := by omega
                have w1 := w64s hka he
                have i1 : (0 : Int) ≤ (k : Int) := by omega
                have hF := RFits_pure f (e.l.getD k []) hl
                cases hf : fitsF f (e.l.getD k [])
                · rw [hf] at hF
                  have hz : fitsT f e = false := by simp only [fitsT, all_false hka hf, Bool.false_and]
                  simp only [go_sem, h]
                  refine vDq ?_
                  simp only [go_sem, getD_str hka, h, i1]
                  refine vc2 (hF) ?_
                  simp only [go_sem, hz]
                · rw [hf] at hF
                  simp only [go_sem, h]
                  refine vDq ?_
                  simp only [go_sem, getD_str hka, h, i1]
                  refine vc2 (hF) ?_
                  simp only [go_sem, w1]
                  exact ⟨⟨k + 1, by omega, below_succ hall hf⟩, by show e.l.length - (k + 1) < e.l.length - k; omega, ⟨rfl, (forall_cons rfl (forall_cons rfl (forall_cons rfl (forall_nil)))), forall_cons ⟨rfl, rfl⟩ (forall_cons ⟨rfl, rfl⟩ forall_nil), forall_nil⟩⟩
              · have hz : fitsT f e = (e.n == 0) := by
                  simp only [fitsT, all_true (p := fitsF f) (d := []) (l := e.l) (fun j hj => hall j (by omega)), Bool.true_and]
                  rfl
                simp only [go_sem, h, hz]
          refine go ?_
          by_cases h4 : f.kind = 4
          · left
            exact ⟨by rw [h4]; rfl, by simpa [cntOk, h4] using hc, by rw [h4]; rfl⟩
          · right
            refine ⟨beq_eq_false_iff_ne.2 h4, bne_iff_ne.2 h4, ?_⟩
            have : (e.l.length : Int) = 1 := by simpa [cntOk, h4] using hc
            rw [this]; rfl
    · have ha' := decide_eq_false ha
      refine pov1 Try.func76 rfl Try.ntmps76 Try.results76 ?_
      simp only [go_sem, fld, ent]
      refine vc2 (hR) ?_
      simp only [go_sem, ref_fold, ha', fitsE, hr, Bool.and_false, Bool.false_and]
end Go.Proofs.Ytmnibpgmcgdfpaa

set_option linter.unusedSimpArgs false
set_option linter.unusedVariables false
set_option linter.unusedSimpArgs false
set_option linter.unusedVariables false
namespace Go.Proofs.Ytmnibpgmcgdfpaa
open Go.PL
def fldOk (l : List Fd) (i : Nat) : Bool := rightF (l.getD i default) && (decide (i = 0) || lessB (l.getD (i - 1) default).at' (l.getD i default).at')
def rightL (l : List Fd) : Bool := !decide (16 < (l.length : Int)) && (List.range l.length).all (fldOk l)
set_option maxRecDepth 20000 in
set_option maxHeartbeats 8000000 in
theorem RRightL_pure (l : List Fd) (hl : l.length ≤ maxLen) (hl' : ∀ f ∈ l, f.cases'.length ≤ maxLen) : PL.Pure Try.prog 57 [flds l] (.bool (rightL l)) := by
  by_cases h16 : 16 < (l.length : Int)
  · refine pov1 Try.func57 rfl Try.ntmps57 Try.results57 ?_
    simp only [go_sem, flds, h16, rightL, Bool.false_and]
  · have hx : rightL l = (List.range l.length).all (fldOk l) := by simp only [rightL, h16, decide_false, Bool.not_false, Bool.true_and]
    rw [hx]
    refine pov1 Try.func57 rfl Try.ntmps57 Try.results57 ?_
    simp only [go_sem, flds, h16]
    refine vLoopM (ι := { k : Nat // k ≤ l.length ∧ ∀ j, j < k → fldOk l j = true }) 38 (fun x => [(0, flds l), (3, .int .i64 (x.1 : Int))]) (fun x => []) (fun x => []) (fun x => l.length - x.1) ⟨0, by omega, fun j hj => by omega⟩
      ⟨rfl, (forall_cons rfl (forall_cons rfl (forall_nil))), forall_nil, forall_nil⟩ (fun x => ⟨(forall_cons rfl (forall_cons rfl (forall_nil))), forall_nil⟩) (fun x => ?_)
    obtain ⟨k, hk, hall⟩ := x
    simp only
    by_cases h : (k : Int) < (l.length : Int)
    · have hka : k < l.length := by omega
      have w1 := w64s hka hl
      have i1 : (0 : Int) ≤ (k : Int) := by omega
      have hR := RRight_pure (l.getD k default) (hl' _ (getD_mem' hka))
      cases hr : rightF (l.getD k default)
      · rw [hr] at hR
        have hz := rall_false (p := fldOk l) hka (by simp only [fldOk, hr, Bool.false_and])
        simp only [go_sem, flds, h]
        refine vDq ?_
        simp only [go_sem, getD_fld hka, fld, h, i1]
        refine vc2 (hR) ?_
        simp only [go_sem, hz]
      · rw [hr] at hR
        by_cases h0 : 0 < (k : Int)
        · have hk1 : k - 1 < l.length := by omega
          have w2 : IntKind.i64.wrap ((k : Int) - 1) = ((k - 1 : Nat) : Int) := by
            rw [maxLen_eq] at hl
            rw [w64 (by omega)]; omega
          have j1 : (0 : Int) ≤ ((k - 1 : Nat) : Int) := by omega
          have j2 : ((k - 1 : Nat) : Int) < (l.length : Int) := by omega
          have hL := RLess_pure (l.getD (k - 1) default).at' (l.getD k default).at'
          cases hb : lessB (l.getD (k - 1) default).at' (l.getD k default).at'
          · rw [hb] at hL
            have hz := rall_false (p := fldOk l) hka (by simp only [fldOk, hb, decide_eq_false (show ¬ k = 0 by omega), Bool.or_self, Bool.and_false])
            simp only [go_sem, flds, h]
            refine vDq ?_
            simp only [go_sem, getD_fld hka, fld, h, i1]
            refine vc2 (hR) ?_
            simp only [go_sem, h0, w2, getD_fld hk1, getD_fld hka, fld, h, i1, j1, j2]
            refine vc1 (hL) ?_
            simp only [go_sem, hz]
          · rw [hb] at hL
            have ok : fldOk l k = true := by simp only [fldOk, hr, hb, Bool.or_true, Bool.and_self]
            simp only [go_sem, flds, h]
            refine vDq ?_
            simp only [go_sem, getD_fld hka, fld, h, i1]
            refine vc2 (hR) ?_
            simp only [go_sem, h0, w2, getD_fld hk1, getD_fld hka, fld, h, i1, j1, j2]
            refine vc1 (hL) ?_
            simp only [go_sem, w1]
            exact ⟨⟨k + 1, by omega, below_succ hall ok⟩, by show l.length - (k + 1) < l.length - k; omega, ⟨rfl, (forall_cons rfl (forall_cons rfl (forall_nil))), forall_nil, forall_nil⟩⟩
        · have ok : fldOk l k = true := by simp only [fldOk, hr, decide_eq_true (show k = 0 by omega), Bool.true_or, Bool.and_self]
          simp only [go_sem, flds, h]
          refine vDq ?_
          simp only [go_sem, getD_fld hka, fld, h, i1]
          refine vc2 (hR) ?_
          simp only [go_sem, h0, w1]
          exact ⟨⟨k + 1, by omega, below_succ hall ok⟩, by show l.length - (k + 1) < l.length - k; omega, ⟨rfl, (forall_cons rfl (forall_cons rfl (forall_nil))), forall_nil, forall_nil⟩⟩
    · have hz := rall_true (p := fldOk l) (n := l.length) (fun j hj => hall j (by omega))
      simp only [go_sem, flds, h, hz]
def scopeM (l : List Fd) (sc : Int) : List Fd := l.filter fun f => f.at'.sc == sc
theorem map_fld (l : List Fd) (f : Fd) : l.map fld ++ [PV.agg [.int .i64 f.at'.sc, .str f.at'.gr, .str f.at'.nm, .int .i64 f.kind, .str f.df, .sl .no (f.cases'.map .str), .int .i64 f.worth]] = (l ++ [f]).map fld := by simp [fld]
set_option maxRecDepth 20000 in
set_option maxHeartbeats 8000000 in
theorem RScope_pure (l : List Fd) (sc : Int) (hl : l.length ≤ 1000000) : PL.Pure Try.prog 59 [flds l, .int .i64 sc] (flds (scopeM l sc)) := by
  have hm : l.length ≤ maxLen := by rw [maxLen_eq]; omega
  refine pov2 Try.func59 rfl Try.ntmps59 Try.results59 (flds_dids _) ?_
  simp only [go_sem, flds]
  refine awp_moveRow 5 7 28 0 7 76 [] rfl rfl rfl ?_
  refine vLoopM (ι := { k : Nat // k ≤ l.length }) 30 (fun x => [(0, flds l), (1, .int .i64 sc), (5, .sl (.row 28) ((scopeM (l.take x.1) sc).map fld)), (6, .int .i64 (x.1 : Int))]) (fun x => []) (fun x => [(28, .live (scopeM (l.take x.1) sc).length 7 76)]) (fun x => l.length - x.1) ⟨0, by omega⟩
    ⟨rfl, (forall_cons rfl (forall_cons rfl (forall_cons rfl (forall_cons rfl (forall_nil))))), forall_nil, (forall_cons rfl (forall_nil))⟩ (fun x => ⟨forall_cons rfl (forall_cons rfl (forall_cons (by simp [PV.ids, refInM]) (forall_cons rfl (forall_nil)))), forall_nil⟩) (fun x => ?_)
  obtain ⟨k, hk⟩ := x
  simp only
  by_cases h : (k : Int) < (l.length : Int)
  · have hka : k < l.length := by omega
    have w1 := w64s hka hm
    have i1 : (0 : Int) ≤ (k : Int) := by omega
    have hlen : (scopeM (l.take k) sc).length ≤ (l.take k).length := List.length_filter_le _ _
    have hlen2 : (l.take k).length ≤ k := List.length_take_le _ _
    have hr := room_small (show (scopeM (l.take k) sc).length + 1 ≤ 100000000000 by omega) (show 96 ≤ 1000 by omega)
    cases he : ((l.getD k default).at'.sc == sc)
    · have hs : scopeM (l.take (k + 1)) sc = scopeM (l.take k) sc := by
        rw [take_snoc hka (d := default)]
        simp only [scopeM, List.filter_append, List.filter_cons, he, Bool.false_eq_true, if_false, List.filter_nil, List.append_nil]
      simp only [go_sem, flds, h, getD_fld hka, fld, i1, he, w1]
      exact ⟨⟨k + 1, by omega⟩, by show l.length - (k + 1) < l.length - k; omega, ⟨rfl, forall_cons rfl (forall_cons rfl (forall_cons (by show PV.sl _ _ = PV.sl _ _; rw [hs]) (forall_cons rfl (forall_nil)))), forall_nil, forall_cons (by show some _ = some _; rw [hs]) forall_nil⟩⟩
    · have hs : scopeM (l.take (k + 1)) sc = scopeM (l.take k) sc ++ [l.getD k default] := by
        rw [take_snoc hka (d := default)]
        simp only [scopeM, List.filter_append, List.filter_cons, he, if_true, List.filter_nil]
      simp only [go_sem, flds, h, getD_fld hka, fld, i1, he, sized_fld, hr, w1]
      exact ⟨⟨k + 1, by omega⟩, by show l.length - (k + 1) < l.length - k; omega, ⟨rfl, forall_cons rfl (forall_cons rfl (forall_cons (by show PV.sl _ _ = PV.sl _ _; rw [hs, ← map_fld]) (forall_cons rfl (forall_nil)))), forall_nil, forall_cons (by show some _ = some _; rw [hs, List.length_append]; rfl) forall_nil⟩⟩
  · obtain rfl : k = l.length := by omega
    simp only [go_sem, h, flds, List.take_length]
def entriesB (l : List Fd) (es : List En) : Bool := decide (l.length = es.length) && (List.range l.length).all (fun i => fitsE (l.getD i default) (es.getD i default))
set_option maxRecDepth 20000 in
set_option maxHeartbeats 8000000 in
theorem REntries_pure (l : List Fd) (es : List En) (hl : l.length ≤ maxLen) (hes : es.length ≤ maxLen) (hl' : ∀ f ∈ l, f.cases'.length ≤ maxLen) (hes' : ∀ e ∈ es, e.l.length ≤ maxLen) : PL.Pure Try.prog 58 [flds l, ents es] (.bool (entriesB l es)) := by
  by_cases he : l.length = es.length
  · have he' : ((l.length : Int) != (es.length : Int)) = false := by rw [he]; exact bne_self_eq_false _
    have hx : entriesB l es = (List.range l.length).all (fun i => fitsE (l.getD i default) (es.getD i default)) := by simp only [entriesB, he, decide_true, Bool.true_and]
    rw [hx]
    refine pov1 Try.func58 rfl Try.ntmps58 Try.results58 ?_
    simp only [go_sem, flds, ents, he']
    refine vLoopM (ι := { k : Nat // k ≤ l.length ∧ ∀ j, j < k → fitsE (l.getD j default) (es.getD j default) = true }) 27 (fun x => [(0, flds l), (1, ents es), (5, .int .i64 (x.1 : Int))]) (fun x => []) (fun x => []) (fun x => l.length - x.1) ⟨0, by omega, fun j hj => by omega⟩
      ⟨rfl, (forall_cons rfl (forall_cons rfl (forall_cons rfl (forall_nil)))), forall_nil, forall_nil⟩ (fun x => ⟨(forall_cons rfl (forall_cons rfl (forall_cons rfl (forall_nil)))), forall_nil⟩) (fun x => ?_)
    obtain ⟨k, hk, hall⟩ := x
    simp only
    by_cases h : (k : Int) < (l.length : Int)
    · have hka : k < l.length := by omega
      have hkb : k < es.length := by omega
      have w1 := w64s hka hl
      have i1 : (0 : Int) ≤ (k : Int) := by omega
      have i2 : (k : Int) < (es.length : Int) := by omega
      have hF := RFitsE_pure (l.getD k default) (es.getD k default) (hl' _ (getD_mem' hka)) (hes' _ (getD_mem' hkb))
      cases hf : fitsE (l.getD k default) (es.getD k default)
      · rw [hf] at hF
        have hz := rall_false (p := fun i => fitsE (l.getD i default) (es.getD i default)) hka hf
        simp only [go_sem, flds, ents, h]
        refine vDq ?_
        simp only [go_sem, getD_fld hka, getD_ent hkb, fld, ent, h, i1, i2]
        refine vc2 (hF) ?_
        simp only [go_sem, hz]
      · rw [hf] at hF
        simp only [go_sem, flds, ents, h]
        refine vDq ?_
        simp only [go_sem, getD_fld hka, getD_ent hkb, fld, ent, h, i1, i2]
        refine vc2 (hF) ?_
        simp only [go_sem, w1]
        exact ⟨⟨k + 1, by omega, below_succ hall hf⟩, by show l.length - (k + 1) < l.length - k; omega, ⟨rfl, (forall_cons rfl (forall_cons rfl (forall_cons rfl (forall_nil)))), forall_nil, forall_nil⟩⟩
    · have hz := rall_true (p := fun i => fitsE (l.getD i default) (es.getD i default)) (n := l.length) (fun j hj => hall j (by omega))
      simp only [go_sem, flds, ents, h, hz]
  · have he' : ((l.length : Int) != (es.length : Int)) = true := bne_iff_ne.2 (by omega)
    refine pov1 Try.func58 rfl Try.ntmps58 Try.results58 ?_
    simp only [go_sem, flds, ents, he', entriesB, he, Bool.false_and]
end Go.Proofs.Ytmnibpgmcgdfpaa

set_option linter.unusedSimpArgs false
set_option linter.unusedVariables false
set_option linter.unusedSimpArgs false
set_option linter.unusedVariables false
namespace Go.Proofs.Ytmnibpgmcgdfpaa
open Go.PL
theorem rw_ext {a b : Rw} (h1 : a.item = b.item) (h2 : a.l = b.l) : a = b := by cases a; cases b; simp_all
theorem dc_ext {a b : Dc} (h1 : a.head = b.head) (h2 : a.rows = b.rows) : a = b := by cases a; cases b; simp_all
set_option maxRecDepth 20000 in
set_option maxHeartbeats 8000000 in
theorem RSameD_pure (a b : Dc) (ha : Fine a) (hb : Fine b) : PL.Pure Try.prog 21 [doc a, doc b] (.bool (decide (a = b))) := by
  obtain ⟨a1, a2, a3, a4⟩ := ha
  obtain ⟨b1, b2, b3, b4⟩ := hb
  have hH := SameEntries_pure a.head b.head a1 b1 a3 b3
  by_cases hl : a.rows.length = b.rows.length
  · have hl' : ((a.rows.length : Int) != (b.rows.length : Int)) = false := by rw [hl]; exact bne_self_eq_false _
    by_cases hh : a.head = b.head
    · rw [decide_eq_true hh] at hH
      refine pov1 Try.func21 rfl Try.ntmps21 Try.results21 ?_
      simp only [go_sem, doc, hl']
      refine vc1 (hH) ?_
      simp only [go_sem]
      refine vLoopM (ι := { k : Nat // k ≤ a.rows.length ∧ ∀ j, j < k → a.rows.getD j default = b.rows.getD j default }) 57 (fun x => [(2, .ptr 2 0), (3, .ptr 3 0), (5, .int .i64 (x.1 : Int))]) (fun x => [(2, [.sl .no (a.head.map ent), .sl .no (a.rows.map row)], false), (3, [.sl .no (b.head.map ent), .sl .no (b.rows.map row)], false)]) (fun x => []) (fun x => a.rows.length - x.1) ⟨0, by omega, fun j hj => by omega⟩
        ⟨rfl, (forall_cons rfl (forall_cons rfl (forall_cons rfl (forall_nil)))), forall_cons ⟨rfl, rfl⟩ (forall_cons ⟨rfl, rfl⟩ forall_nil), forall_nil⟩ (fun x => ⟨(forall_cons rfl (forall_cons rfl (forall_cons rfl (forall_nil)))), (forall_cons rfl (forall_cons rfl (forall_nil)))⟩) (fun x => ?_)
      obtain ⟨k, hk, hall⟩ := x
      simp only
      by_cases h : (k : Int) < (a.rows.length : Int)
      · have hka : k < a.rows.length := by omega
        have hkb : k < b.rows.length := by omega
        have w1 := w64s hka a2
        have i1 : (0 : Int) ≤ (k : Int) := by omega
        have i2 : (k : Int) < (b.rows.length : Int) := by omega
        have ra := a4 _ (getD_mem' (d := default) hka)
        have rb := b4 _ (getD_mem' (d := default) hkb)
        have hc := SameEntries_pure _ _ ra.1 rb.1 ra.2 rb.2
        by_cases e1 : (a.rows.getD k default).item = (b.rows.getD k default).item
        · have e1' : ((a.rows.getD k default).item == (b.rows.getD k default).item) = true := beq_iff_eq.2 e1
          by_cases e2 : (a.rows.getD k default).l = (b.rows.getD k default).l
          · rw [decide_eq_true e2] at hc
            simp only [go_sem, h]
            refine vDq ?_
            simp only [go_sem, getD_row hka, getD_row hkb, row, h, i1, i2, e1']
            refine vc1 (hc) ?_
            simp only [go_sem, w1]
            exact ⟨⟨k + 1, by omega, below_succ hall (rw_ext e1 e2)⟩, by show a.rows.length - (k + 1) < a.rows.length - k; omega, ⟨rfl, (forall_cons rfl (forall_cons rfl (forall_cons rfl (forall_nil)))), forall_cons ⟨rfl, rfl⟩ (forall_cons ⟨rfl, rfl⟩ forall_nil), forall_nil⟩⟩
          · rw [decide_eq_false e2] at hc
            have hab : ¬ a = b := fun e => e2 (by rw [e])
            simp only [go_sem, h]
            refine vDq ?_
            simp only [go_sem, getD_row hka, getD_row hkb, row, h, i1, i2, e1']
            refine vc1 (hc) ?_
            simp only [go_sem, hab]
        · have e1' : ((a.rows.getD k default).item == (b.rows.getD k default).item) = false := beq_eq_false_iff_ne.2 e1
          have hab : ¬ a = b := fun e => e1 (by rw [e])
          simp only [go_sem, h]
          refine vDq ?_
          simp only [go_sem, getD_row hka, getD_row hkb, row, h, i1, i2, e1', hab]
      · have hab : decide (a = b) = true := decide_eq_true (dc_ext hh (eq_of_getD (d := default) hl fun j hj => hall j (by omega)))
        simp only [go_sem, h, hab]
    · rw [decide_eq_false hh] at hH
      have hab : ¬ a = b := fun e => hh (by rw [e])
      refine pov1 Try.func21 rfl Try.ntmps21 Try.results21 ?_
      simp only [go_sem, doc, hl']
      refine vc1 (hH) ?_
      simp only [go_sem, hab]
  · have hl' : ((a.rows.length : Int) != (b.rows.length : Int)) = true := bne_iff_ne.2 (by omega)
    have hab : ¬ a = b := fun e => hl (by rw [e])
    refine pov1 Try.func21 rfl Try.ntmps21 Try.results21 ?_
    simp only [go_sem, doc, hl', hab]
def fldTop (f : Fd) : Bool := longB 200 f.at'.gr || (longB 200 f.at'.nm || (longB 200 f.df || decide (20 < (f.cases'.length : Int))))
def heavyF (f : Fd) : Bool := fldTop f || f.cases'.any (longB 200)
def heavyL (l : List Fd) : Bool := decide (40 < (l.length : Int)) || l.any heavyF
set_option maxRecDepth 20000 in
set_option maxHeartbeats 8000000 in
theorem RHeavyF_pure (f : Fd) (hl : f.cases'.length ≤ maxLen) : PL.Pure Try.prog 45 [fld f] (.bool (heavyF f)) := by
  have top : ∀ b, fldTop f = b → (∀ (_ : b = true), heavyF f = true) := fun b hb h => by simp only [heavyF, hb, h, Bool.true_or]
  cases ht : fldTop f
  · have hx : heavyF f = f.cases'.any (longB 200) := by simp only [heavyF, ht, Bool.false_or]
    rw [hx]
    simp only [fldTop, longB, Bool.or_eq_false_iff, decide_eq_false_iff_not] at ht
    obtain ⟨t1, t2, t3, t4⟩ := ht
    have t1 : ¬ (200 : Int) < (f.at'.gr.length : Int) := by omega
    have t2 : ¬ (200 : Int) < (f.at'.nm.length : Int) := by omega
    have t3 : ¬ (200 : Int) < (f.df.length : Int) := by omega
    refine pov1 Try.func45 rfl Try.ntmps45 Try.results45 ?_
    simp only [go_sem, fld, t1, t2, t3, t4]
    refine vLoopM (ι := { k : Nat // k ≤ f.cases'.length ∧ ∀ j, j < k → longB 200 (f.cases'.getD j []) = false }) 42 (fun x => [(1, .ptr 1 0), (3, .int .i64 (x.1 : Int))]) (fun x => [(1, [.int .i64 f.at'.sc, .str f.at'.gr, .str f.at'.nm, .int .i64 f.kind, .str f.df, .sl .no (f.cases'.map .str), .int .i64 f.worth], false)]) (fun x => []) (fun x => f.cases'.length - x.1) ⟨0, by omega, fun j hj => by omega⟩
      ⟨rfl, (forall_cons rfl (forall_cons rfl (forall_nil))), forall_cons ⟨rfl, rfl⟩ forall_nil, forall_nil⟩ (fun x => ⟨(forall_cons rfl (forall_cons rfl (forall_nil))), (forall_cons rfl (forall_nil))⟩) (fun x => ?_)
    obtain ⟨k, hk, hall⟩ := x
    simp only
    by_cases h : (k : Int) < (f.cases'.length : Int)
    · have hka : k < f.cases'.length := by omega
      have w1 := w64s hka hl
      have i1 : (0 : Int) ≤ (k : Int) := by omega
      by_cases g : (200 : Int) < ((f.cases'.getD k []).length : Int)
      · have hz := any_true (p := longB 200) hka (d := []) (by simp only [longB, decide_eq_true_eq]; omega)
        simp only [go_sem, h, getD_str hka, i1, g, hz]
      · simp only [go_sem, h, getD_str hka, i1, g, w1]
        exact ⟨⟨k + 1, by omega, below_succ hall (by simp only [longB, decide_eq_false_iff_not]; omega)⟩, by show f.cases'.length - (k + 1) < f.cases'.length - k; omega, ⟨rfl, (forall_cons rfl (forall_cons rfl (forall_nil))), forall_cons ⟨rfl, rfl⟩ forall_nil, forall_nil⟩⟩
    · have hz := any_false (p := longB 200) (d := []) (l := f.cases') (fun j hj => hall j (by omega))
      simp only [go_sem, h, hz]
  · have hx := top _ ht rfl
    rw [hx]
    simp only [fldTop, longB, Bool.or_eq_true, decide_eq_true_eq] at ht
    by_cases t1 : (200 : Int) < (f.at'.gr.length : Int)
    · refine pov1 Try.func45 rfl Try.ntmps45 Try.results45 ?_
      simp only [go_sem, fld, t1]
    · by_cases t2 : (200 : Int) < (f.at'.nm.length : Int)
      · refine pov1 Try.func45 rfl Try.ntmps45 Try.results45 ?_
        simp only [go_sem, fld, t1, t2]
      · by_cases t3 : (200 : Int) < (f.df.length : Int)
        · refine pov1 Try.func45 rfl Try.ntmps45 Try.results45 ?_
          simp only [go_sem, fld, t1, t2, t3]
        · have t4 : (20 : Int) < (f.cases'.length : Int) := by omega
          refine pov1 Try.func45 rfl Try.ntmps45 Try.results45 ?_
          simp only [go_sem, fld, t1, t2, t3, t4]
set_option maxRecDepth 20000 in
set_option maxHeartbeats 8000000 in
theorem RHeavyL_pure (l : List Fd) (hl : l.length ≤ maxLen) (hl' : ∀ f ∈ l, f.cases'.length ≤ maxLen) : PL.Pure Try.prog 16 [flds l] (.bool (heavyL l)) := by
  by_cases h40 : (40 : Int) < (l.length : Int)
  · refine pov1 Try.func16 rfl Try.ntmps16 Try.results16 ?_
    simp only [go_sem, flds, h40, heavyL]
  · have hx : heavyL l = l.any heavyF := by simp only [heavyL, h40, decide_false, Bool.false_or]
    rw [hx]
    refine pov1 Try.func16 rfl Try.ntmps16 Try.results16 ?_
    simp only [go_sem, flds, h40]
    refine vLoopM (ι := { k : Nat // k ≤ l.length ∧ ∀ j, j < k → heavyF (l.getD j default) = false }) 18 (fun x => [(0, flds l), (3, .int .i64 (x.1 : Int))]) (fun x => []) (fun x => []) (fun x => l.length - x.1) ⟨0, by omega, fun j hj => by omega⟩
      ⟨rfl, (forall_cons rfl (forall_cons rfl (forall_nil))), forall_nil, forall_nil⟩ (fun x => ⟨(forall_cons rfl (forall_cons rfl (forall_nil))), forall_nil⟩) (fun x => ?_)
    obtain ⟨k, hk, hall⟩ := x
    simp only
    by_cases h : (k : Int) < (l.length : Int)
    · have hka : k < l.length := by omega
      have w1 := w64s hka hl
      have i1 : (0 : Int) ≤ (k : Int) := by omega
      have hF := RHeavyF_pure (l.getD k default) (hl' _ (getD_mem' hka))
      cases hf : heavyF (l.getD k default)
      · rw [hf] at hF
        simp only [go_sem, flds, h, getD_fld hka, fld, i1]
        refine vc2 (hF) ?_
        simp only [go_sem, w1]
        exact ⟨⟨k + 1, by omega, below_succ hall hf⟩, by show l.length - (k + 1) < l.length - k; omega, ⟨rfl, (forall_cons rfl (forall_cons rfl (forall_nil))), forall_nil, forall_nil⟩⟩
      · rw [hf] at hF
        have hz := any_true (p := heavyF) hka hf
        simp only [go_sem, flds, h, getD_fld hka, fld, i1]
        refine vc2 (hF) ?_
        simp only [go_sem, hz]
    · have hz := any_false (p := heavyF) (d := default) (l := l) (fun j hj => hall j (by omega))
      simp only [go_sem, flds, h, hz]
end Go.Proofs.Ytmnibpgmcgdfpaa

set_option linter.unusedSimpArgs false
set_option linter.unusedVariables false
set_option linter.unusedSimpArgs false
set_option linter.unusedVariables false
namespace Go.Proofs.Ytmnibpgmcgdfpaa
open Go.PL
def rowOk (l : List Fd) (rs : List Rw) (i : Nat) : Bool :=
  (nameB (rs.getD i default).item && (decide (i = 0) || bytesLt (rs.getD (i - 1) default).item (rs.getD i default).item)) && entriesB (scopeM l 1) (rs.getD i default).l
def headOk (l : List Fd) (d : Dc) : Bool := rightL l && (!decide (400 < (d.rows.length : Int)) && entriesB (scopeM l 0) d.head)
def rightD (l : List Fd) (d : Dc) : Bool := headOk l d && (List.range d.rows.length).all (rowOk l d.rows)
theorem rightL_len {l : List Fd} (h : rightL l = true) : l.length ≤ 16 := by
  simp only [rightL, Bool.and_eq_true, Bool.not_eq_true', decide_eq_false_iff_not] at h
  omega
set_option maxRecDepth 20000 in
set_option maxHeartbeats 8000000 in
theorem RRightD_pure (l : List Fd) (d : Dc) (hl : l.length ≤ maxLen) (hl' : ∀ f ∈ l, f.cases'.length ≤ maxLen) (hd : Fine d) : PL.Pure Try.prog 24 [flds l, doc d] (.bool (rightD l d)) := by
  obtain ⟨d1, d2, d3, d4⟩ := hd
  have hR := RRightL_pure l hl hl'
  cases hr : rightL l
  · rw [hr] at hR
    have hx : rightD l d = false := by simp only [rightD, headOk, hr, Bool.false_and]
    refine pov1 Try.func24 rfl Try.ntmps24 Try.results24 ?_
    simp only [go_sem, flds, doc]
    refine vDq ?_
    simp only [go_sem]
    refine vc2 (hR) ?_
    simp only [go_sem, hx]
  · rw [hr] at hR
    have h16 := rightL_len hr
    have sl : ∀ sc, (scopeM l sc).length ≤ maxLen := fun sc => Nat.le_trans (List.length_filter_le _ _) hl
    have sc : ∀ s, ∀ f ∈ scopeM l s, f.cases'.length ≤ maxLen := fun s f hf => hl' f (List.mem_filter.1 hf).1
    have hS0 := RScope_pure l 0 (by omega)
    have hS1 := RScope_pure l 1 (by omega)
    by_cases h4 : (400 : Int) < (d.rows.length : Int)
    · have hx : rightD l d = false := by simp only [rightD, headOk, h4, decide_true, Bool.not_true, Bool.false_and, Bool.and_false]
      refine pov1 Try.func24 rfl Try.ntmps24 Try.results24 ?_
      simp only [go_sem, flds, doc]
      refine vDq ?_
      simp only [go_sem]
      refine vc2 (hR) ?_
      simp only [go_sem, h4, hx]
    · have hE := REntries_pure (scopeM l 0) d.head (sl 0) d1 (sc 0) d3
      cases he : entriesB (scopeM l 0) d.head
      · rw [he] at hE
        have hx : rightD l d = false := by simp only [rightD, headOk, he, Bool.false_and, Bool.and_false]
        refine pov1 Try.func24 rfl Try.ntmps24 Try.results24 ?_
        simp only [go_sem, flds, doc]
        refine vDq ?_
        simp only [go_sem]
        refine vc2 (hR) ?_
        simp only [go_sem, h4]
        refine vc2 (hS0) ?_
        simp only [go_sem, flds]
        refine vc2 (hE) ?_
        simp only [go_sem, hx]
      · rw [he] at hE
        have hx : rightD l d = (List.range d.rows.length).all (rowOk l d.rows) := by simp only [rightD, headOk, hr, h4, he, decide_false, Bool.not_false, Bool.and_self, Bool.true_and]
        rw [hx]
        refine pov1 Try.func24 rfl Try.ntmps24 Try.results24 ?_
        simp only [go_sem, flds, doc]
        refine vDq ?_
        simp only [go_sem]
        refine vc2 (hR) ?_
        simp only [go_sem, h4]
        refine vc2 (hS0) ?_
        simp only [go_sem, flds]
        refine vc2 (hE) ?_
        simp only [go_sem]
        refine vc2 (hS1) ?_
        simp only [go_sem]
        refine vLoopM (ι := { k : Nat // k ≤ d.rows.length ∧ ∀ j, j < k → rowOk l d.rows j = true }) 73 (fun x => [(3, .ptr 3 0), (5, flds (scopeM l 1)), (6, .int .i64 (x.1 : Int))]) (fun x => [(3, [.sl .no (d.head.map ent), .sl .no (d.rows.map row)], false)]) (fun x => []) (fun x => d.rows.length - x.1) ⟨0, by omega, fun j hj => by omega⟩
          ⟨rfl, (forall_cons rfl (forall_cons rfl (forall_cons rfl (forall_nil)))), forall_cons ⟨rfl, rfl⟩ forall_nil, forall_nil⟩ (fun x => ⟨(forall_cons rfl (forall_cons rfl (forall_cons rfl (forall_nil)))), (forall_cons rfl (forall_nil))⟩) (fun x => ?_)
        obtain ⟨k, hk, hall⟩ := x
        simp only
        by_cases h : (k : Int) < (d.rows.length : Int)
        · have hka : k < d.rows.length := by omega
          have w1 := w64s hka d2
          have i1 : (0 : Int) ≤ (k : Int) := by omega
          have hN := RName_pure (d.rows.getD k default).item
          have rk := d4 _ (getD_mem' (d := default) hka)
          have hE1 := REntries_pure (scopeM l 1) (d.rows.getD k default).l (sl 1) rk.1 (sc 1) rk.2
          cases hn : nameB (d.rows.getD k default).item
          · rw [hn] at hN
            have hz := rall_false (p := rowOk l d.rows) hka (by simp only [rowOk, hn, Bool.false_and])
            simp only [go_sem, h]
            refine vDq ?_
            simp only [go_sem, getD_row hka, row, h, i1]
            refine vc1 (hN) ?_
            simp only [go_sem, hz]
          · rw [hn] at hN
            by_cases h0 : 0 < (k : Int)
            · have hk1 : k - 1 < d.rows.length := by omega
              have w2 : IntKind.i64.wrap ((k : Int) - 1) = ((k - 1 : Nat) : Int) := by
                rw [maxLen_eq] at d2
                rw [w64 (by omega)]; omega
              have j1 : (0 : Int) ≤ ((k - 1 : Nat) : Int) := by omega
              have j2 : ((k - 1 : Nat) : Int) < (d.rows.length : Int) := by omega
              cases hb : bytesLt (d.rows.getD (k - 1) default).item (d.rows.getD k default).item
              · have hz := rall_false (p := rowOk l d.rows) hka (by simp only [rowOk, hb, decide_eq_false (show ¬ k = 0 by omega), Bool.or_self, Bool.and_false, Bool.false_and])
                simp only [go_sem, h]
                refine vDq ?_
                simp only [go_sem, getD_row hka, row, h, i1]
                refine vc1 (hN) ?_
                simp only [go_sem, h0, w2, getD_row hk1, getD_row hka, row, h, i1, j1, j2, hb, hz]
              · cases hf : entriesB (scopeM l 1) (d.rows.getD k default).l
                · rw [hf] at hE1
                  have hz := rall_false (p := rowOk l d.rows) hka (by simp only [rowOk, hf, Bool.and_false])
                  simp only [go_sem, h]
                  refine vDq ?_
                  simp only [go_sem, getD_row hka, row, h, i1]
                  refine vc1 (hN) ?_
                  simp only [go_sem, h0, w2, getD_row hk1, getD_row hka, row, h, i1, j1, j2, hb, flds]
                  refine vc2 (hE1) ?_
                  simp only [go_sem, hz]
                · rw [hf] at hE1
                  have ok : rowOk l d.rows k = true := by simp only [rowOk, hn, hb, hf, Bool.or_true, Bool.and_self]
                  simp only [go_sem, h]
                  refine vDq ?_
                  simp only [go_sem, getD_row hka, row, h, i1]
                  refine vc1 (hN) ?_
                  simp only [go_sem, h0, w2, getD_row hk1, getD_row hka, row, h, i1, j1, j2, hb, flds]
                  refine vc2 (hE1) ?_
                  simp only [go_sem, w1]
                  exact ⟨⟨k + 1, by omega, below_succ hall ok⟩, by show d.rows.length - (k + 1) < d.rows.length - k; omega, ⟨rfl, (forall_cons rfl (forall_cons rfl (forall_cons rfl (forall_nil)))), forall_cons ⟨rfl, rfl⟩ forall_nil, forall_nil⟩⟩
            · cases hf : entriesB (scopeM l 1) (d.rows.getD k default).l
              · rw [hf] at hE1
                have hz := rall_false (p := rowOk l d.rows) hka (by simp only [rowOk, hf, Bool.and_false])
                simp only [go_sem, h]
                refine vDq ?_
                simp only [go_sem, getD_row hka, row, h, i1]
                refine vc1 (hN) ?_
                simp only [go_sem, h0, getD_row hka, row, h, i1, flds]
                refine vc2 (hE1) ?_
                simp only [go_sem, hz]
              · rw [hf] at hE1
                have ok : rowOk l d.rows k = true := by simp only [rowOk, hn, hf, decide_eq_true (show k = 0 by omega), Bool.true_or, Bool.and_self]
                simp only [go_sem, h]
                refine vDq ?_
                simp only [go_sem, getD_row hka, row, h, i1]
                refine vc1 (hN) ?_
                simp only [go_sem, h0, getD_row hka, row, h, i1, flds]
                refine vc2 (hE1) ?_
                simp only [go_sem, w1]
                exact ⟨⟨k + 1, by omega, below_succ hall ok⟩, by show d.rows.length - (k + 1) < d.rows.length - k; omega, ⟨rfl, (forall_cons rfl (forall_cons rfl (forall_cons rfl (forall_nil)))), forall_cons ⟨rfl, rfl⟩ forall_nil, forall_nil⟩⟩
        · have hz := rall_true (p := rowOk l d.rows) (n := d.rows.length) (fun j hj => hall j (by omega))
          simp only [go_sem, h, hz]
end Go.Proofs.Ytmnibpgmcgdfpaa

set_option linter.unusedSimpArgs false
set_option linter.unusedVariables false
set_option linter.unusedSimpArgs false
set_option linter.unusedVariables false
namespace Go.Proofs.Ytmnibpgmcgdfpaa
open Go.PL
open Go.ChangeShapes Go.WideShapes Go.ChangeAt Go.RowKit
theorem Try.own : ownKnob Try.prog.godebug = Option.none := by kernel_rfl
theorem Try.laidOut : laidOutB Try.prog = true := by kernel_rfl
theorem Try.lays : layAll Try.prog = true := by kernel_rfl
theorem oddStrs : oddB Try.prog 25 = false := by kernel_rfl
structure LenLn' (x : Ln) : Prop where
  c : x.fd.cases'.length ≤ maxLen
  f : x.fo.length ≤ maxLen
  b : x.ba.length ≤ maxLen
theorem pt_strs {cs : List PV} (h : PT Try.prog 25 cs) : ∃ l : List Str, cs = [.sl .no (l.map .str)] ∧ l.length ≤ maxLen := by
  obtain ⟨l, rfl, h1, h2⟩ := h.slice_inv oddStrs Try.underlying25
  obtain ⟨xs, rfl, _⟩ := all_told (enc := PV.str) (Q := fun _ => True) (fun p hp => by
    obtain ⟨s, rfl, _⟩ := (h2 p hp).string Try.underlying9
    exact ⟨s, rfl, trivial⟩)
  exact ⟨xs, rfl, by simpa using h1⟩
theorem pt_ref {cs : List PV} (h : PT Try.prog 24 cs) : ∃ r : Rf, cs = [.int .i64 r.sc, .str r.gr, .str r.nm] := by
  have h1 : PTs Try.prog [3, 9, 9] cs := h.struct_inv Try.underlying24
  obtain ⟨a, b, rfl, h2, h3⟩ := h1.cons_inv
  obtain ⟨c, d, rfl, h4, h5⟩ := h3.cons_inv
  obtain ⟨e, f, rfl, h6, h7⟩ := h5.cons_inv
  obtain ⟨x, rfl, _⟩ := h2.int_inv Try.underlying3
  obtain ⟨y, rfl, _⟩ := h4.string_inv Try.underlying9
  obtain ⟨z, rfl, _⟩ := h6.string_inv Try.underlying9
  rw [h7.nil_inv]
  exact ⟨⟨x, y, z⟩, rfl⟩
theorem pt_fld {cs : List PV} (h : PT Try.prog 76 cs) : ∃ f : Fd, cs = [.int .i64 f.at'.sc, .str f.at'.gr, .str f.at'.nm, .int .i64 f.kind, .str f.df, .sl .no (f.cases'.map .str), .int .i64 f.worth] ∧ f.cases'.length ≤ maxLen := by
  have h1 : PTs Try.prog [24, 3, 9, 25, 2] cs := h.struct_inv Try.underlying76
  obtain ⟨a1, b1, rfl, h2, h3⟩ := h1.cons_inv
  obtain ⟨a2, b2, rfl, h4, h5⟩ := h3.cons_inv
  obtain ⟨a3, b3, rfl, h6, h7⟩ := h5.cons_inv
  obtain ⟨a4, b4, rfl, h8, h9⟩ := h7.cons_inv
  obtain ⟨a5, b5, rfl, h10, h11⟩ := h9.cons_inv
  obtain ⟨r, rfl⟩ := pt_ref h2
  obtain ⟨x, rfl, _⟩ := h4.int_inv Try.underlying3
  obtain ⟨y, rfl, _⟩ := h6.string_inv Try.underlying9
  obtain ⟨l, rfl, hl⟩ := pt_strs h8
  obtain ⟨z, rfl, _⟩ := h10.int_inv Try.underlying2
  rw [h11.nil_inv]
  exact ⟨⟨r, x, y, l, z⟩, rfl, hl⟩
theorem pa_ref {p : PV} (h : PA Try.prog 24 p) : ∃ r : Rf, p = ref r := by
  obtain ⟨cs, rfl, h1⟩ := PA.agg tagg_24 h
  obtain ⟨r, rfl⟩ := pt_ref h1
  exact ⟨r, rfl⟩
end Go.Proofs.Ytmnibpgmcgdfpaa
