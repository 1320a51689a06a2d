/- Contracts of functions and laws of this seat, each for every input that it names: lemmas of the proof. -/
import Derived.Test.YtmnibpgmcgdfpaaXBl
import Derived.Test.YtmnibpgmcgdfpaaPlJ
import Derived.Test.YtmnibpgmcgdfpaaPlK
import Derived.RangeFuncBox
import Derived.WalkKit
import Derived.OwnWalkIn
import Derived.TacticsInMore
import Derived.LoopNIn
import Derived.LoopIn
import Derived.Test.YtmnibpgmcgdfpaaPlI
set_option linter.unusedSimpArgs false
set_option linter.unusedVariables false
set_option linter.unusedSimpArgs false
set_option linter.unusedVariables false
namespace Go.Proofs.Ytmnibpgmcgdfpaa
open Go.PL
set_option maxRecDepth 20000 in
set_option maxHeartbeats 8000000 in
theorem fitAll_pure (f : Fd) (l : List Str) (hf : f.cases'.length ≤ maxLen) (hl : l.length ≤ maxLen) : PL.Pure Try.prog 108 [fld f, strs l] (.bool (l.all (fitsF f))) := by
  refine PL.Pure.of_v Try.func108 (by decide) rfl Try.ntmps108 Try.results108 (by simp) rfl ?_
  simp only [go_sem, fld, strs]
  refine vLoopM (ι := { x : Nat // x ≤ (l).length ∧ (∀ j, j < x → fitsF f (l.getD j []) = true) }) 18 (fun x => [(2, .ptr 2 0), (7, strs l), (8, .int .i64 (l.length : Int)), (9, .int .i64 (x.1 : Int))]) (fun x => [(2, fcells f, false)]) (fun x => []) (fun x => (l).length - x.1) ⟨0, Nat.zero_le _, fun j hj => absurd hj (Nat.not_lt_zero j)⟩ ⟨rfl, (forall_cons rfl (forall_cons rfl (forall_cons rfl (forall_cons rfl forall_nil)))), (forall_cons ⟨rfl, rfl⟩ forall_nil), forall_nil⟩ (fun x => ⟨(forall_cons rfl (forall_cons rfl (forall_cons rfl (forall_cons rfl forall_nil)))), (forall_cons rfl forall_nil)⟩) (fun x => ?_); obtain ⟨k, hk, hI⟩ := x; simp only at hk hI ⊢
  by_cases h : (k : Int) < (l.length : Int)
  · (have hka : k < (l).length := by omega); (have w1 := w64s hka (hl)); (have i1 : (0 : Int) ≤ (k : Int) := by omega)
    have hF := FFits_pure f (l.getD k []) hf
    cases hq : fitsF f (l.getD k [])
    · rw [hq] at hF
      have hz := all_false (p := fitsF f) hka hq
      simp only [go_sem, strs, h, getD_str hka, i1, fcells]
      refine vCall_of (hF) ?_ ?_ ?_; (focus simp only [go_sem, fld]); (focus simp only [go_sem, fld])
      simp only [go_sem, hz]
    · rw [hq] at hF
      simp only [go_sem, strs, h, getD_str hka, i1, fcells]
      refine vCall_of (hF) ?_ ?_ ?_; (focus simp only [go_sem, fld]); (focus simp only [go_sem, fld])
      simp only [go_sem, w1]
      exact ⟨⟨k + 1, by (try simp only); omega, below_succ hI hq⟩, by show (l).length - (k + 1) < (l).length - k; omega, ⟨rfl, (forall_cons rfl (forall_cons rfl (forall_cons rfl (forall_cons rfl forall_nil)))), (forall_cons ⟨rfl, rfl⟩ forall_nil), forall_nil⟩⟩
  · have hz := all_true (p := fitsF f) (d := []) (l := l) (fun j hj => hI j (by omega))
    simp only [go_sem, h, hz]
set_option maxRecDepth 20000 in
set_option maxHeartbeats 8000000 in
theorem DFits_pure (f : Fd) (e : En) (hl : f.cases'.length ≤ maxLen) (he : e.l.length ≤ maxLen) : PL.Pure Try.prog 73 [fld f, ent e] (.bool (fitsE f e)) := by
  have hR := Right_pure f hl
  have hA := fitAll_pure f e.l hl he
  cases hr : rightF f
  · rw [hr] at hR
    refine PL.Pure.of_v Try.func73 (by decide) rfl Try.ntmps73 Try.results73 (by simp) rfl ?_
    simp only [go_sem, fld, ent]
    refine vCall_of (hR) ?_ ?_ ?_; (focus simp only [go_sem, fld]); (focus simp only [go_sem, fld])
    simp only [go_sem, fitsE, hr, Bool.false_and]
  · rw [hr] at hR
    by_cases ha : e.at' = f.at'
    · have ha' := decide_eq_true ha
      by_cases h1 : f.kind = 1
      · have k1 : (f.kind == 1) = true := by rw [h1]; rfl
        have hx : fitsE f e = fitsN e := by simp only [fitsE, hr, ha', Bool.and_self, Bool.true_and, h1, if_true]
        rw [hx]
        refine PL.Pure.of_v Try.func73 (by decide) rfl Try.ntmps73 Try.results73 (by simp) rfl ?_
        simp only [go_sem, fld, ent]
        refine vCall_of (hR) ?_ ?_ ?_; (focus simp only [go_sem, fld]); (focus simp only [go_sem, fld])
        simp only [go_sem, ref_fold, ha', k1]
        repeat' (first | (refine vGuard_t (fun h => ?_) (fun h => ?_) <;> (try simp only [go_sem, h])) | (refine vGuard_f (fun h => ?_) (fun h => ?_) <;> (try simp only [go_sem, h])) | (refine vCond_b (fun h => ?_) (fun h => ?_) <;> (try simp only [go_sem, h])) | ((refine vDrawQ (by kernel_rfl) (by kernel_rfl) ?_); (try simp only [go_sem])))
        all_goals (simp_all [fitsN]; try (first | omega | (rw [decide_eq_true (show (-4503599627370497 : Int) < e.n by omega), decide_eq_true (show e.n < 4503599627370497 by omega)]; simp)))
      · have k1 : (f.kind == 1) = false := beq_eq_false_iff_ne.2 h1
        have hx : fitsE f e = (cntOk f e && fitsT f e) := by simp only [fitsE, hr, ha', Bool.and_self, Bool.true_and, h1, if_false]
        rw [hx]
        by_cases hn : e.n = 0
        · have n1 : (e.n != 0) = false := by rw [hn]; rfl
          by_cases h4 : f.kind = 4
          · have k4 : (f.kind == 4) = true := by rw [h4]; rfl
            have hx2 : (cntOk f e && fitsT f e) = (decide ((e.l.length : Int) ≤ 400) && e.l.all (fitsF f)) := by
              simp only [cntOk, fitsT, h4, if_true, hn, decide_true, Bool.and_true]
              congr 1
              rw [Bool.eq_iff_iff]; simp
            rw [hx2]
            by_cases h5 : (e.l.length : Int) ≤ 400
            · refine PL.Pure.of_v Try.func73 (by decide) rfl Try.ntmps73 Try.results73 (by simp) rfl ?_
              simp only [go_sem, fld, ent]
              refine vCall_of (hR) ?_ ?_ ?_; (focus simp only [go_sem, fld]); (focus simp only [go_sem, fld])
              simp only [go_sem, ref_fold, ha', k1, n1, k4, h5]
              refine vCall_of (hA) ?_ ?_ ?_; (focus simp only [go_sem, fld, strs]); (focus simp only [go_sem, fld, strs])
              simp only [go_sem, decide_eq_true h5, Bool.true_and]
            · refine PL.Pure.of_v Try.func73 (by decide) rfl Try.ntmps73 Try.results73 (by simp) rfl ?_
              simp only [go_sem, fld, ent]
              refine vCall_of (hR) ?_ ?_ ?_; (focus simp only [go_sem, fld]); (focus simp only [go_sem, fld])
              simp only [go_sem, ref_fold, ha', k1, n1, k4, h5, Bool.false_and]
          · have k4 : (f.kind == 4) = false := beq_eq_false_iff_ne.2 h4
            have hx2 : (cntOk f e && fitsT f e) = (((e.l.length : Int) == 1) && e.l.all (fitsF f)) := by
              simp only [cntOk, fitsT, h4, if_false, hn, decide_true, Bool.and_true]
              congr 1
            rw [hx2]
            cases h5 : (e.l.length : Int) == 1
            · refine PL.Pure.of_v Try.func73 (by decide) rfl Try.ntmps73 Try.results73 (by simp) rfl ?_
              simp only [go_sem, fld, ent]
              refine vCall_of (hR) ?_ ?_ ?_; (focus simp only [go_sem, fld]); (focus simp only [go_sem, fld])
              simp only [go_sem, ref_fold, ha', k1, n1, k4, h5, Bool.false_and]
            · refine PL.Pure.of_v Try.func73 (by decide) rfl Try.ntmps73 Try.results73 (by simp) rfl ?_
              simp only [go_sem, fld, ent]
              refine vCall_of (hR) ?_ ?_ ?_; (focus simp only [go_sem, fld]); (focus simp only [go_sem, fld])
              simp only [go_sem, ref_fold, ha', k1, n1, k4, h5]
              refine vCall_of (hA) ?_ ?_ ?_; (focus simp only [go_sem, fld, strs]); (focus simp only [go_sem, fld, strs])
              simp only [go_sem, Bool.true_and]
        · have n1 : (e.n != 0) = true := bne_iff_ne.2 hn
          have hx2 : (cntOk f e && fitsT f e) = false := by simp [fitsT, hn]
          rw [hx2]
          refine PL.Pure.of_v Try.func73 (by decide) rfl Try.ntmps73 Try.results73 (by simp) rfl ?_
          simp only [go_sem, fld, ent]
          refine vCall_of (hR) ?_ ?_ ?_; (focus simp only [go_sem, fld]); (focus simp only [go_sem, fld])
          simp only [go_sem, ref_fold, ha', k1, n1]
    · have ha' := decide_eq_false ha
      have hx : fitsE f e = false := by simp only [fitsE, ha', Bool.and_false, Bool.false_and]
      rw [hx]
      refine PL.Pure.of_v Try.func73 (by decide) rfl Try.ntmps73 Try.results73 (by simp) rfl ?_
      simp only [go_sem, fld, ent]
      refine vCall_of (hR) ?_ ?_ ?_; (focus simp only [go_sem, fld]); (focus simp only [go_sem, fld])
      simp only [go_sem, ref_fold, ha']
theorem getD_ent' {l : List En} {i : Nat} (h : i < l.length) : (l.map ent).getD i .any = ent (l.getD i default) := getD_map h
theorem getD_row' {l : List Rw} {i : Nat} (h : i < l.length) : (l.map row).getD i .any = row (l.getD i default) := getD_map h
set_option maxRecDepth 20000 in
set_option maxHeartbeats 8000000 in
theorem rightEntries_pure (l : List Fd) (es : List En) (hl : l.length ≤ maxLen) (hes : es.length ≤ maxLen) (hl' : ∀ f ∈ l, f.cases'.length ≤ maxLen) (hes' : ∀ e ∈ es, e.l.length ≤ maxLen) : PL.Pure Try.prog 54 [flds l, ents es] (.bool (entriesB l es)) := by
  by_cases he : l.length = es.length
  · have he' : ((l.length : Int) != (es.length : Int)) = false := by rw [he]; exact bne_self_eq_false _
    have hx : entriesB l es = (List.range l.length).all (fun i => fitsE (l.getD i default) (es.getD i default)) := by simp only [entriesB, he, decide_true, Bool.true_and]
    rw [hx]
    refine PL.Pure.of_v Try.func54 (by decide) rfl Try.ntmps54 Try.results54 (by simp) rfl ?_
    simp only [go_sem, flds, ents, he']
    refine vLoopM (ι := { x : Nat // x ≤ (l).length ∧ (∀ j, j < x → fitsE (l.getD j default) (es.getD j default) = true) }) 27 (fun x => [(1, ents es), (12, flds l), (13, .int .i64 (l.length : Int)), (14, .int .i64 (x.1 : Int))]) (fun x => []) (fun x => []) (fun x => (l).length - x.1) ⟨0, Nat.zero_le _, fun j hj => absurd hj (Nat.not_lt_zero j)⟩ ⟨rfl, (forall_cons rfl (forall_cons rfl (forall_cons rfl (forall_cons rfl forall_nil)))), forall_nil, forall_nil⟩ (fun x => ⟨(forall_cons rfl (forall_cons rfl (forall_cons rfl (forall_cons rfl forall_nil)))), forall_nil⟩) (fun x => ?_); obtain ⟨k, hk, hI⟩ := x; simp only at hk hI ⊢
    by_cases h : (k : Int) < (l.length : Int)
    · (have hka : k < (l).length := by omega); (have w1 := w64s hka (hl)); (have i1 : (0 : Int) ≤ (k : Int) := by omega)
      have hkb : k < es.length := by omega
      have i2 : (k : Int) < (es.length : Int) := by omega
      have hF := DFits_pure (l.getD k default) (es.getD k default) (hl' _ (getD_mem' hka)) (hes' _ (getD_mem' hkb))
      cases hf : fitsE (l.getD k default) (es.getD k default)
      · rw [hf] at hF
        have hz := rall_false (p := fun i => fitsE (l.getD i default) (es.getD i default)) hka hf
        simp only [go_sem, flds, ents, h, i1, getD_fld hka, fld]
        refine vDrawQ (by kernel_rfl) (by kernel_rfl) ?_
        simp only [go_sem, getD_ent' hkb, ent, i1, i2]
        refine vCall_of (hF) ?_ ?_ ?_; (focus simp only [go_sem, fld, ent]); (focus simp only [go_sem, fld, ent])
        simp only [go_sem, hz]
      · rw [hf] at hF
        simp only [go_sem, flds, ents, h, i1, getD_fld hka, fld]
        refine vDrawQ (by kernel_rfl) (by kernel_rfl) ?_
        simp only [go_sem, getD_ent' hkb, ent, i1, i2]
        refine vCall_of (hF) ?_ ?_ ?_; (focus simp only [go_sem, fld, ent]); (focus simp only [go_sem, fld, ent])
        simp only [go_sem, w1]
        exact ⟨⟨k + 1, by (try simp only); omega, below_succ hI hf⟩, by show (l).length - (k + 1) < (l).length - k; omega, ⟨rfl, (forall_cons rfl (forall_cons rfl (forall_cons rfl (forall_cons rfl forall_nil)))), forall_nil, forall_nil⟩⟩
    · have hz := rall_true (p := fun i => fitsE (l.getD i default) (es.getD i default)) (n := l.length) (fun j hj => hI j (by omega))
      simp only [go_sem, h, hz]
  · have he' : ((l.length : Int) != (es.length : Int)) = true := bne_iff_ne.2 (by omega)
    have hx : entriesB l es = false := by simp only [entriesB, he, decide_false, Bool.false_and]
    rw [hx]
    refine PL.Pure.of_v Try.func54 (by decide) rfl Try.ntmps54 Try.results54 (by simp) rfl ?_
    simp only [go_sem, flds, ents, he']
end Go.Proofs.Ytmnibpgmcgdfpaa

set_option linter.unusedSimpArgs false
set_option linter.unusedVariables false
set_option linter.unusedSimpArgs false
set_option linter.unusedVariables false
namespace Go.Proofs.Ytmnibpgmcgdfpaa
open Go.PL
set_option maxRecDepth 20000 in
set_option maxHeartbeats 16000000 in
theorem DRight_pure (l : List Fd) (d : Dc) (hl : l.length ≤ maxLen) (hl' : ∀ f ∈ l, f.cases'.length ≤ 1000000) (hd : Fine d) : PL.Pure Try.prog 23 [flds l, doc d] (.bool (rightD l d)) := by
  obtain ⟨d1, d2, d3, d4⟩ := hd
  have hl2 : ∀ f ∈ l, f.cases'.length ≤ maxLen := fun f hf => by have := hl' f hf; rw [maxLen_eq]; omega
  have hR := SRight_pure l hl hl2
  cases hr : rightL l
  · rw [hr] at hR
    have hx : rightD l d = false := by simp only [rightD, headOk, hr, Bool.false_and]
    refine PL.Pure.of_v Try.func23 (by decide) rfl Try.ntmps23 Try.results23 (by simp) rfl ?_
    simp only [go_sem, flds, doc]
    refine vCall_of (hR) ?_ ?_ ?_; (focus simp only [go_sem, flds]); (focus simp only [go_sem, flds])
    simp only [go_sem, hx]
  · rw [hr] at hR
    have h16 := rightL_len hr
    have sl : ∀ sc, (scopeM l sc).length ≤ maxLen := fun sc => Nat.le_trans (List.length_filter_le _ _) hl
    have sc : ∀ s, ∀ f ∈ scopeM l s, f.cases'.length ≤ maxLen := fun s f hf => hl2 f (List.mem_filter.1 hf).1
    have hS0 := Scope_pure l 0 (by omega) hl'
    have hS1 := Scope_pure l 1 (by omega) hl'
    by_cases h4 : (400 : Int) < (d.rows.length : Int)
    · have hx : rightD l d = false := by simp only [rightD, headOk, h4, decide_true, Bool.not_true, Bool.false_and, Bool.and_false]
      refine PL.Pure.of_v Try.func23 (by decide) rfl Try.ntmps23 Try.results23 (by simp) rfl ?_
      simp only [go_sem, flds, doc]
      refine vCall_of (hR) ?_ ?_ ?_; (focus simp only [go_sem, flds]); (focus simp only [go_sem, flds])
      simp only [go_sem, h4, hx]
    · have hE := rightEntries_pure (scopeM l 0) d.head (sl 0) d1 (sc 0) d3
      cases he : entriesB (scopeM l 0) d.head
      · rw [he] at hE
        have hx : rightD l d = false := by simp only [rightD, headOk, he, Bool.false_and, Bool.and_false]
        refine PL.Pure.of_v Try.func23 (by decide) rfl Try.ntmps23 Try.results23 (by simp) rfl ?_
        simp only [go_sem, flds, doc]
        refine vCall_of (hR) ?_ ?_ ?_; (focus simp only [go_sem, flds]); (focus simp only [go_sem, flds])
        simp only [go_sem, h4]
        refine vDrawQ (by kernel_rfl) (by kernel_rfl) ?_
        simp only [go_sem, flds]
        refine vCall_of (hS0) ?_ ?_ ?_; (focus simp only [go_sem, flds]); (focus simp only [go_sem, flds])
        simp only [go_sem, flds]
        refine vCall_of (hE) ?_ ?_ ?_; (focus simp only [go_sem, flds, ents]); (focus simp only [go_sem, flds, ents])
        simp only [go_sem, hx]
      · rw [he] at hE
        have hx : rightD l d = (List.range d.rows.length).all (rowOk l d.rows) := by simp only [rightD, headOk, hr, h4, he, decide_false, Bool.not_false, Bool.and_self, Bool.true_and]
        rw [hx]
        refine PL.Pure.of_v Try.func23 (by decide) rfl Try.ntmps23 Try.results23 (by simp) rfl ?_
        simp only [go_sem, flds, doc]
        refine vCall_of (hR) ?_ ?_ ?_; (focus simp only [go_sem, flds]); (focus simp only [go_sem, flds])
        simp only [go_sem, h4]
        refine vDrawQ (by kernel_rfl) (by kernel_rfl) ?_
        simp only [go_sem, flds]
        refine vCall_of (hS0) ?_ ?_ ?_; (focus simp only [go_sem, flds]); (focus simp only [go_sem, flds])
        simp only [go_sem, flds]
        refine vCall_of (hE) ?_ ?_ ?_; (focus simp only [go_sem, flds, ents]); (focus simp only [go_sem, flds, ents])
        simp only [go_sem, flds]
        refine vCall_of (hS1) ?_ ?_ ?_; (focus simp only [go_sem, flds]); (focus simp only [go_sem, flds])
        simp only [go_sem]
        refine vLoopM (ι := { x : Nat // x ≤ (d.rows).length ∧ (∀ j, j < x → rowOk l d.rows j = true) }) 59 (fun x => [(3, .ptr 3 0), (5, flds (scopeM l 1)), (26, .sl .no (d.rows.map row)), (27, .int .i64 (d.rows.length : Int)), (28, .int .i64 (x.1 : Int))]) (fun x => [(3, [.sl .no (d.head.map ent), .sl .no (d.rows.map row)], false)]) (fun x => []) (fun x => (d.rows).length - x.1) ⟨0, Nat.zero_le _, fun j hj => absurd hj (Nat.not_lt_zero j)⟩ ⟨rfl, (forall_cons rfl (forall_cons rfl (forall_cons rfl (forall_cons rfl (forall_cons rfl forall_nil))))), (forall_cons ⟨rfl, rfl⟩ forall_nil), forall_nil⟩ (fun x => ⟨(forall_cons rfl (forall_cons rfl (forall_cons (by simp [PV.ids, refInM]) (forall_cons (by simp [PV.ids, refInM]) (forall_cons rfl forall_nil))))), (forall_cons (by simp [PV.ids, PV.idsL, refInM]) forall_nil)⟩) (fun x => ?_); obtain ⟨k, hk, hI⟩ := x; simp only at hk hI ⊢
        by_cases h : (k : Int) < (d.rows.length : Int)
        · (have hka : k < (d.rows).length := by omega); (have w1 := w64s hka (d2)); (have i1 : (0 : Int) ≤ (k : Int) := by omega)
          have hN := Name_pure (d.rows.getD k default).item
          have rk := d4 _ (getD_mem' (d := default) hka)
          have hE1 := rightEntries_pure (scopeM l 1) (d.rows.getD k default).l (sl 1) rk.1 (sc 1) rk.2
          have gk := getD_row' hka
          cases hn : nameB (d.rows.getD k default).item
          · rw [hn] at hN
            have hz := rall_false (p := rowOk l d.rows) hka (by simp only [rowOk, hn, Bool.false_and])
            simp only [go_sem, h, gk, row, i1]
            refine vDrawQ (by kernel_rfl) (by kernel_rfl) ?_
            simp only [go_sem, h, gk, row, i1]
            refine vCall_of (hN) ?_ ?_ ?_; (focus simp only [go_sem]); (focus simp only [go_sem])
            simp only [go_sem, hz]
          · rw [hn] at hN
            by_cases h0 : 0 < (k : Int)
            · have hk1 : k - 1 < d.rows.length := by omega
              have gj := getD_row' hk1
              have w2 : IntKind.i64.wrap ((k : Int) - 1) = ((k - 1 : Nat) : Int) := by
                rw [maxLen_eq] at d2
                rw [w64 (by omega)]; omega
              have j1 : (0 : Int) ≤ ((k - 1 : Nat) : Int) := by omega
              have j2 : ((k - 1 : Nat) : Int) < (d.rows.length : Int) := by omega
              cases hb : bytesLt (d.rows.getD (k - 1) default).item (d.rows.getD k default).item
              · have hz := rall_false (p := rowOk l d.rows) hka (by simp only [rowOk, hb, decide_eq_false (show ¬ k = 0 by omega), Bool.or_self, Bool.and_false, Bool.false_and])
                simp only [go_sem, h, gk, row, i1]
                refine vDrawQ (by kernel_rfl) (by kernel_rfl) ?_
                simp only [go_sem, h, gk, row, i1]
                refine vCall_of (hN) ?_ ?_ ?_; (focus simp only [go_sem]); (focus simp only [go_sem])
                simp only [go_sem, h0, w2, gj, gk, row, h, i1, j1, j2, hb, hz]
              · cases hf : entriesB (scopeM l 1) (d.rows.getD k default).l
                · rw [hf] at hE1
                  have hz := rall_false (p := rowOk l d.rows) hka (by simp only [rowOk, hf, Bool.and_false])
                  simp only [go_sem, h, gk, row, i1]
                  refine vDrawQ (by kernel_rfl) (by kernel_rfl) ?_
                  simp only [go_sem, h, gk, row, i1]
                  refine vCall_of (hN) ?_ ?_ ?_; (focus simp only [go_sem]); (focus simp only [go_sem])
                  simp only [go_sem, h0, w2, gj, gk, row, h, i1, j1, j2, hb, flds]
                  refine vCall_of (hE1) ?_ ?_ ?_; (focus simp only [go_sem, flds, ents]); (focus simp only [go_sem, flds, ents])
                  simp only [go_sem, hz]
                · rw [hf] at hE1
                  have ok : rowOk l d.rows k = true := by simp only [rowOk, hn, hb, hf, Bool.or_true, Bool.and_self]
                  simp only [go_sem, h, gk, row, i1]
                  refine vDrawQ (by kernel_rfl) (by kernel_rfl) ?_
                  simp only [go_sem, h, gk, row, i1]
                  refine vCall_of (hN) ?_ ?_ ?_; (focus simp only [go_sem]); (focus simp only [go_sem])
                  simp only [go_sem, h0, w2, gj, gk, row, h, i1, j1, j2, hb, flds]
                  refine vCall_of (hE1) ?_ ?_ ?_; (focus simp only [go_sem, flds, ents]); (focus simp only [go_sem, flds, ents])
                  simp only [go_sem, w1]
                  exact ⟨⟨k + 1, by (try simp only); omega, below_succ hI ok⟩, by show (d.rows).length - (k + 1) < (d.rows).length - k; omega, ⟨rfl, (forall_cons rfl (forall_cons rfl (forall_cons rfl (forall_cons rfl (forall_cons rfl forall_nil))))), (forall_cons ⟨rfl, rfl⟩ forall_nil), forall_nil⟩⟩
            · have hk0 : k = 0 := by omega
              cases hf : entriesB (scopeM l 1) (d.rows.getD k default).l
              · rw [hf] at hE1
                have hz := rall_false (p := rowOk l d.rows) hka (by simp only [rowOk, hf, Bool.and_false])
                simp only [go_sem, h, gk, row, i1]
                refine vDrawQ (by kernel_rfl) (by kernel_rfl) ?_
                simp only [go_sem, h, gk, row, i1]
                refine vCall_of (hN) ?_ ?_ ?_; (focus simp only [go_sem]); (focus simp only [go_sem])
                simp only [go_sem, h0, gk, row, h, i1, flds]
                refine vCall_of (hE1) ?_ ?_ ?_; (focus simp only [go_sem, flds, ents]); (focus simp only [go_sem, flds, ents])
                simp only [go_sem, hz]
              · rw [hf] at hE1
                have ok : rowOk l d.rows k = true := by simp only [rowOk, hn, decide_eq_true hk0, hf, Bool.true_or, Bool.and_self]
                simp only [go_sem, h, gk, row, i1]
                refine vDrawQ (by kernel_rfl) (by kernel_rfl) ?_
                simp only [go_sem, h, gk, row, i1]
                refine vCall_of (hN) ?_ ?_ ?_; (focus simp only [go_sem]); (focus simp only [go_sem])
                simp only [go_sem, h0, gk, row, h, i1, flds]
                refine vCall_of (hE1) ?_ ?_ ?_; (focus simp only [go_sem, flds, ents]); (focus simp only [go_sem, flds, ents])
                simp only [go_sem, w1]
                exact ⟨⟨k + 1, by (try simp only); omega, below_succ hI ok⟩, by show (d.rows).length - (k + 1) < (d.rows).length - k; omega, ⟨rfl, (forall_cons rfl (forall_cons rfl (forall_cons rfl (forall_cons rfl (forall_cons rfl forall_nil))))), (forall_cons ⟨rfl, rfl⟩ forall_nil), forall_nil⟩⟩
        · have hz := rall_true (p := rowOk l d.rows) (n := d.rows.length) (fun j hj => hI j (by omega))
          simp only [go_sem, h, hz]
theorem sized_row (l : List Rw) : Sized 2 (l.map row) := fun e he => by
  obtain ⟨x, _, rfl⟩ := List.mem_map.1 he; rfl
set_option maxRecDepth 20000 in
set_option maxHeartbeats 8000000 in
theorem ownEntries_pure (l : List En) (hl : l.length ≤ 100000) (hl' : ∀ e ∈ l, e.l.length ≤ 1000000) : PL.Pure Try.prog 47 [ents l] (ents l) := by
  have hm : l.length ≤ maxLen := by rw [maxLen_eq]; omega
  refine PL.Pure.of_v Try.func47 (by decide) rfl Try.ntmps47 Try.results47 (by simp) (ents_dids _) ?_
  simp only [go_sem, ents]
  refine awp_nilRow 3 16 5 27 rfl rfl ?_
  refine vLoopM (ι := { x : Nat × (List En) // x.1 ≤ (l).length ∧ (x.2 = l.take x.1) }) 19 (fun x => [(3, .sl (.row 16) (x.1.2.map ent)), (6, ents l), (7, .int .i64 (l.length : Int)), (8, .int .i64 (x.1.1 : Int))]) (fun x => []) (fun x => [(16, .live (x.1.2.length) (5) (27))]) (fun x => (l).length - x.1.1) ⟨(0, []), Nat.zero_le _, rfl⟩ ⟨rfl, (forall_cons rfl (forall_cons rfl (forall_cons rfl (forall_cons rfl forall_nil)))), forall_nil, (forall_cons rfl forall_nil)⟩ (fun x => ⟨(forall_cons (by simp [PV.ids, refInM]) (forall_cons rfl (forall_cons rfl (forall_cons rfl forall_nil)))), forall_nil⟩) (fun x => ?_); obtain ⟨⟨k, acc⟩, hk, hI⟩ := x; simp only at hk hI ⊢
  have hacc : acc.length ≤ l.length := by rw [hI]; exact take_le_len _ _
  by_cases h : (k : Int) < (l.length : Int)
  · (have hka : k < (l).length := by omega); (have w1 := w64s hka (hm)); (have i1 : (0 : Int) ≤ (k : Int) := by omega)
    have hr := room1 (show acc.length + 1 ≤ 1000000 by omega) (show 72 ≤ 1000 by omega)
    have hO := ownEntry_pure (l.getD k default) (hl' _ (getD_mem' hka))
    simp only [go_sem, ents, h, getD_ent' hka, ent, i1]
    refine vCall_of (hO) ?_ ?_ ?_; (focus simp only [go_sem, ent]); (focus simp only [go_sem, ent])
    simp only [go_sem, ent, sized_ent, hr, w1]
    exact ⟨⟨(k + 1, acc ++ [l.getD k default]), by (try simp only); omega, by simp only; rw [take_snoc (d := default) hka, hI]⟩, by show (l).length - (k + 1) < (l).length - k; omega, ⟨rfl, (forall_cons (by simp [upd, ent]) (forall_cons rfl (forall_cons rfl (forall_cons rfl forall_nil)))), forall_nil, (forall_cons (by simp [upd]) forall_nil)⟩⟩
  · obtain rfl : k = l.length := by omega
    rw [List.take_length] at hI
    subst hI
    simp only [go_sem, h, ents]
end Go.Proofs.Ytmnibpgmcgdfpaa

set_option linter.unusedSimpArgs false
set_option linter.unusedVariables false
set_option linter.unusedSimpArgs false
set_option linter.unusedVariables false
namespace Go.Proofs.Ytmnibpgmcgdfpaa
open Go.PL
theorem atoms_row (l : List Rw) : Atoms (l.map row) := fun e he => by
  obtain ⟨t, _, rfl⟩ := List.mem_map.1 he
  rfl
theorem row_dids (r : Rw) : (row r).dids = [] := by simp only [row, PV.dids, PV.didsL, didsL_ent, List.append_nil]
theorem didsL_row (l : List Rw) : PV.didsL (l.map row) = [] := by
  induction l with
  | nil => rfl
  | cons t l ih => simp only [List.map_cons, PV.didsL, ih, row_dids, List.append_nil]
theorem doc_dids (d : Dc) : (doc d).dids = [] := by simp only [doc, PV.dids, PV.didsL, didsL_ent, didsL_row, List.append_nil]
/-- rows gathered in a field of a block: nil at first -/
def gatC (i : Nat) (l : List Rw) : Nat → PV
  | 0 => .sl .nil []
  | k + 1 => .sl (.row i) ((l.take (k + 1)).map row)
def gatR (i : Nat) : Nat → List (Nat × Row)
  | 0 => []
  | k + 1 => [(i, .live (k + 1) 2 53)]
set_option maxRecDepth 20000 in
set_option maxHeartbeats 8000000 in
theorem DOwn_pure (d : Dc) (h1 : d.head.length ≤ 100000) (h2 : d.rows.length ≤ 100000) (h3 : ∀ e ∈ d.head, e.l.length ≤ 1000000) (h4 : ∀ r ∈ d.rows, r.l.length ≤ 100000 ∧ ∀ e ∈ r.l, e.l.length ≤ 1000000) : PL.Pure Try.prog 18 [doc d] (doc d) := by
  obtain ⟨hd, rws⟩ := d
  simp only at h1 h2 h3 h4
  have hm : rws.length ≤ maxLen := by rw [maxLen_eq]; omega
  have hE := ownEntries_pure hd h1 h3
  refine PL.Pure.of_v Try.func18 (by decide) rfl Try.ntmps18 Try.results18 (by simp) (doc_dids _) ?_
  simp only [go_sem, doc]
  refine vCall_of (hE) ?_ ?_ ?_; (focus simp only [go_sem, ents]); (focus simp only [go_sem, ents])
  simp only [go_sem, ents]
  refine vLoopM (ι := { k : Nat // k ≤ rws.length }) 30 (fun x => [(2, .ptr 2 0), (3, .ptr 3 0), (11, .sl .no (rws.map row)), (12, .int .i64 (rws.length : Int)), (13, .int .i64 (x.1 : Int))]) (fun x => [(2, [.sl .nil [], .sl .nil []], false), (3, [.sl .no (hd.map ent), gatC 26 rws x.1], false)]) (fun x => gatR 26 x.1) (fun x => rws.length - x.1) ⟨0, Nat.zero_le _⟩
    ⟨rfl, (forall_cons rfl (forall_cons rfl (forall_cons rfl (forall_cons rfl (forall_cons rfl (forall_nil)))))), forall_cons ⟨rfl, rfl⟩ (forall_cons ⟨rfl, rfl⟩ forall_nil), forall_nil⟩ (fun x => ?_) (fun x => ?_)
  · obtain ⟨k, hk⟩ := x
    cases k with
    | zero => exact ⟨(forall_cons rfl (forall_cons rfl (forall_cons rfl (forall_cons rfl (forall_cons rfl (forall_nil)))))), forall_cons rfl (forall_cons rfl forall_nil)⟩
    | succ k => exact ⟨(forall_cons rfl (forall_cons rfl (forall_cons rfl (forall_cons rfl (forall_cons rfl (forall_nil)))))), forall_cons rfl (forall_cons (by simp [gatC, gatR, PV.ids, PV.idsL, refInM]) forall_nil)⟩
  obtain ⟨k, hk⟩ := x
  simp only
  by_cases h : (k : Int) < (rws.length : Int)
  · have hka : k < rws.length := by omega
    have w1 := w64s hka hm
    have i1 : (0 : Int) ≤ (k : Int) := by omega
    have rk := h4 _ (getD_mem' (d := default) hka)
    have hO := ownEntries_pure (rws.getD k default).l rk.1 rk.2
    have hsn : (rws.take (k + 1)).map row = (rws.take k).map row ++ [row (rws.getD k default)] := by rw [take_snoc (d := default) hka, List.map_append]; rfl
    have hsz := sized_row (rws.take k)
    have hr0 := room1 (show 1 ≤ 1000000 by omega) (show 40 ≤ 1000 by omega)
    have hat := atoms_row [rws.getD k default]
    have hln : ((rws.take k).map row).length = k := by simp; omega
    cases k with
    | zero =>
      have h' : (0 : Int) < (rws.length : Int) := by simpa using h
      have g0 := getD_row' hka
      simp only [go_sem, gatC, gatR, h', g0, row, i1]
      refine vDrawQ (by kernel_rfl) (by kernel_rfl) ?_
      simp only [go_sem]
      refine vCall_of (hO) ?_ ?_ ?_; (focus simp only [go_sem, ents]); (focus simp only [go_sem, ents])
      have w0 : IntKind.i64.wrap 1 = 1 := w64 (by omega)
      simp only [go_sem, ents, w1, w0]
      refine ⟨hr0, ⟨⟨0 + 1, by omega⟩, by show rws.length - (0 + 1) < rws.length - 0; omega, ⟨rfl, (forall_cons rfl (forall_cons rfl (forall_cons rfl (forall_cons rfl (forall_cons rfl (forall_nil)))))), forall_cons ⟨rfl, rfl⟩ (forall_cons ⟨?_, rfl⟩ forall_nil), forall_cons rfl forall_nil⟩⟩⟩
      show some [PV.sl .no _, PV.sl (.row 26) _] = some [PV.sl .no _, PV.sl (.row 26) _]
      rw [hsn]
      rfl
    | succ k =>
      have hl3 : (rws.take (k + 1)).length = k + 1 := by rw [List.length_take]; omega
      have hr := room1 (show k + 1 + 1 ≤ 1000000 by omega) (show 40 ≤ 1000 by omega)
      simp only [go_sem, gatC, gatR, h, getD_row' hka, row, i1]
      refine vDrawQ (by kernel_rfl) (by kernel_rfl) ?_
      simp only [go_sem]
      refine vCall_of (hO) ?_ ?_ ?_; (focus simp only [go_sem, ents]); (focus simp only [go_sem, ents])
      simp only [go_sem, ents, w1]
      refine ⟨⟨hl3.symm, sized_row _, by rw [hl3]; exact hr⟩, ⟨⟨k + 1 + 1, by omega⟩, by show rws.length - (k + 1 + 1) < rws.length - (k + 1); omega, ⟨rfl, (forall_cons rfl (forall_cons rfl (forall_cons rfl (forall_cons rfl (forall_cons rfl (forall_nil)))))), forall_cons ⟨rfl, rfl⟩ (forall_cons ⟨?_, rfl⟩ forall_nil), forall_cons ?_ forall_nil⟩⟩⟩
      · show some [PV.sl .no _, PV.sl (.row 26) _] = some [PV.sl .no _, PV.sl (.row 26) _]
        rw [hsn]
        rfl
      · show some _ = some _
        rw [hl3]
  · obtain rfl : k = rws.length := by omega
    cases rws with
    | nil =>
      have h' : ¬ (0 : Int) < 0 := by omega
      simp only [go_sem, gatC, gatR, h', List.length_nil]
      rfl
    | cons r rs =>
      have ht : (r :: rs).take (rs.length + 1) = r :: rs := List.take_length (l := r :: rs)
      have h' : ¬ ((rs.length + 1 : Nat) : Int) < ((rs.length + 1 : Nat) : Int) := by omega
      simp only [go_sem, gatC, gatR, h', List.length_cons, ht]
      rw [List.take_length]
      rfl
end Go.Proofs.Ytmnibpgmcgdfpaa

set_option linter.unusedSimpArgs false
set_option linter.unusedVariables false
set_option linter.unusedSimpArgs false
set_option linter.unusedVariables false
namespace Go.Proofs.Ytmnibpgmcgdfpaa
open Go.PL
structure Cg where
  kind : Int
  item : Str
  was : En
  now : En
  l : List En
deriving DecidableEq, Inhabited
structure FineC (c : Cg) : Prop where
  w : c.was.l.length ≤ maxLen
  n : c.now.l.length ≤ maxLen
  l : c.l.length ≤ maxLen
  e : ∀ e ∈ c.l, e.l.length ≤ maxLen
end Go.Proofs.Ytmnibpgmcgdfpaa

set_option linter.unusedSimpArgs false
set_option linter.unusedVariables false
set_option linter.unusedSimpArgs false
set_option linter.unusedVariables false
namespace Go.Proofs.Ytmnibpgmcgdfpaa
open Go.PL
end Go.Proofs.Ytmnibpgmcgdfpaa

set_option linter.unusedSimpArgs false
set_option linter.unusedVariables false
set_option linter.unusedSimpArgs false
set_option linter.unusedVariables false
namespace Go.Proofs.Ytmnibpgmcgdfpaa
open Go.PL
end Go.Proofs.Ytmnibpgmcgdfpaa

set_option linter.unusedSimpArgs false
set_option linter.unusedVariables false
set_option linter.unusedSimpArgs false
set_option linter.unusedVariables false
namespace Go.Proofs.Ytmnibpgmcgdfpaa
open Go.PL
end Go.Proofs.Ytmnibpgmcgdfpaa

set_option linter.unusedSimpArgs false
set_option linter.unusedVariables false
set_option linter.unusedSimpArgs false
set_option linter.unusedVariables false
namespace Go.Proofs.Ytmnibpgmcgdfpaa
open Go.PL
end Go.Proofs.Ytmnibpgmcgdfpaa

set_option linter.unusedSimpArgs false
set_option linter.unusedVariables false
set_option linter.unusedSimpArgs false
set_option linter.unusedVariables false
namespace Go.Proofs.Ytmnibpgmcgdfpaa
open Go.PL
end Go.Proofs.Ytmnibpgmcgdfpaa

set_option linter.unusedSimpArgs false
set_option linter.unusedVariables false
set_option linter.unusedSimpArgs false
set_option linter.unusedVariables false
namespace Go.Proofs.Ytmnibpgmcgdfpaa
open Go.PL
/-- what is another, entry by entry -/
def othersL (it : Str) (a b : List En) : List Cg := ((List.range a.length).filter fun i => !decide (a.getD i default = b.getD i default)).map fun i => ⟨1, it, a.getD i default, b.getD i default, []⟩
end Go.Proofs.Ytmnibpgmcgdfpaa

set_option linter.unusedSimpArgs false
set_option linter.unusedVariables false
set_option linter.unusedSimpArgs false
set_option linter.unusedVariables false
namespace Go.Proofs.Ytmnibpgmcgdfpaa
open Go.PL
end Go.Proofs.Ytmnibpgmcgdfpaa

set_option linter.unusedSimpArgs false
set_option linter.unusedVariables false
set_option linter.unusedSimpArgs false
set_option linter.unusedVariables false
namespace Go.Proofs.Ytmnibpgmcgdfpaa
open Go.PL
end Go.Proofs.Ytmnibpgmcgdfpaa

set_option linter.unusedSimpArgs false
set_option linter.unusedVariables false
set_option linter.unusedSimpArgs false
set_option linter.unusedVariables false
namespace Go.Proofs.Ytmnibpgmcgdfpaa
open Go.PL
end Go.Proofs.Ytmnibpgmcgdfpaa

set_option linter.unusedSimpArgs false
set_option linter.unusedVariables false
set_option linter.unusedSimpArgs false
set_option linter.unusedVariables false
namespace Go.Proofs.Ytmnibpgmcgdfpaa
open Go.PL
def wentC (r : Rw) : Cg := ⟨3, r.item, default, default, r.l⟩
def cameC (r : Rw) : Cg := ⟨2, r.item, default, default, r.l⟩
/-- rows held against rows, item by item -/
def diffR : List Rw → List Rw → List Cg
  | [], [] => []
  | p :: ps, [] => wentC p :: diffR ps []
  | [], q :: qs => cameC q :: diffR [] qs
  | p :: ps, q :: qs => if bytesLt p.item q.item = true then wentC p :: diffR ps (q :: qs) else if bytesLt q.item p.item = true then cameC q :: diffR (p :: ps) qs else othersL q.item p.l q.l ++ diffR ps qs
termination_by a b => a.length + b.length
/-- how far the merging has come, and what has been told -/
structure DiS (p q : List Rw) (h0 : List Cg) where
  i : Nat
  j : Nat
  acc : List Cg
  row : Nat
  hi : i ≤ p.length
  hj : j ≤ q.length
  hl : acc.length ≤ h0.length + 16 * (i + j)
  h : acc ++ diffR (p.drop i) (q.drop j) = h0 ++ diffR p q
end Go.Proofs.Ytmnibpgmcgdfpaa

set_option linter.unusedSimpArgs false
set_option linter.unusedVariables false
set_option linter.unusedSimpArgs false
set_option linter.unusedVariables false
namespace Go.PL
open Go.RowKit
section
variable {P : Program} {n : Nat} {ops : Array Oper} {rest : List Oper} {Q : Exit → Act → World → Prop} {a : Act} {w : World}
end
end Go.PL
namespace Go.Proofs.Ytmnibpgmcgdfpaa
open Go.PL Go.RowKit
end Go.Proofs.Ytmnibpgmcgdfpaa

set_option linter.unusedSimpArgs false
set_option linter.unusedVariables false
set_option linter.unusedSimpArgs false
set_option linter.unusedVariables false
namespace Go.Proofs.Ytmnibpgmcgdfpaa
open Go.PL
structure FineB (c : Cg) : Prop where
  w : c.was.l.length ≤ 1000000
  n : c.now.l.length ≤ 1000000
  l : c.l.length ≤ 100000
  e : ∀ e ∈ c.l, e.l.length ≤ 1000000
end Go.Proofs.Ytmnibpgmcgdfpaa

set_option linter.unusedSimpArgs false
set_option linter.unusedVariables false
set_option linter.unusedSimpArgs false
set_option linter.unusedVariables false
namespace Go.Proofs.Ytmnibpgmcgdfpaa
open Go.PL
structure OkDd (d : Dc) : Prop where
  h : d.head.length ≤ 100000
  r : d.rows.length ≤ 100000
  e : ∀ e ∈ d.head, e.l.length ≤ 1000000
  s : ∀ r ∈ d.rows, r.l.length ≤ 100000 ∧ ∀ e ∈ r.l, e.l.length ≤ 1000000
/-- how far the merging has come, and what has been told -/
structure DiX (p q : List Rw) (h0 : List Cg) where
  P : List Rw
  Q : List Rw
  acc : List Cg
  id : Nat
  hP : ∀ r ∈ P, r ∈ p
  hQ : ∀ r ∈ Q, r ∈ q
  hl : acc.length + 16 * (P.length + Q.length) ≤ 16 + 16 * (p.length + q.length)
  h : acc ++ diffR P Q = h0 ++ diffR p q
  hid : id = 25 ∨ id = 91 ∨ id = 121 ∨ id = 44
end Go.Proofs.Ytmnibpgmcgdfpaa

set_option linter.unusedSimpArgs false
set_option linter.unusedVariables false
set_option linter.unusedSimpArgs false
set_option linter.unusedVariables false
namespace Go.Proofs.Ytmnibpgmcgdfpaa
open Go.PL
theorem heavyEs_len37 {l : List En} (h : heavyEs l = false) : l.length ≤ 40 ∧ ∀ e ∈ l, e.l.length ≤ 410 := by
  simp only [heavyEs, Bool.or_eq_false_iff, decide_eq_false_iff_not, List.any_eq_false] at h
  refine ⟨by omega, fun e he => ?_⟩
  have := h.2 e he
  simp [entH] at this
  omega
end Go.Proofs.Ytmnibpgmcgdfpaa

set_option linter.unusedSimpArgs false
set_option linter.unusedVariables false
set_option linter.unusedSimpArgs false
set_option linter.unusedVariables false
namespace Go.Proofs.Ytmnibpgmcgdfpaa
open Go.PL
/-! young entries and changes -/
def entF (e : En) : PV := .agg [.int .i64 e.at'.sc, .str e.at'.gr, .str e.at'.nm, .int .i64 e.n, PV.frl (e.l.map .str)]
def chgF (c : Cg) : PV := .agg [.int .i64 c.kind, .str c.item, .int .i64 c.was.at'.sc, .str c.was.at'.gr, .str c.was.at'.nm, .int .i64 c.was.n, PV.frl (c.was.l.map .str), .int .i64 c.now.at'.sc, .str c.now.at'.gr, .str c.now.at'.nm, .int .i64 c.now.n, PV.frl (c.now.l.map .str), PV.frl (c.l.map entF)]
theorem entF_dids (e : En) : (entF e).dids = [] := by simp only [entF, PV.dids, PV.didsL, frl_dids, didsL_str, List.append_nil]
theorem didsL_entF (l : List En) : PV.didsL (l.map entF) = [] := by
  induction l with
  | nil => rfl
  | cons e l ih => simp only [List.map_cons, PV.didsL, entF_dids, ih, List.append_nil]
end Go.Proofs.Ytmnibpgmcgdfpaa

set_option linter.unusedSimpArgs false
set_option linter.unusedVariables false
set_option linter.unusedSimpArgs false
set_option linter.unusedVariables false
namespace Go.Proofs.Ytmnibpgmcgdfpaa
open Go.PL
end Go.Proofs.Ytmnibpgmcgdfpaa

set_option linter.unusedSimpArgs false
set_option linter.unusedVariables false
set_option linter.unusedSimpArgs false
set_option linter.unusedVariables false
namespace Go.Proofs.Ytmnibpgmcgdfpaa
open Go.PL
end Go.Proofs.Ytmnibpgmcgdfpaa

set_option linter.unusedSimpArgs false
set_option linter.unusedVariables false
set_option linter.unusedSimpArgs false
set_option linter.unusedVariables false
namespace Go.Proofs.Ytmnibpgmcgdfpaa
open Go.PL
/-! texts that rise, each once -/
/-! the items of both -/
end Go.Proofs.Ytmnibpgmcgdfpaa

set_option linter.unusedSimpArgs false
set_option linter.unusedVariables false
set_option linter.unusedSimpArgs false
set_option linter.unusedVariables false
namespace Go.Proofs.Ytmnibpgmcgdfpaa
open Go.PL
end Go.Proofs.Ytmnibpgmcgdfpaa

set_option linter.unusedSimpArgs false
set_option linter.unusedVariables false
set_option linter.unusedSimpArgs false
set_option linter.unusedVariables false
namespace Go.Proofs.Ytmnibpgmcgdfpaa
open Go.PL
/-- how far it has come: items, what is told, the number of its row -/
structure DrX (n : Nat) (f : Str → List Cg) (its : List Str) (h0 : List Cg) where
  k : Nat
  acc : List Cg
  id : Nat
  hk : k ≤ its.length
  hl : acc.length ≤ 16 + 16 * k
  h : acc = h0 ++ (its.take k).flatMap f
  hid : id = 29 ∨ id = 94 ∨ id = 110 ∨ id = 129
end Go.Proofs.Ytmnibpgmcgdfpaa
