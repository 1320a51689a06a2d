/- Contracts of functions and laws of this seat, each for every input that it names: lemmas of the proof. -/
import Derived.Test.YtmnibpgmcgdfpaaXAs
set_option linter.unusedSimpArgs false
set_option linter.unusedVariables false
set_option linter.unusedSimpArgs false
set_option linter.unusedVariables false
namespace Go.Proofs.Ytmnibpgmcgdfpaa
open Go.PL
set_option maxRecDepth 20000 in
set_option maxHeartbeats 8000000 in
theorem fitAll_pure (f : Fd) (l : List Str) (hf : f.cases'.length ≤ maxLen) (hl : l.length ≤ maxLen) : PL.Pure Try.prog 108 [fld f, strs l] (.bool (l.all (fitsF f))) := by
  refine PL.Pure.of_v Try.func108 (by decide) rfl Try.ntmps108 Try.results108 (by simp) rfl ?_
  simp only [go_sem, fld, strs]
  refine vLoopM (ι := { x : Nat // x ≤ (l).length ∧ (∀ j, j < x → fitsF f (l.getD j []) = true) }) 18 (fun x => [(2, .ptr 2 0), (7, strs l), (8, .int .i64 (l.length : Int)), (9, .int .i64 (x.1 : Int))]) (fun x => [(2, fcells f, false)]) (fun x => []) (fun x => (l).length - x.1) ⟨0, Nat.zero_le _, fun j hj => absurd hj (Nat.not_lt_zero j)⟩ ⟨rfl, (forall_cons rfl (forall_cons rfl (forall_cons rfl (forall_cons rfl forall_nil)))), (forall_cons ⟨rfl, rfl⟩ forall_nil), forall_nil⟩ (fun x => ⟨(forall_cons rfl (forall_cons rfl (forall_cons rfl (forall_cons rfl forall_nil)))), (forall_cons rfl forall_nil)⟩) (fun x => ?_); obtain ⟨k, hk, hI⟩ := x; simp only at hk hI ⊢
  by_cases h : (k : Int) < (l.length : Int)
  · (have hka : k < (l).length := by omega); (have w1 := w64s hka (hl)); (have i1 : (0 : Int) ≤ (k : Int) := by omega)
    have hF := FFits_pure f (l.getD k []) hf
    cases hq : fitsF f (l.getD k [])
    · rw [hq] at hF
      have hz := all_false (p := fitsF f) hka hq
      simp only [go_sem, strs, h, getD_str hka, i1, fcells]
      refine vCall_of (hF) ?_ ?_ ?_; (focus simp only [go_sem, fld]); (focus simp only [go_sem, fld])
      simp only [go_sem, hz]
    · rw [hq] at hF
      simp only [go_sem, strs, h, getD_str hka, i1, fcells]
      refine vCall_of (hF) ?_ ?_ ?_; (focus simp only [go_sem, fld]); (focus simp only [go_sem, fld])
      simp only [go_sem, w1]
      exact ⟨⟨k + 1, by (try simp only); omega, below_succ hI hq⟩, by show (l).length - (k + 1) < (l).length - k; omega, ⟨rfl, (forall_cons rfl (forall_cons rfl (forall_cons rfl (forall_cons rfl forall_nil)))), (forall_cons ⟨rfl, rfl⟩ forall_nil), forall_nil⟩⟩
  · have hz := all_true (p := fitsF f) (d := []) (l := l) (fun j hj => hI j (by omega))
    simp only [go_sem, h, hz]
set_option maxRecDepth 20000 in
set_option maxHeartbeats 8000000 in
theorem DFits_pure (f : Fd) (e : En) (hl : f.cases'.length ≤ maxLen) (he : e.l.length ≤ maxLen) : PL.Pure Try.prog 73 [fld f, ent e] (.bool (fitsE f e)) := by
  have hR := Right_pure f hl
  have hA := fitAll_pure f e.l hl he
  cases hr : rightF f
  · rw [hr] at hR
    refine PL.Pure.of_v Try.func73 (by decide) rfl Try.ntmps73 Try.results73 (by simp) rfl ?_
    simp only [go_sem, fld, ent]
    refine vCall_of (hR) ?_ ?_ ?_; (focus simp only [go_sem, fld]); (focus simp only [go_sem, fld])
    simp only [go_sem, fitsE, hr, Bool.false_and]
  · rw [hr] at hR
    by_cases ha : e.at' = f.at'
    · have ha' := decide_eq_true ha
      by_cases h1 : f.kind = 1
      · have k1 : (f.kind == 1) = true := by rw [h1]; rfl
        have hx : fitsE f e = fitsN e := by simp only [fitsE, hr, ha', Bool.and_self, Bool.true_and, h1, if_true]
        rw [hx]
        refine PL.Pure.of_v Try.func73 (by decide) rfl Try.ntmps73 Try.results73 (by simp) rfl ?_
        simp only [go_sem, fld, ent]
        refine vCall_of (hR) ?_ ?_ ?_; (focus simp only [go_sem, fld]); (focus simp only [go_sem, fld])
        simp only [go_sem, ref_fold, ha', k1]
        repeat' (first | (refine vGuard_t (fun h => ?_) (fun h => ?_) <;> (try simp only [go_sem, h])) | (refine vGuard_f (fun h => ?_) (fun h => ?_) <;> (try simp only [go_sem, h])) | (refine vCond_b (fun h => ?_) (fun h => ?_) <;> (try simp only [go_sem, h])) | ((refine vDrawQ (by kernel_rfl) (by kernel_rfl) ?_); (try simp only [go_sem])))
        all_goals (simp_all [fitsN]; try (first | omega | (rw [decide_eq_true (show (-4503599627370497 : Int) < e.n by omega), decide_eq_true (show e.n < 4503599627370497 by omega)]; simp)))
      · have k1 : (f.kind == 1) = false := beq_eq_false_iff_ne.2 h1
        have hx : fitsE f e = (cntOk f e && fitsT f e) := by simp only [fitsE, hr, ha', Bool.and_self, Bool.true_and, h1, if_false]
        rw [hx]
        by_cases hn : e.n = 0
        · have n1 : (e.n != 0) = false := by rw [hn]; rfl
          by_cases h4 : f.kind = 4
          · have k4 : (f.kind == 4) = true := by rw [h4]; rfl
            have hx2 : (cntOk f e && fitsT f e) = (decide ((e.l.length : Int) ≤ 400) && e.l.all (fitsF f)) := by
              simp only [cntOk, fitsT, h4, if_true, hn, decide_true, Bool.and_true]
              congr 1
              rw [Bool.eq_iff_iff]; simp
            rw [hx2]
            by_cases h5 : (e.l.length : Int) ≤ 400
            · refine PL.Pure.of_v Try.func73 (by decide) rfl Try.ntmps73 Try.results73 (by simp) rfl ?_
              simp only [go_sem, fld, ent]
              refine vCall_of (hR) ?_ ?_ ?_; (focus simp only [go_sem, fld]); (focus simp only [go_sem, fld])
              simp only [go_sem, ref_fold, ha', k1, n1, k4, h5]
              refine vCall_of (hA) ?_ ?_ ?_; (focus simp only [go_sem, fld, strs]); (focus simp only [go_sem, fld, strs])
              simp only [go_sem, decide_eq_true h5, Bool.true_and]
            · refine PL.Pure.of_v Try.func73 (by decide) rfl Try.ntmps73 Try.results73 (by simp) rfl ?_
              simp only [go_sem, fld, ent]
              refine vCall_of (hR) ?_ ?_ ?_; (focus simp only [go_sem, fld]); (focus simp only [go_sem, fld])
              simp only [go_sem, ref_fold, ha', k1, n1, k4, h5, Bool.false_and]
          · have k4 : (f.kind == 4) = false := beq_eq_false_iff_ne.2 h4
            have hx2 : (cntOk f e && fitsT f e) = (((e.l.length : Int) == 1) && e.l.all (fitsF f)) := by
              simp only [cntOk, fitsT, h4, if_false, hn, decide_true, Bool.and_true]
              congr 1
            rw [hx2]
            cases h5 : (e.l.length : Int) == 1
            · refine PL.Pure.of_v Try.func73 (by decide) rfl Try.ntmps73 Try.results73 (by simp) rfl ?_
              simp only [go_sem, fld, ent]
              refine vCall_of (hR) ?_ ?_ ?_; (focus simp only [go_sem, fld]); (focus simp only [go_sem, fld])
              simp only [go_sem, ref_fold, ha', k1, n1, k4, h5, Bool.false_and]
            · refine PL.Pure.of_v Try.func73 (by decide) rfl Try.ntmps73 Try.results73 (by simp) rfl ?_
              simp only [go_sem, fld, ent]
              refine vCall_of (hR) ?_ ?_ ?_; (focus simp only [go_sem, fld]); (focus simp only [go_sem, fld])
              simp only [go_sem, ref_fold, ha', k1, n1, k4, h5]
              refine vCall_of (hA) ?_ ?_ ?_; (focus simp only [go_sem, fld, strs]); (focus simp only [go_sem, fld, strs])
              simp only [go_sem, Bool.true_and]
        · have n1 : (e.n != 0) = true := bne_iff_ne.2 hn
          have hx2 : (cntOk f e && fitsT f e) = false := by simp [fitsT, hn]
          rw [hx2]
          refine PL.Pure.of_v Try.func73 (by decide) rfl Try.ntmps73 Try.results73 (by simp) rfl ?_
          simp only [go_sem, fld, ent]
          refine vCall_of (hR) ?_ ?_ ?_; (focus simp only [go_sem, fld]); (focus simp only [go_sem, fld])
          simp only [go_sem, ref_fold, ha', k1, n1]
    · have ha' := decide_eq_false ha
      have hx : fitsE f e = false := by simp only [fitsE, ha', Bool.and_false, Bool.false_and]
      rw [hx]
      refine PL.Pure.of_v Try.func73 (by decide) rfl Try.ntmps73 Try.results73 (by simp) rfl ?_
      simp only [go_sem, fld, ent]
      refine vCall_of (hR) ?_ ?_ ?_; (focus simp only [go_sem, fld]); (focus simp only [go_sem, fld])
      simp only [go_sem, ref_fold, ha']
theorem getD_ent' {l : List En} {i : Nat} (h : i < l.length) : (l.map ent).getD i .any = ent (l.getD i default) := getD_map h
theorem getD_row' {l : List Rw} {i : Nat} (h : i < l.length) : (l.map row).getD i .any = row (l.getD i default) := getD_map h
set_option maxRecDepth 20000 in
set_option maxHeartbeats 8000000 in
theorem rightEntries_pure (l : List Fd) (es : List En) (hl : l.length ≤ maxLen) (hes : es.length ≤ maxLen) (hl' : ∀ f ∈ l, f.cases'.length ≤ maxLen) (hes' : ∀ e ∈ es, e.l.length ≤ maxLen) : PL.Pure Try.prog 54 [flds l, ents es] (.bool (entriesB l es)) := by
  by_cases he : l.length = es.length
  · have he' : ((l.length : Int) != (es.length : Int)) = false := by rw [he]; exact bne_self_eq_false _
    have hx : entriesB l es = (List.range l.length).all (fun i => fitsE (l.getD i default) (es.getD i default)) := by simp only [entriesB, he, decide_true, Bool.true_and]
    rw [hx]
    refine PL.Pure.of_v Try.func54 (by decide) rfl Try.ntmps54 Try.results54 (by simp) rfl ?_
    simp only [go_sem, flds, ents, he']
    refine vLoopM (ι := { x : Nat // x ≤ (l).length ∧ (∀ j, j < x → fitsE (l.getD j default) (es.getD j default) = true) }) 27 (fun x => [(1, ents es), (12, flds l), (13, .int .i64 (l.length : Int)), (14, .int .i64 (x.1 : Int))]) (fun x => []) (fun x => []) (fun x => (l).length - x.1) ⟨0, Nat.zero_le _, fun j hj => absurd hj (Nat.not_lt_zero j)⟩ ⟨rfl, (forall_cons rfl (forall_cons rfl (forall_cons rfl (forall_cons rfl forall_nil)))), forall_nil, forall_nil⟩ (fun x => ⟨(forall_cons rfl (forall_cons rfl (forall_cons rfl (forall_cons rfl forall_nil)))), forall_nil⟩) (fun x => ?_); obtain ⟨k, hk, hI⟩ := x; simp only at hk hI ⊢
    by_cases h : (k : Int) < (l.length : Int)
    · (have hka : k < (l).length := by omega); (have w1 := w64s hka (hl)); (have i1 : (0 : Int) ≤ (k : Int) := by omega)
      have hkb : k < es.length := by omega
      have i2 : (k : Int) < (es.length : Int) := by omega
      have hF := DFits_pure (l.getD k default) (es.getD k default) (hl' _ (getD_mem' hka)) (hes' _ (getD_mem' hkb))
      cases hf : fitsE (l.getD k default) (es.getD k default)
      · rw [hf] at hF
        have hz := rall_false (p := fun i => fitsE (l.getD i default) (es.getD i default)) hka hf
        simp only [go_sem, flds, ents, h, i1, getD_fld hka, fld]
        refine vDrawQ (by kernel_rfl) (by kernel_rfl) ?_
        simp only [go_sem, getD_ent' hkb, ent, i1, i2]
        refine vCall_of (hF) ?_ ?_ ?_; (focus simp only [go_sem, fld, ent]); (focus simp only [go_sem, fld, ent])
        simp only [go_sem, hz]
      · rw [hf] at hF
        simp only [go_sem, flds, ents, h, i1, getD_fld hka, fld]
        refine vDrawQ (by kernel_rfl) (by kernel_rfl) ?_
        simp only [go_sem, getD_ent' hkb, ent, i1, i2]
        refine vCall_of (hF) ?_ ?_ ?_; (focus simp only [go_sem, fld, ent]); (focus simp only [go_sem, fld, ent])
        simp only [go_sem, w1]
        exact ⟨⟨k + 1, by (try simp only); omega, below_succ hI hf⟩, by show (l).length - (k + 1) < (l).length - k; omega, ⟨rfl, (forall_cons rfl (forall_cons rfl (forall_cons rfl (forall_cons rfl forall_nil)))), forall_nil, forall_nil⟩⟩
    · have hz := rall_true (p := fun i => fitsE (l.getD i default) (es.getD i default)) (n := l.length) (fun j hj => hI j (by omega))
      simp only [go_sem, h, hz]
  · have he' : ((l.length : Int) != (es.length : Int)) = true := bne_iff_ne.2 (by omega)
    have hx : entriesB l es = false := by simp only [entriesB, he, decide_false, Bool.false_and]
    rw [hx]
    refine PL.Pure.of_v Try.func54 (by decide) rfl Try.ntmps54 Try.results54 (by simp) rfl ?_
    simp only [go_sem, flds, ents, he']
end Go.Proofs.Ytmnibpgmcgdfpaa

set_option linter.unusedSimpArgs false
set_option linter.unusedVariables false
set_option linter.unusedSimpArgs false
set_option linter.unusedVariables false
namespace Go.Proofs.Ytmnibpgmcgdfpaa
open Go.PL
set_option maxRecDepth 20000 in
set_option maxHeartbeats 16000000 in
theorem DRight_pure (l : List Fd) (d : Dc) (hl : l.length ≤ maxLen) (hl' : ∀ f ∈ l, f.cases'.length ≤ 1000000) (hd : Fine d) : PL.Pure Try.prog 23 [flds l, doc d] (.bool (rightD l d)) := by
  obtain ⟨d1, d2, d3, d4⟩ := hd
  have hl2 : ∀ f ∈ l, f.cases'.length ≤ maxLen := fun f hf => by have := hl' f hf; rw [maxLen_eq]; omega
  have hR := SRight_pure l hl hl2
  cases hr : rightL l
  · rw [hr] at hR
    have hx : rightD l d = false := by simp only [rightD, headOk, hr, Bool.false_and]
    refine PL.Pure.of_v Try.func23 (by decide) rfl Try.ntmps23 Try.results23 (by simp) rfl ?_
    simp only [go_sem, flds, doc]
    refine vCall_of (hR) ?_ ?_ ?_; (focus simp only [go_sem, flds]); (focus simp only [go_sem, flds])
    simp only [go_sem, hx]
  · rw [hr] at hR
    have h16 := rightL_len hr
    have sl : ∀ sc, (scopeM l sc).length ≤ maxLen := fun sc => Nat.le_trans (List.length_filter_le _ _) hl
    have sc : ∀ s, ∀ f ∈ scopeM l s, f.cases'.length ≤ maxLen := fun s f hf => hl2 f (List.mem_filter.1 hf).1
    have hS0 := Scope_pure l 0 (by omega) hl'
    have hS1 := Scope_pure l 1 (by omega) hl'
    by_cases h4 : (400 : Int) < (d.rows.length : Int)
    · have hx : rightD l d = false := by simp only [rightD, headOk, h4, decide_true, Bool.not_true, Bool.false_and, Bool.and_false]
      refine PL.Pure.of_v Try.func23 (by decide) rfl Try.ntmps23 Try.results23 (by simp) rfl ?_
      simp only [go_sem, flds, doc]
      refine vCall_of (hR) ?_ ?_ ?_; (focus simp only [go_sem, flds]); (focus simp only [go_sem, flds])
      simp only [go_sem, h4, hx]
    · have hE := rightEntries_pure (scopeM l 0) d.head (sl 0) d1 (sc 0) d3
      cases he : entriesB (scopeM l 0) d.head
      · rw [he] at hE
        have hx : rightD l d = false := by simp only [rightD, headOk, he, Bool.false_and, Bool.and_false]
        refine PL.Pure.of_v Try.func23 (by decide) rfl Try.ntmps23 Try.results23 (by simp) rfl ?_
        simp only [go_sem, flds, doc]
        refine vCall_of (hR) ?_ ?_ ?_; (focus simp only [go_sem, flds]); (focus simp only [go_sem, flds])
        simp only [go_sem, h4]
        refine vDrawQ (by kernel_rfl) (by kernel_rfl) ?_
        simp only [go_sem, flds]
        refine vCall_of (hS0) ?_ ?_ ?_; (focus simp only [go_sem, flds]); (focus simp only [go_sem, flds])
        simp only [go_sem, flds]
        refine vCall_of (hE) ?_ ?_ ?_; (focus simp only [go_sem, flds, ents]); (focus simp only [go_sem, flds, ents])
        simp only [go_sem, hx]
      · rw [he] at hE
        have hx : rightD l d = (List.range d.rows.length).all (rowOk l d.rows) := by simp only [rightD, headOk, hr, h4, he, decide_false, Bool.not_false, Bool.and_self, Bool.true_and]
        rw [hx]
        refine PL.Pure.of_v Try.func23 (by decide) rfl Try.ntmps23 Try.results23 (by simp) rfl ?_
        simp only [go_sem, flds, doc]
        refine vCall_of (hR) ?_ ?_ ?_; (focus simp only [go_sem, flds]); (focus simp only [go_sem, flds])
        simp only [go_sem, h4]
        refine vDrawQ (by kernel_rfl) (by kernel_rfl) ?_
        simp only [go_sem, flds]
        refine vCall_of (hS0) ?_ ?_ ?_; (focus simp only [go_sem, flds]); (focus simp only [go_sem, flds])
        simp only [go_sem, flds]
        refine vCall_of (hE) ?_ ?_ ?_; (focus simp only [go_sem, flds, ents]); (focus simp only [go_sem, flds, ents])
        simp only [go_sem, flds]
        refine vCall_of (hS1) ?_ ?_ ?_; (focus simp only [go_sem, flds]); (focus simp only [go_sem, flds])
        simp only [go_sem]
        refine vLoopM (ι := { x : Nat // x ≤ (d.rows).length ∧ (∀ j, j < x → rowOk l d.rows j = true) }) 59 (fun x => [(3, .ptr 3 0), (5, flds (scopeM l 1)), (26, .sl .no (d.rows.map row)), (27, .int .i64 (d.rows.length : Int)), (28, .int .i64 (x.1 : Int))]) (fun x => [(3, [.sl .no (d.head.map ent), .sl .no (d.rows.map row)], false)]) (fun x => []) (fun x => (d.rows).length - x.1) ⟨0, Nat.zero_le _, fun j hj => absurd hj (Nat.not_lt_zero j)⟩ ⟨rfl, (forall_cons rfl (forall_cons rfl (forall_cons rfl (forall_cons rfl (forall_cons rfl forall_nil))))), (forall_cons ⟨rfl, rfl⟩ forall_nil), forall_nil⟩ (fun x => ⟨(forall_cons rfl (forall_cons rfl (forall_cons (by simp [PV.ids, refInM]) (forall_cons (by simp [PV.ids, refInM]) (forall_cons rfl forall_nil))))), (forall_cons (by simp [PV.ids, PV.idsL, refInM]) forall_nil)⟩) (fun x => ?_); obtain ⟨k, hk, hI⟩ := x; simp only at hk hI ⊢
        by_cases h : (k : Int) < (d.rows.length : Int)
        · (have hka : k < (d.rows).length := by omega); (have w1 := w64s hka (d2)); (have i1 : (0 : Int) ≤ (k : Int) := by omega)
          have hN := Name_pure (d.rows.getD k default).item
          have rk := d4 _ (getD_mem' (d := default) hka)
          have hE1 := rightEntries_pure (scopeM l 1) (d.rows.getD k default).l (sl 1) rk.1 (sc 1) rk.2
          have gk := getD_row' hka
          cases hn : nameB (d.rows.getD k default).item
          · rw [hn] at hN
            have hz := rall_false (p := rowOk l d.rows) hka (by simp only [rowOk, hn, Bool.false_and])
            simp only [go_sem, h, gk, row, i1]
            refine vDrawQ (by kernel_rfl) (by kernel_rfl) ?_
            simp only [go_sem, h, gk, row, i1]
            refine vCall_of (hN) ?_ ?_ ?_; (focus simp only [go_sem]); (focus simp only [go_sem])
            simp only [go_sem, hz]
          · rw [hn] at hN
            by_cases h0 : 0 < (k : Int)
            · have hk1 : k - 1 < d.rows.length := by omega
              have gj := getD_row' hk1
              have w2 : IntKind.i64.wrap ((k : Int) - 1) = ((k - 1 : Nat) : Int) := by
                rw [maxLen_eq] at d2
                rw [w64 (by omega)]; omega
              have j1 : (0 : Int) ≤ ((k - 1 : Nat) : Int) := by omega
              have j2 : ((k - 1 : Nat) : Int) < (d.rows.length : Int) := by omega
              cases hb : bytesLt (d.rows.getD (k - 1) default).item (d.rows.getD k default).item
              · have hz := rall_false (p := rowOk l d.rows) hka (by simp only [rowOk, hb, decide_eq_false (show ¬ k = 0 by omega), Bool.or_self, Bool.and_false, Bool.false_and])
                simp only [go_sem, h, gk, row, i1]
                refine vDrawQ (by kernel_rfl) (by kernel_rfl) ?_
                simp only [go_sem, h, gk, row, i1]
                refine vCall_of (hN) ?_ ?_ ?_; (focus simp only [go_sem]); (focus simp only [go_sem])
                simp only [go_sem, h0, w2, gj, gk, row, h, i1, j1, j2, hb, hz]
              · cases hf : entriesB (scopeM l 1) (d.rows.getD k default).l
                · rw [hf] at hE1
                  have hz := rall_false (p := rowOk l d.rows) hka (by simp only [rowOk, hf, Bool.and_false])
                  simp only [go_sem, h, gk, row, i1]
                  refine vDrawQ (by kernel_rfl) (by kernel_rfl) ?_
                  simp only [go_sem, h, gk, row, i1]
                  refine vCall_of (hN) ?_ ?_ ?_; (focus simp only [go_sem]); (focus simp only [go_sem])
                  simp only [go_sem, h0, w2, gj, gk, row, h, i1, j1, j2, hb, flds]
                  refine vCall_of (hE1) ?_ ?_ ?_; (focus simp only [go_sem, flds, ents]); (focus simp only [go_sem, flds, ents])
                  simp only [go_sem, hz]
                · rw [hf] at hE1
                  have ok : rowOk l d.rows k = true := by simp only [rowOk, hn, hb, hf, Bool.or_true, Bool.and_self]
                  simp only [go_sem, h, gk, row, i1]
                  refine vDrawQ (by kernel_rfl) (by kernel_rfl) ?_
                  simp only [go_sem, h, gk, row, i1]
                  refine vCall_of (hN) ?_ ?_ ?_; (focus simp only [go_sem]); (focus simp only [go_sem])
                  simp only [go_sem, h0, w2, gj, gk, row, h, i1, j1, j2, hb, flds]
                  refine vCall_of (hE1) ?_ ?_ ?_; (focus simp only [go_sem, flds, ents]); (focus simp only [go_sem, flds, ents])
                  simp only [go_sem, w1]
                  exact ⟨⟨k + 1, by (try simp only); omega, below_succ hI ok⟩, by show (d.rows).length - (k + 1) < (d.rows).length - k; omega, ⟨rfl, (forall_cons rfl (forall_cons rfl (forall_cons rfl (forall_cons rfl (forall_cons rfl forall_nil))))), (forall_cons ⟨rfl, rfl⟩ forall_nil), forall_nil⟩⟩
            · have hk0 : k = 0 := by omega
              cases hf : entriesB (scopeM l 1) (d.rows.getD k default).l
              · rw [hf] at hE1
                have hz := rall_false (p := rowOk l d.rows) hka (by simp only [rowOk, hf, Bool.and_false])
                simp only [go_sem, h, gk, row, i1]
                refine vDrawQ (by kernel_rfl) (by kernel_rfl) ?_
                simp only [go_sem, h, gk, row, i1]
                refine vCall_of (hN) ?_ ?_ ?_; (focus simp only [go_sem]); (focus simp only [go_sem])
                simp only [go_sem, h0, gk, row, h, i1, flds]
                refine vCall_of (hE1) ?_ ?_ ?_; (focus simp only [go_sem, flds, ents]); (focus simp only [go_sem, flds, ents])
                simp only [go_sem, hz]
              · rw [hf] at hE1
                have ok : rowOk l d.rows k = true := by simp only [rowOk, hn, decide_eq_true hk0, hf, Bool.true_or, Bool.and_self]
                simp only [go_sem, h, gk, row, i1]
                refine vDrawQ (by kernel_rfl) (by kernel_rfl) ?_
                simp only [go_sem, h, gk, row, i1]
                refine vCall_of (hN) ?_ ?_ ?_; (focus simp only [go_sem]); (focus simp only [go_sem])
                simp only [go_sem, h0, gk, row, h, i1, flds]
                refine vCall_of (hE1) ?_ ?_ ?_; (focus simp only [go_sem, flds, ents]); (focus simp only [go_sem, flds, ents])
                simp only [go_sem, w1]
                exact ⟨⟨k + 1, by (try simp only); omega, below_succ hI ok⟩, by show (d.rows).length - (k + 1) < (d.rows).length - k; omega, ⟨rfl, (forall_cons rfl (forall_cons rfl (forall_cons rfl (forall_cons rfl (forall_cons rfl forall_nil))))), (forall_cons ⟨rfl, rfl⟩ forall_nil), forall_nil⟩⟩
        · have hz := rall_true (p := rowOk l d.rows) (n := d.rows.length) (fun j hj => hI j (by omega))
          simp only [go_sem, h, hz]
theorem sized_row (l : List Rw) : Sized 2 (l.map row) := fun e he => by
  obtain ⟨x, _, rfl⟩ := List.mem_map.1 he; rfl
end Go.Proofs.Ytmnibpgmcgdfpaa

set_option linter.unusedSimpArgs false
set_option linter.unusedVariables false
set_option linter.unusedSimpArgs false
set_option linter.unusedVariables false
namespace Go.Proofs.Ytmnibpgmcgdfpaa
open Go.PL
theorem atoms_row (l : List Rw) : Atoms (l.map row) := fun e he => by
  obtain ⟨t, _, rfl⟩ := List.mem_map.1 he
  rfl
theorem row_dids (r : Rw) : (row r).dids = [] := by simp only [row, PV.dids, PV.didsL, didsL_ent, List.append_nil]
theorem didsL_row (l : List Rw) : PV.didsL (l.map row) = [] := by
  induction l with
  | nil => rfl
  | cons t l ih => simp only [List.map_cons, PV.didsL, ih, row_dids, List.append_nil]
theorem doc_dids (d : Dc) : (doc d).dids = [] := by simp only [doc, PV.dids, PV.didsL, didsL_ent, didsL_row, List.append_nil]
end Go.Proofs.Ytmnibpgmcgdfpaa

set_option linter.unusedSimpArgs false
set_option linter.unusedVariables false
set_option linter.unusedSimpArgs false
set_option linter.unusedVariables false
namespace Go.Proofs.Ytmnibpgmcgdfpaa
open Go.PL
structure Cg where
  kind : Int
  item : Str
  was : En
  now : En
  l : List En
deriving DecidableEq, Inhabited
def chg (c : Cg) : PV := .agg [.int .i64 c.kind, .str c.item, .int .i64 c.was.at'.sc, .str c.was.at'.gr, .str c.was.at'.nm, .int .i64 c.was.n, .sl .no (c.was.l.map .str), .int .i64 c.now.at'.sc, .str c.now.at'.gr, .str c.now.at'.nm, .int .i64 c.now.n, .sl .no (c.now.l.map .str), .sl .no (c.l.map ent)]
def chgs (l : List Cg) : PV := .sl .no (l.map chg)
structure FineC (c : Cg) : Prop where
  w : c.was.l.length ≤ maxLen
  n : c.now.l.length ≤ maxLen
  l : c.l.length ≤ maxLen
  e : ∀ e ∈ c.l, e.l.length ≤ maxLen
theorem getD_chg {l : List Cg} {i : Nat} (h : i < l.length) : (l.map chg).getD i .any = chg (l.getD i default) := getD_map h
set_option maxHeartbeats 4000000 in
theorem ROne_pure (e : En) : PL.Pure Try.prog 39 [ent e] (ents [e]) := by
  refine PL.Pure.of_v Try.func39 (by decide) rfl Try.ntmps39 Try.results39 (by simp) (ents_dids _) ?_
  simp only [go_sem, ent, ents]
set_option maxRecDepth 20000 in
set_option maxHeartbeats 16000000 in
theorem RSameC_pure (a b : Cg) (ha : FineC a) (hb : FineC b) : PL.Pure Try.prog 15 [chg a, chg b] (.bool (decide (a = b))) := by
  have h1 := ROne_pure a.was
  have h2 := ROne_pure b.was
  have h3 := ROne_pure a.now
  have h4 := ROne_pure b.now
  have one : (1 : Nat) ≤ maxLen := by rw [maxLen_eq]; omega
  have hS1 := SameEntries_pure [a.was] [b.was] one one (by simpa using ha.w) (by simpa using hb.w)
  have hS2 := SameEntries_pure [a.now] [b.now] one one (by simpa using ha.n) (by simpa using hb.n)
  have hS3 := SameEntries_pure a.l b.l ha.l hb.l ha.e hb.e
  have hf : decide (a = b) = (decide (a.kind = b.kind) && (decide (a.item = b.item) && (decide (a.was = b.was) && (decide (a.now = b.now) && decide (a.l = b.l))))) := by
    clear h1 h2 h3 h4 hS1 hS2 hS3 ha hb
    cases a; cases b
    simp only [Cg.mk.injEq]
    simp only [Bool.decide_and]
  rw [hf]
  have e1 : (a.kind == b.kind) = decide (a.kind = b.kind) := rfl
  have e2 : (a.item == b.item) = decide (a.item = b.item) := by rw [Bool.eq_iff_iff]; simp
  simp only [List.cons.injEq, and_true] at hS1 hS2
  refine PL.Pure.of_v Try.func15 (by decide) rfl Try.ntmps15 Try.results15 (by simp) rfl ?_
  simp only [go_sem, chg]
  refine vDrawQ (by kernel_rfl) (by kernel_rfl) ?_
  cases k1 : decide (a.kind = b.kind)
  · simp only [go_sem, chg, e1, k1, Bool.false_and]
  · cases k2 : decide (a.item = b.item)
    · simp only [go_sem, chg, e1, k1, e2, k2, Bool.false_and, Bool.and_false]
    · simp only [go_sem, chg, e1, k1, e2, k2]
      refine vCall_of (h1) ?_ ?_ ?_; (focus simp only [go_sem, ent]); (focus simp only [go_sem, ent])
      simp only [go_sem, chg]
      refine vCall_of (h2) ?_ ?_ ?_; (focus simp only [go_sem, ent]); (focus simp only [go_sem, ent])
      simp only [go_sem]
      refine vCall_of (hS1) ?_ ?_ ?_; (focus simp only [go_sem, ents]); (focus simp only [go_sem, ents])
      cases k3 : decide (a.was = b.was)
      · simp only [go_sem, chg, k3, Bool.false_and, Bool.and_false, Bool.true_and]
      · simp only [go_sem, chg, k3]
        refine vCall_of (h3) ?_ ?_ ?_; (focus simp only [go_sem, ent]); (focus simp only [go_sem, ent])
        simp only [go_sem, chg]
        refine vCall_of (h4) ?_ ?_ ?_; (focus simp only [go_sem, ent]); (focus simp only [go_sem, ent])
        simp only [go_sem]
        refine vCall_of (hS2) ?_ ?_ ?_; (focus simp only [go_sem, ents]); (focus simp only [go_sem, ents])
        cases k4 : decide (a.now = b.now)
        · simp only [go_sem, chg, k4, Bool.false_and, Bool.and_false, Bool.true_and]
        · simp only [go_sem, chg, k4]
          refine vCall_of (hS3) ?_ ?_ ?_; (focus simp only [go_sem, ents]); (focus simp only [go_sem, ents])
          simp only [go_sem, Bool.true_and]
set_option maxHeartbeats 8000000 in
theorem RSameAllC_pure (a b : List Cg) (ha : a.length ≤ maxLen) (hb : b.length ≤ maxLen) (oa : ∀ c ∈ a, FineC c) (ob : ∀ c ∈ b, FineC c) : PL.Pure Try.prog 12 [chgs a, chgs b] (.bool (decide (a = b))) := by
  by_cases hl : a.length = b.length
  · have hne : ((a.length : Int) != (b.length : Int)) = false := by simp [hl]
    refine PL.Pure.of_v Try.func12 (by decide) rfl Try.ntmps12 Try.results12 (by simp) rfl ?_
    simp only [go_sem, chgs, hne]
    refine vLoopM (ι := { x : Nat // x ≤ (a).length ∧ (∀ j, j < x → a.getD j default = b.getD j default) }) 27 (fun x => [(0, chgs a), (1, chgs b), (5, .int .i64 (x.1 : Int))]) (fun x => []) (fun x => []) (fun x => (a).length - x.1) ⟨0, Nat.zero_le _, fun j hj => absurd hj (Nat.not_lt_zero j)⟩ ⟨rfl, (forall_cons rfl (forall_cons rfl (forall_cons rfl forall_nil))), forall_nil, forall_nil⟩ (fun x => ⟨(forall_cons rfl (forall_cons rfl (forall_cons rfl forall_nil))), forall_nil⟩) (fun x => ?_); obtain ⟨k, hk, hI⟩ := x; simp only at hk hI ⊢
    by_cases h : (k : Int) < (a.length : Int)
    · (have hka : k < (a).length := by omega); (have w1 := w64s hka (ha)); (have i1 : (0 : Int) ≤ (k : Int) := by omega)
      have hkb : k < b.length := by omega
      have h' : (k : Int) < (b.length : Int) := by omega
      have hS := RSameC_pure (a.getD k default) (b.getD k default) (oa _ (getD_mem' hka)) (ob _ (getD_mem' hkb))
      by_cases he : a.getD k default = b.getD k default
      · rw [decide_eq_true he] at hS
        simp only [go_sem, chgs, h]
        refine vDrawQ (by kernel_rfl) (by kernel_rfl) ?_
        simp only [go_sem, getD_chg hka, getD_chg hkb, chg, i1, h, h']
        refine vCall_of (hS) ?_ ?_ ?_; (focus simp only [go_sem, chg]); (focus simp only [go_sem, chg])
        simp only [go_sem, w1]
        exact ⟨⟨k + 1, by (try simp only); omega, below_succ hI he⟩, by show (a).length - (k + 1) < (a).length - k; omega, ⟨rfl, (forall_cons rfl (forall_cons rfl (forall_cons rfl forall_nil))), forall_nil, forall_nil⟩⟩
      · rw [decide_eq_false he] at hS
        have hab : ¬ a = b := ne_of_getD he
        simp only [go_sem, chgs, h]
        refine vDrawQ (by kernel_rfl) (by kernel_rfl) ?_
        simp only [go_sem, getD_chg hka, getD_chg hkb, chg, i1, h, h']
        refine vCall_of (hS) ?_ ?_ ?_; (focus simp only [go_sem, chg]); (focus simp only [go_sem, chg])
        simp only [go_sem, hab]
    · have hab : decide (a = b) = true := decide_eq_true (eq_of_getD (d := default) hl fun j hj => hI j (by omega))
      simp only [go_sem, chgs, h, hab]
  · have hne : ((a.length : Int) != (b.length : Int)) = true := bne_iff_ne.2 (by omega)
    have hab : ¬ a = b := fun e => hl (by rw [e])
    refine PL.Pure.of_v Try.func12 (by decide) rfl Try.ntmps12 Try.results12 (by simp) rfl ?_
    simp only [go_sem, chgs, hne, hab]
end Go.Proofs.Ytmnibpgmcgdfpaa

set_option linter.unusedSimpArgs false
set_option linter.unusedVariables false
set_option linter.unusedSimpArgs false
set_option linter.unusedVariables false
namespace Go.Proofs.Ytmnibpgmcgdfpaa
open Go.PL
set_option maxRecDepth 20000 in
set_option maxHeartbeats 8000000 in
theorem DEqual_pure (a b : En) (ha : a.l.length ≤ maxLen) (hb : b.l.length ≤ maxLen) : PL.Pure Try.prog 43 [ent a, ent b] (.bool (decide (a = b))) := by
  have hE := EqStr_pure a.l b.l ha hb
  refine PL.Pure.of_v Try.func43 (by decide) rfl Try.ntmps43 Try.results43 (by simp) rfl ?_
  simp only [go_sem, ent, ref_fold, List.append_eq, List.cons_append]
  repeat' (first | (refine vGuard_t (fun h => ?_) (fun h => ?_) <;> (try simp only [go_sem, h, ref_fold])) | (refine vGuard_f (fun h => ?_) (fun h => ?_) <;> (try simp only [go_sem, h, ref_fold])) | (refine vCond_b (fun h => ?_) (fun h => ?_) <;> (try simp only [go_sem, h, ref_fold])) | ((refine vCall_of (hE) ?_ ?_ ?_); (focus simp only [go_sem, strs]); (focus exact rfl); (try simp only [go_sem, ref_fold])) | ((refine vDrawQ (by kernel_rfl) (by kernel_rfl) ?_); (try simp only [go_sem, ref_fold])))
  all_goals (clear hE ha hb; (cases a; cases b; simp_all) <;> rfl)
set_option maxRecDepth 20000 in
set_option maxHeartbeats 16000000 in
theorem EqEnts_pure (a b : List En) (ha : a.length ≤ maxLen) (hb : b.length ≤ maxLen) (ha' : ∀ e ∈ a, e.l.length ≤ maxLen) (hb' : ∀ e ∈ b, e.l.length ≤ maxLen) : PL.Pure Try.prog 44 [ents a, ents b, .fn 43 []] (.bool (decide (a = b))) := by
  by_cases hl : a.length = b.length
  · have hne : ((a.length : Int) != (b.length : Int)) = false := by simp [hl]
    refine PL.Pure.of_v Try.func44 (by decide) rfl Try.ntmps44 Try.results44 (by simp) rfl ?_
    simp only [go_sem, ents, hne, List.length_map]
    refine vLoopM (ι := { x : Nat // x ≤ (a).length ∧ (∀ j, j < x → a.getD j default = b.getD j default) }) 32 (fun x => [(1, ents b), (2, .fn 43 []), (15, ents a), (16, .int .i64 (a.length : Int)), (17, .int .i64 (x.1 : Int))]) (fun x => []) (fun x => []) (fun x => (a).length - x.1) ⟨0, Nat.zero_le _, fun j hj => absurd hj (Nat.not_lt_zero j)⟩ ⟨rfl, (forall_cons rfl (forall_cons rfl (forall_cons rfl (forall_cons rfl (forall_cons rfl forall_nil))))), forall_nil, forall_nil⟩ (fun x => ⟨(forall_cons rfl (forall_cons rfl (forall_cons rfl (forall_cons rfl (forall_cons rfl forall_nil))))), forall_nil⟩) (fun x => ?_); obtain ⟨k, hk, hI⟩ := x; simp only at hk hI ⊢
    by_cases h : (k : Int) < (a.length : Int)
    · (have hka : k < (a).length := by omega); (have w1 := w64s hka (ha)); (have i1 : (0 : Int) ≤ (k : Int) := by omega)
      have hkb : k < b.length := by omega
      have h' : (k : Int) < (b.length : Int) := by omega
      have hS := DEqual_pure (a.getD k default) (b.getD k default) (ha' _ (getD_mem' hka)) (hb' _ (getD_mem' hkb))
      by_cases he : a.getD k default = b.getD k default
      · rw [decide_eq_true he] at hS
        simp only [go_sem, ents, List.length_map, getD_ent' hka, getD_ent' hkb, ent, i1, h, h']
        refine vCall_of (hS) ?_ ?_ ?_; (focus simp only [go_sem, ent]); (focus simp only [go_sem, ent])
        simp only [go_sem, w1]
        exact ⟨⟨k + 1, by (try simp only); omega, below_succ hI he⟩, by show (a).length - (k + 1) < (a).length - k; omega, ⟨rfl, (forall_cons rfl (forall_cons rfl (forall_cons rfl (forall_cons rfl (forall_cons rfl forall_nil))))), forall_nil, forall_nil⟩⟩
      · rw [decide_eq_false he] at hS
        have hab : ¬ a = b := ne_of_getD he
        simp only [go_sem, ents, List.length_map, getD_ent' hka, getD_ent' hkb, ent, i1, h, h']
        refine vCall_of (hS) ?_ ?_ ?_; (focus simp only [go_sem, ent]); (focus simp only [go_sem, ent])
        simp only [go_sem, hab]
    · have hab : decide (a = b) = true := decide_eq_true (eq_of_getD (d := default) hl fun j hj => hI j (by omega))
      simp only [go_sem, ents, h, hab]
  · have hne : ((a.length : Int) != (b.length : Int)) = true := bne_iff_ne.2 (by omega)
    have hab : ¬ a = b := fun e => hl (by rw [e])
    refine PL.Pure.of_v Try.func44 (by decide) rfl Try.ntmps44 Try.results44 (by simp) rfl ?_
    simp only [go_sem, ents, hne, hab, List.length_map]
set_option maxRecDepth 20000 in
set_option maxHeartbeats 16000000 in
theorem DSameC_pure (a b : Cg) (ha : FineC a) (hb : FineC b) : PL.Pure Try.prog 14 [chg a, chg b] (.bool (decide (a = b))) := by
  have hS1 := DEqual_pure a.was b.was ha.w hb.w
  have hS2 := DEqual_pure a.now b.now ha.n hb.n
  have hS3 := EqEnts_pure a.l b.l ha.l hb.l ha.e hb.e
  have hf : decide (a = b) = (decide (a.kind = b.kind) && (decide (a.item = b.item) && (decide (a.was = b.was) && (decide (a.now = b.now) && decide (a.l = b.l))))) := by
    clear hS1 hS2 hS3 ha hb
    cases a; cases b
    simp only [Cg.mk.injEq]
    simp only [Bool.decide_and]
  rw [hf]
  have e1 : (a.kind == b.kind) = decide (a.kind = b.kind) := rfl
  have e2 : (a.item == b.item) = decide (a.item = b.item) := by rw [Bool.eq_iff_iff]; simp
  refine PL.Pure.of_v Try.func14 (by decide) rfl Try.ntmps14 Try.results14 (by simp) rfl ?_
  cases k1 : decide (a.kind = b.kind)
  · simp only [go_sem, chg, e1, k1, Bool.false_and]
  · cases k2 : decide (a.item = b.item)
    · simp only [go_sem, chg, e1, k1, e2, k2, Bool.false_and, Bool.and_false]
    · simp only [go_sem, chg, e1, k1, e2, k2]
      refine vCall_of (hS1) ?_ ?_ ?_; (focus simp only [go_sem, ent]); (focus simp only [go_sem, ent])
      cases k3 : decide (a.was = b.was)
      · simp only [go_sem, chg, k3, Bool.false_and, Bool.and_false, Bool.true_and]
      · simp only [go_sem, chg, k3]
        refine vCall_of (hS2) ?_ ?_ ?_; (focus simp only [go_sem, ent]); (focus simp only [go_sem, ent])
        cases k4 : decide (a.now = b.now)
        · simp only [go_sem, chg, k4, Bool.false_and, Bool.and_false, Bool.true_and]
        · simp only [go_sem, chg, k4]
          refine vCall_of (hS3) ?_ ?_ ?_; (focus simp only [go_sem, ents]); (focus simp only [go_sem, ents])
          simp only [go_sem, Bool.true_and]
end Go.Proofs.Ytmnibpgmcgdfpaa

set_option linter.unusedSimpArgs false
set_option linter.unusedVariables false
set_option linter.unusedSimpArgs false
set_option linter.unusedVariables false
namespace Go.Proofs.Ytmnibpgmcgdfpaa
open Go.PL
def docOfC (c : Cg) : Dc := ⟨[c.was], [⟨[], [c.now]⟩, ⟨[], c.l⟩]⟩
def heavyC (c : Cg) : Bool := longB 200 c.item || heavyD (docOfC c)
def heavyCs (l : List Cg) : Bool := decide (200 < (l.length : Int)) || l.any heavyC
theorem fineDocC {c : Cg} (h : FineC c) : Fine (docOfC c) := by
  have one : ∀ n : Nat, n ≤ 2 → n ≤ maxLen := fun n hn => by rw [maxLen_eq]; omega
  refine ⟨one _ (by simp [docOfC]), one _ (by simp [docOfC]), fun e he => ?_, fun r hr => ?_⟩
  · simp only [docOfC, List.mem_singleton] at he; subst he; exact h.w
  · simp only [docOfC, List.mem_cons, List.mem_nil_iff, or_false] at hr
    rcases hr with rfl | rfl
    · exact ⟨one _ (by simp), fun e he => by simp only [List.mem_singleton] at he; subst he; exact h.n⟩
    · exact ⟨h.l, h.e⟩
set_option maxRecDepth 20000 in
set_option maxHeartbeats 16000000 in
theorem RHeavyC_pure (l : List Cg) (hl : l.length ≤ maxLen) (hl' : ∀ c ∈ l, FineC c) : PL.Pure Try.prog 10 [chgs l] (.bool (heavyCs l)) := by
  unfold heavyCs
  by_cases c1 : 200 < (l.length : Int)
  · refine PL.Pure.of_v Try.func10 (by decide) rfl Try.ntmps10 Try.results10 (by simp) rfl ?_
    simp only [go_sem, chgs, c1, List.length_map]
  · refine PL.Pure.of_v Try.func10 (by decide) rfl Try.ntmps10 Try.results10 (by simp) rfl ?_
    simp only [go_sem, chgs, c1, List.length_map]
    refine vLoopM (ι := { x : Nat // x ≤ (l).length ∧ (∀ j, j < x → heavyC (l.getD j default) = false) }) 44 (fun x => [(0, chgs l), (3, .int .i64 (x.1 : Int))]) (fun x => []) (fun x => []) (fun x => (l).length - x.1) ⟨0, Nat.zero_le _, fun j hj => absurd hj (Nat.not_lt_zero j)⟩ ⟨rfl, (forall_cons rfl (forall_cons rfl forall_nil)), forall_nil, forall_nil⟩ (fun x => ⟨(forall_cons rfl (forall_cons rfl forall_nil)), forall_nil⟩) (fun x => ?_); obtain ⟨k, hk, hI⟩ := x; simp only at hk hI ⊢
    by_cases h : (k : Int) < (l.length : Int)
    · (have hka : k < (l).length := by omega); (have w1 := w64s hka (hl)); (have i1 : (0 : Int) ≤ (k : Int) := by omega)
      have hO1 := ROne_pure (l.getD k default).was
      have hO2 := ROne_pure (l.getD k default).now
      have hH := Heavy_pure _ (fineDocC (hl' _ (getD_mem' (d := default) hka)))
      simp only [docOfC] at hH
      generalize hx : l.getD k default = x at *
      have hge := getD_chg hka
      rw [hx] at hge
      by_cases c2 : 200 < (x.item.length : Int)
      · have hz := any_true (p := heavyC) hka (show heavyC (l.getD k default) = true by rw [hx]; unfold heavyC longB; rw [decide_eq_true (by omega)]; rfl)
        simp only [go_sem, chgs, h, List.length_map]
        refine vDrawQ (by kernel_rfl) (by kernel_rfl) ?_
        simp only [go_sem, hge, chg, i1, h, c2, hz, Bool.or_true]
      · have hlb : longB 200 x.item = false := by unfold longB; exact decide_eq_false (by omega)
        cases hd : heavyD ⟨[x.was], [⟨[], [x.now]⟩, ⟨[], x.l⟩]⟩
        · rw [hd] at hH
          have hc : heavyC (l.getD k default) = false := by rw [hx]; unfold heavyC docOfC; rw [hlb, hd]; rfl
          simp only [go_sem, chgs, h, List.length_map]
          refine vDrawQ (by kernel_rfl) (by kernel_rfl) ?_
          simp only [go_sem, hge, chg, i1, h, c2]
          refine vCall_of (hO1) ?_ ?_ ?_; (focus simp only [go_sem, ent]); (focus simp only [go_sem, ent])
          simp only [go_sem, ents, hge, chg, i1, h]
          refine vCall_of (hO2) ?_ ?_ ?_; (focus simp only [go_sem, ent]); (focus simp only [go_sem, ent])
          simp only [go_sem, ents, hge, chg, i1, h]
          refine vCall_of (hH) ?_ ?_ ?_; (focus simp only [go_sem, doc, row, List.map_cons, List.map_nil]); (focus simp only [go_sem, doc, row, List.map_cons, List.map_nil])
          simp only [go_sem, w1]
          exact ⟨⟨k + 1, by (try simp only); omega, below_succ hI hc⟩, by show (l).length - (k + 1) < (l).length - k; omega, ⟨rfl, (forall_cons rfl (forall_cons rfl forall_nil)), forall_nil, forall_nil⟩⟩
        · rw [hd] at hH
          have hz := any_true (p := heavyC) hka (show heavyC (l.getD k default) = true by rw [hx]; unfold heavyC docOfC; rw [hd, Bool.or_true])
          simp only [go_sem, chgs, h, List.length_map]
          refine vDrawQ (by kernel_rfl) (by kernel_rfl) ?_
          simp only [go_sem, hge, chg, i1, h, c2]
          refine vCall_of (hO1) ?_ ?_ ?_; (focus simp only [go_sem, ent]); (focus simp only [go_sem, ent])
          simp only [go_sem, ents, hge, chg, i1, h]
          refine vCall_of (hO2) ?_ ?_ ?_; (focus simp only [go_sem, ent]); (focus simp only [go_sem, ent])
          simp only [go_sem, ents, hge, chg, i1, h]
          refine vCall_of (hH) ?_ ?_ ?_; (focus simp only [go_sem, doc, row, List.map_cons, List.map_nil]); (focus simp only [go_sem, doc, row, List.map_cons, List.map_nil])
          simp only [go_sem, hz, Bool.or_true]
    · have hz := any_false (p := heavyC) (d := default) (l := l) (fun j hj => hI j (by omega))
      simp only [go_sem, chgs, h, hz, c1, decide_false, Bool.or_false]
end Go.Proofs.Ytmnibpgmcgdfpaa
