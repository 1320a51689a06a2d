/- Contracts of functions and laws of this seat, each for every input that it names: lemmas of the proof. -/
import Derived.Test.YtmnibpgmcgdfpaaXAh
set_option linter.unusedSimpArgs false
set_option linter.unusedVariables false
set_option linter.unusedSimpArgs false
set_option linter.unusedVariables false
namespace Go.Proofs.Ytmnibpgmcgdfpaa
open Go.PL
def fldOk (l : List Fd) (i : Nat) : Bool := rightF (l.getD i default) && (decide (i = 0) || lessB (l.getD (i - 1) default).at' (l.getD i default).at')
def rightL (l : List Fd) : Bool := !decide (16 < (l.length : Int)) && (List.range l.length).all (fldOk l)
set_option maxRecDepth 20000 in
set_option maxHeartbeats 8000000 in
theorem RRightL_pure (l : List Fd) (hl : l.length ≤ maxLen) (hl' : ∀ f ∈ l, f.cases'.length ≤ maxLen) : PL.Pure Try.prog 57 [flds l] (.bool (rightL l)) := by
  by_cases h16 : 16 < (l.length : Int)
  · refine PL.Pure.of_v Try.func57 (by decide) rfl Try.ntmps57 Try.results57 (by simp) rfl ?_
    simp only [go_sem, flds, h16, rightL, Bool.false_and]
  · have hx : rightL l = (List.range l.length).all (fldOk l) := by simp only [rightL, h16, decide_false, Bool.not_false, Bool.true_and]
    rw [hx]
    refine PL.Pure.of_v Try.func57 (by decide) rfl Try.ntmps57 Try.results57 (by simp) rfl ?_
    simp only [go_sem, flds, h16]
    refine vLoopM (ι := { k : Nat // k ≤ l.length ∧ ∀ j, j < k → fldOk l j = true }) 38 (fun x => [(0, flds l), (3, .int .i64 (x.1 : Int))]) (fun x => []) (fun x => []) (fun x => l.length - x.1) ⟨0, by omega, fun j hj => by omega⟩
      ⟨rfl, (forall_cons rfl (forall_cons rfl (forall_nil))), forall_nil, forall_nil⟩ (fun x => ⟨(forall_cons rfl (forall_cons rfl (forall_nil))), forall_nil⟩) (fun x => ?_)
    obtain ⟨k, hk, hall⟩ := x
    simp only
    by_cases h : (k : Int) < (l.length : Int)
    · have hka : k < l.length := by omega
      have w1 := w64s hka hl
      have i1 : (0 : Int) ≤ (k : Int) := by omega
      have hR := RRight_pure (l.getD k default) (hl' _ (getD_mem' hka))
      cases hr : rightF (l.getD k default)
      · rw [hr] at hR
        have hz := rall_false (p := fldOk l) hka (by simp only [fldOk, hr, Bool.false_and])
        simp only [go_sem, flds, h]
        refine vDrawQ (by kernel_rfl) (by kernel_rfl) ?_
        simp only [go_sem, getD_fld hka, fld, h, i1]
        refine vCall_of (hR) ?_ ?_ ?_; (focus simp only [go_sem, fld]); (focus simp only [go_sem, fld])
        simp only [go_sem, hz]
      · rw [hr] at hR
        by_cases h0 : 0 < (k : Int)
        · have hk1 : k - 1 < l.length := by omega
          have w2 : IntKind.i64.wrap ((k : Int) - 1) = ((k - 1 : Nat) : Int) := by
            rw [maxLen_eq] at hl
            rw [w64 (by omega)]; omega
          have j1 : (0 : Int) ≤ ((k - 1 : Nat) : Int) := by omega
          have j2 : ((k - 1 : Nat) : Int) < (l.length : Int) := by omega
          have hL := RLess_pure (l.getD (k - 1) default).at' (l.getD k default).at'
          cases hb : lessB (l.getD (k - 1) default).at' (l.getD k default).at'
          · rw [hb] at hL
            have hz := rall_false (p := fldOk l) hka (by simp only [fldOk, hb, decide_eq_false (show ¬ k = 0 by omega), Bool.or_self, Bool.and_false])
            simp only [go_sem, flds, h]
            refine vDrawQ (by kernel_rfl) (by kernel_rfl) ?_
            simp only [go_sem, getD_fld hka, fld, h, i1]
            refine vCall_of (hR) ?_ ?_ ?_; (focus simp only [go_sem, fld]); (focus simp only [go_sem, fld])
            simp only [go_sem, h0, w2, getD_fld hk1, getD_fld hka, fld, h, i1, j1, j2]
            refine vCall_of (hL) ?_ ?_ ?_; (focus simp only [go_sem, ref]); (focus simp only [go_sem, ref])
            simp only [go_sem, hz]
          · rw [hb] at hL
            have ok : fldOk l k = true := by simp only [fldOk, hr, hb, Bool.or_true, Bool.and_self]
            simp only [go_sem, flds, h]
            refine vDrawQ (by kernel_rfl) (by kernel_rfl) ?_
            simp only [go_sem, getD_fld hka, fld, h, i1]
            refine vCall_of (hR) ?_ ?_ ?_; (focus simp only [go_sem, fld]); (focus simp only [go_sem, fld])
            simp only [go_sem, h0, w2, getD_fld hk1, getD_fld hka, fld, h, i1, j1, j2]
            refine vCall_of (hL) ?_ ?_ ?_; (focus simp only [go_sem, ref]); (focus simp only [go_sem, ref])
            simp only [go_sem, w1]
            exact ⟨⟨k + 1, by omega, below_succ hall ok⟩, by show l.length - (k + 1) < l.length - k; omega, ⟨rfl, (forall_cons rfl (forall_cons rfl (forall_nil))), forall_nil, forall_nil⟩⟩
        · have ok : fldOk l k = true := by simp only [fldOk, hr, decide_eq_true (show k = 0 by omega), Bool.true_or, Bool.and_self]
          simp only [go_sem, flds, h]
          refine vDrawQ (by kernel_rfl) (by kernel_rfl) ?_
          simp only [go_sem, getD_fld hka, fld, h, i1]
          refine vCall_of (hR) ?_ ?_ ?_; (focus simp only [go_sem, fld]); (focus simp only [go_sem, fld])
          simp only [go_sem, h0, w1]
          exact ⟨⟨k + 1, by omega, below_succ hall ok⟩, by show l.length - (k + 1) < l.length - k; omega, ⟨rfl, (forall_cons rfl (forall_cons rfl (forall_nil))), forall_nil, forall_nil⟩⟩
    · have hz := rall_true (p := fldOk l) (n := l.length) (fun j hj => hall j (by omega))
      simp only [go_sem, flds, h, hz]
def scopeM (l : List Fd) (sc : Int) : List Fd := l.filter fun f => f.at'.sc == sc
theorem map_fld (l : List Fd) (f : Fd) : l.map fld ++ [PV.agg [.int .i64 f.at'.sc, .str f.at'.gr, .str f.at'.nm, .int .i64 f.kind, .str f.df, .sl .no (f.cases'.map .str), .int .i64 f.worth]] = (l ++ [f]).map fld := by simp [fld]
set_option maxRecDepth 20000 in
set_option maxHeartbeats 8000000 in
theorem RScope_pure (l : List Fd) (sc : Int) (hl : l.length ≤ 1000000) : PL.Pure Try.prog 59 [flds l, .int .i64 sc] (flds (scopeM l sc)) := by
  have hm : l.length ≤ maxLen := by rw [maxLen_eq]; omega
  refine PL.Pure.of_v Try.func59 (by decide) rfl Try.ntmps59 Try.results59 (by simp) (flds_dids _) ?_
  simp only [go_sem, flds]
  refine awp_moveRow 5 7 28 0 7 76 [] rfl rfl rfl ?_
  refine vLoopM (ι := { k : Nat // k ≤ l.length }) 30 (fun x => [(0, flds l), (1, .int .i64 sc), (5, .sl (.row 28) ((scopeM (l.take x.1) sc).map fld)), (6, .int .i64 (x.1 : Int))]) (fun x => []) (fun x => [(28, .live (scopeM (l.take x.1) sc).length 7 76)]) (fun x => l.length - x.1) ⟨0, by omega⟩
    ⟨rfl, (forall_cons rfl (forall_cons rfl (forall_cons rfl (forall_cons rfl (forall_nil))))), forall_nil, (forall_cons rfl (forall_nil))⟩ (fun x => ⟨forall_cons rfl (forall_cons rfl (forall_cons (by simp [PV.ids, refInM]) (forall_cons rfl (forall_nil)))), forall_nil⟩) (fun x => ?_)
  obtain ⟨k, hk⟩ := x
  simp only
  by_cases h : (k : Int) < (l.length : Int)
  · have hka : k < l.length := by omega
    have w1 := w64s hka hm
    have i1 : (0 : Int) ≤ (k : Int) := by omega
    have hlen : (scopeM (l.take k) sc).length ≤ (l.take k).length := List.length_filter_le _ _
    have hlen2 : (l.take k).length ≤ k := List.length_take_le _ _
    have hr := room_small (show (scopeM (l.take k) sc).length + 1 ≤ 100000000000 by omega) (show 96 ≤ 1000 by omega)
    cases he : ((l.getD k default).at'.sc == sc)
    · have hs : scopeM (l.take (k + 1)) sc = scopeM (l.take k) sc := by
        rw [take_snoc hka (d := default)]
        simp only [scopeM, List.filter_append, List.filter_cons, he, Bool.false_eq_true, if_false, List.filter_nil, List.append_nil]
      simp only [go_sem, flds, h, getD_fld hka, fld, i1, he, w1]
      exact ⟨⟨k + 1, by omega⟩, by show l.length - (k + 1) < l.length - k; omega, ⟨rfl, forall_cons rfl (forall_cons rfl (forall_cons (by show PV.sl _ _ = PV.sl _ _; rw [hs]) (forall_cons rfl (forall_nil)))), forall_nil, forall_cons (by show some _ = some _; rw [hs]) forall_nil⟩⟩
    · have hs : scopeM (l.take (k + 1)) sc = scopeM (l.take k) sc ++ [l.getD k default] := by
        rw [take_snoc hka (d := default)]
        simp only [scopeM, List.filter_append, List.filter_cons, he, if_true, List.filter_nil]
      simp only [go_sem, flds, h, getD_fld hka, fld, i1, he, sized_fld, hr, w1]
      exact ⟨⟨k + 1, by omega⟩, by show l.length - (k + 1) < l.length - k; omega, ⟨rfl, forall_cons rfl (forall_cons rfl (forall_cons (by show PV.sl _ _ = PV.sl _ _; rw [hs, ← map_fld]) (forall_cons rfl (forall_nil)))), forall_nil, forall_cons (by show some _ = some _; rw [hs, List.length_append]; rfl) forall_nil⟩⟩
  · obtain rfl : k = l.length := by omega
    simp only [go_sem, h, flds, List.take_length]
def entriesB (l : List Fd) (es : List En) : Bool := decide (l.length = es.length) && (List.range l.length).all (fun i => fitsE (l.getD i default) (es.getD i default))
set_option maxRecDepth 20000 in
set_option maxHeartbeats 8000000 in
theorem REntries_pure (l : List Fd) (es : List En) (hl : l.length ≤ maxLen) (hes : es.length ≤ maxLen) (hl' : ∀ f ∈ l, f.cases'.length ≤ maxLen) (hes' : ∀ e ∈ es, e.l.length ≤ maxLen) : PL.Pure Try.prog 58 [flds l, ents es] (.bool (entriesB l es)) := by
  by_cases he : l.length = es.length
  · have he' : ((l.length : Int) != (es.length : Int)) = false := by rw [he]; exact bne_self_eq_false _
    have hx : entriesB l es = (List.range l.length).all (fun i => fitsE (l.getD i default) (es.getD i default)) := by simp only [entriesB, he, decide_true, Bool.true_and]
    rw [hx]
    refine PL.Pure.of_v Try.func58 (by decide) rfl Try.ntmps58 Try.results58 (by simp) rfl ?_
    simp only [go_sem, flds, ents, he']
    refine vLoopM (ι := { k : Nat // k ≤ l.length ∧ ∀ j, j < k → fitsE (l.getD j default) (es.getD j default) = true }) 27 (fun x => [(0, flds l), (1, ents es), (5, .int .i64 (x.1 : Int))]) (fun x => []) (fun x => []) (fun x => l.length - x.1) ⟨0, by omega, fun j hj => by omega⟩
      ⟨rfl, (forall_cons rfl (forall_cons rfl (forall_cons rfl (forall_nil)))), forall_nil, forall_nil⟩ (fun x => ⟨(forall_cons rfl (forall_cons rfl (forall_cons rfl (forall_nil)))), forall_nil⟩) (fun x => ?_)
    obtain ⟨k, hk, hall⟩ := x
    simp only
    by_cases h : (k : Int) < (l.length : Int)
    · have hka : k < l.length := by omega
      have hkb : k < es.length := by omega
      have w1 := w64s hka hl
      have i1 : (0 : Int) ≤ (k : Int) := by omega
      have i2 : (k : Int) < (es.length : Int) := by omega
      have hF := RFitsE_pure (l.getD k default) (es.getD k default) (hl' _ (getD_mem' hka)) (hes' _ (getD_mem' hkb))
      cases hf : fitsE (l.getD k default) (es.getD k default)
      · rw [hf] at hF
        have hz := rall_false (p := fun i => fitsE (l.getD i default) (es.getD i default)) hka hf
        simp only [go_sem, flds, ents, h]
        refine vDrawQ (by kernel_rfl) (by kernel_rfl) ?_
        simp only [go_sem, getD_fld hka, getD_ent hkb, fld, ent, h, i1, i2]
        refine vCall_of (hF) ?_ ?_ ?_; (focus simp only [go_sem, fld, ent]); (focus simp only [go_sem, fld, ent])
        simp only [go_sem, hz]
      · rw [hf] at hF
        simp only [go_sem, flds, ents, h]
        refine vDrawQ (by kernel_rfl) (by kernel_rfl) ?_
        simp only [go_sem, getD_fld hka, getD_ent hkb, fld, ent, h, i1, i2]
        refine vCall_of (hF) ?_ ?_ ?_; (focus simp only [go_sem, fld, ent]); (focus simp only [go_sem, fld, ent])
        simp only [go_sem, w1]
        exact ⟨⟨k + 1, by omega, below_succ hall hf⟩, by show l.length - (k + 1) < l.length - k; omega, ⟨rfl, (forall_cons rfl (forall_cons rfl (forall_cons rfl (forall_nil)))), forall_nil, forall_nil⟩⟩
    · have hz := rall_true (p := fun i => fitsE (l.getD i default) (es.getD i default)) (n := l.length) (fun j hj => hall j (by omega))
      simp only [go_sem, flds, ents, h, hz]
  · have he' : ((l.length : Int) != (es.length : Int)) = true := bne_iff_ne.2 (by omega)
    refine PL.Pure.of_v Try.func58 (by decide) rfl Try.ntmps58 Try.results58 (by simp) rfl ?_
    simp only [go_sem, flds, ents, he', entriesB, he, Bool.false_and]
end Go.Proofs.Ytmnibpgmcgdfpaa

set_option linter.unusedSimpArgs false
set_option linter.unusedVariables false
set_option linter.unusedSimpArgs false
set_option linter.unusedVariables false
namespace Go.Proofs.Ytmnibpgmcgdfpaa
open Go.PL
end Go.Proofs.Ytmnibpgmcgdfpaa

set_option linter.unusedSimpArgs false
set_option linter.unusedVariables false
set_option linter.unusedSimpArgs false
set_option linter.unusedVariables false
namespace Go.Proofs.Ytmnibpgmcgdfpaa
open Go.PL
def rowOk (l : List Fd) (rs : List Rw) (i : Nat) : Bool :=
  (nameB (rs.getD i default).item && (decide (i = 0) || bytesLt (rs.getD (i - 1) default).item (rs.getD i default).item)) && entriesB (scopeM l 1) (rs.getD i default).l
def headOk (l : List Fd) (d : Dc) : Bool := rightL l && (!decide (400 < (d.rows.length : Int)) && entriesB (scopeM l 0) d.head)
def rightD (l : List Fd) (d : Dc) : Bool := headOk l d && (List.range d.rows.length).all (rowOk l d.rows)
theorem rightL_len {l : List Fd} (h : rightL l = true) : l.length ≤ 16 := by
  simp only [rightL, Bool.and_eq_true, Bool.not_eq_true', decide_eq_false_iff_not] at h
  omega
set_option maxRecDepth 20000 in
set_option maxHeartbeats 8000000 in
theorem RRightD_pure (l : List Fd) (d : Dc) (hl : l.length ≤ maxLen) (hl' : ∀ f ∈ l, f.cases'.length ≤ maxLen) (hd : Fine d) : PL.Pure Try.prog 24 [flds l, doc d] (.bool (rightD l d)) := by
  obtain ⟨d1, d2, d3, d4⟩ := hd
  have hR := RRightL_pure l hl hl'
  cases hr : rightL l
  · rw [hr] at hR
    have hx : rightD l d = false := by simp only [rightD, headOk, hr, Bool.false_and]
    refine PL.Pure.of_v Try.func24 (by decide) rfl Try.ntmps24 Try.results24 (by simp) rfl ?_
    simp only [go_sem, flds, doc]
    refine vDrawQ (by kernel_rfl) (by kernel_rfl) ?_
    simp only [go_sem]
    refine vCall_of (hR) ?_ ?_ ?_; (focus simp only [go_sem, flds]); (focus simp only [go_sem, flds])
    simp only [go_sem, hx]
  · rw [hr] at hR
    have h16 := rightL_len hr
    have sl : ∀ sc, (scopeM l sc).length ≤ maxLen := fun sc => Nat.le_trans (List.length_filter_le _ _) hl
    have sc : ∀ s, ∀ f ∈ scopeM l s, f.cases'.length ≤ maxLen := fun s f hf => hl' f (List.mem_filter.1 hf).1
    have hS0 := RScope_pure l 0 (by omega)
    have hS1 := RScope_pure l 1 (by omega)
    by_cases h4 : (400 : Int) < (d.rows.length : Int)
    · have hx : rightD l d = false := by simp only [rightD, headOk, h4, decide_true, Bool.not_true, Bool.false_and, Bool.and_false]
      refine PL.Pure.of_v Try.func24 (by decide) rfl Try.ntmps24 Try.results24 (by simp) rfl ?_
      simp only [go_sem, flds, doc]
      refine vDrawQ (by kernel_rfl) (by kernel_rfl) ?_
      simp only [go_sem]
      refine vCall_of (hR) ?_ ?_ ?_; (focus simp only [go_sem, flds]); (focus simp only [go_sem, flds])
      simp only [go_sem, h4, hx]
    · have hE := REntries_pure (scopeM l 0) d.head (sl 0) d1 (sc 0) d3
      cases he : entriesB (scopeM l 0) d.head
      · rw [he] at hE
        have hx : rightD l d = false := by simp only [rightD, headOk, he, Bool.false_and, Bool.and_false]
        refine PL.Pure.of_v Try.func24 (by decide) rfl Try.ntmps24 Try.results24 (by simp) rfl ?_
        simp only [go_sem, flds, doc]
        refine vDrawQ (by kernel_rfl) (by kernel_rfl) ?_
        simp only [go_sem]
        refine vCall_of (hR) ?_ ?_ ?_; (focus simp only [go_sem, flds]); (focus simp only [go_sem, flds])
        simp only [go_sem, h4]
        refine vCall_of (hS0) ?_ ?_ ?_; (focus simp only [go_sem, flds]); (focus simp only [go_sem, flds])
        simp only [go_sem, flds]
        refine vCall_of (hE) ?_ ?_ ?_; (focus simp only [go_sem, flds, ents]); (focus simp only [go_sem, flds, ents])
        simp only [go_sem, hx]
      · rw [he] at hE
        have hx : rightD l d = (List.range d.rows.length).all (rowOk l d.rows) := by simp only [rightD, headOk, hr, h4, he, decide_false, Bool.not_false, Bool.and_self, Bool.true_and]
        rw [hx]
        refine PL.Pure.of_v Try.func24 (by decide) rfl Try.ntmps24 Try.results24 (by simp) rfl ?_
        simp only [go_sem, flds, doc]
        refine vDrawQ (by kernel_rfl) (by kernel_rfl) ?_
        simp only [go_sem]
        refine vCall_of (hR) ?_ ?_ ?_; (focus simp only [go_sem, flds]); (focus simp only [go_sem, flds])
        simp only [go_sem, h4]
        refine vCall_of (hS0) ?_ ?_ ?_; (focus simp only [go_sem, flds]); (focus simp only [go_sem, flds])
        simp only [go_sem, flds]
        refine vCall_of (hE) ?_ ?_ ?_; (focus simp only [go_sem, flds, ents]); (focus simp only [go_sem, flds, ents])
        simp only [go_sem]
        refine vCall_of (hS1) ?_ ?_ ?_; (focus simp only [go_sem, flds]); (focus simp only [go_sem, flds])
        simp only [go_sem]
        refine vLoopM (ι := { k : Nat // k ≤ d.rows.length ∧ ∀ j, j < k → rowOk l d.rows j = true }) 73 (fun x => [(3, .ptr 3 0), (5, flds (scopeM l 1)), (6, .int .i64 (x.1 : Int))]) (fun x => [(3, [.sl .no (d.head.map ent), .sl .no (d.rows.map row)], false)]) (fun x => []) (fun x => d.rows.length - x.1) ⟨0, by omega, fun j hj => by omega⟩
          ⟨rfl, (forall_cons rfl (forall_cons rfl (forall_cons rfl (forall_nil)))), forall_cons ⟨rfl, rfl⟩ forall_nil, forall_nil⟩ (fun x => ⟨(forall_cons rfl (forall_cons rfl (forall_cons rfl (forall_nil)))), (forall_cons rfl (forall_nil))⟩) (fun x => ?_)
        obtain ⟨k, hk, hall⟩ := x
        simp only
        by_cases h : (k : Int) < (d.rows.length : Int)
        · have hka : k < d.rows.length := by omega
          have w1 := w64s hka d2
          have i1 : (0 : Int) ≤ (k : Int) := by omega
          have hN := RName_pure (d.rows.getD k default).item
          have rk := d4 _ (getD_mem' (d := default) hka)
          have hE1 := REntries_pure (scopeM l 1) (d.rows.getD k default).l (sl 1) rk.1 (sc 1) rk.2
          cases hn : nameB (d.rows.getD k default).item
          · rw [hn] at hN
            have hz := rall_false (p := rowOk l d.rows) hka (by simp only [rowOk, hn, Bool.false_and])
            simp only [go_sem, h]
            refine vDrawQ (by kernel_rfl) (by kernel_rfl) ?_
            simp only [go_sem, getD_row hka, row, h, i1]
            refine vCall_of (hN) ?_ ?_ ?_; (focus simp only [go_sem]); (focus simp only [go_sem])
            simp only [go_sem, hz]
          · rw [hn] at hN
            by_cases h0 : 0 < (k : Int)
            · have hk1 : k - 1 < d.rows.length := by omega
              have w2 : IntKind.i64.wrap ((k : Int) - 1) = ((k - 1 : Nat) : Int) := by
                rw [maxLen_eq] at d2
                rw [w64 (by omega)]; omega
              have j1 : (0 : Int) ≤ ((k - 1 : Nat) : Int) := by omega
              have j2 : ((k - 1 : Nat) : Int) < (d.rows.length : Int) := by omega
              cases hb : bytesLt (d.rows.getD (k - 1) default).item (d.rows.getD k default).item
              · have hz := rall_false (p := rowOk l d.rows) hka (by simp only [rowOk, hb, decide_eq_false (show ¬ k = 0 by omega), Bool.or_self, Bool.and_false, Bool.false_and])
                simp only [go_sem, h]
                refine vDrawQ (by kernel_rfl) (by kernel_rfl) ?_
                simp only [go_sem, getD_row hka, row, h, i1]
                refine vCall_of (hN) ?_ ?_ ?_; (focus simp only [go_sem]); (focus simp only [go_sem])
                simp only [go_sem, h0, w2, getD_row hk1, getD_row hka, row, h, i1, j1, j2, hb, hz]
              · cases hf : entriesB (scopeM l 1) (d.rows.getD k default).l
                · rw [hf] at hE1
                  have hz := rall_false (p := rowOk l d.rows) hka (by simp only [rowOk, hf, Bool.and_false])
                  simp only [go_sem, h]
                  refine vDrawQ (by kernel_rfl) (by kernel_rfl) ?_
                  simp only [go_sem, getD_row hka, row, h, i1]
                  refine vCall_of (hN) ?_ ?_ ?_; (focus simp only [go_sem]); (focus simp only [go_sem])
                  simp only [go_sem, h0, w2, getD_row hk1, getD_row hka, row, h, i1, j1, j2, hb, flds]
                  refine vCall_of (hE1) ?_ ?_ ?_; (focus simp only [go_sem, flds, ents]); (focus simp only [go_sem, flds, ents])
                  simp only [go_sem, hz]
                · rw [hf] at hE1
                  have ok : rowOk l d.rows k = true := by simp only [rowOk, hn, hb, hf, Bool.or_true, Bool.and_self]
                  simp only [go_sem, h]
                  refine vDrawQ (by kernel_rfl) (by kernel_rfl) ?_
                  simp only [go_sem, getD_row hka, row, h, i1]
                  refine vCall_of (hN) ?_ ?_ ?_; (focus simp only [go_sem]); (focus simp only [go_sem])
                  simp only [go_sem, h0, w2, getD_row hk1, getD_row hka, row, h, i1, j1, j2, hb, flds]
                  refine vCall_of (hE1) ?_ ?_ ?_; (focus simp only [go_sem, flds, ents]); (focus simp only [go_sem, flds, ents])
                  simp only [go_sem, w1]
                  exact ⟨⟨k + 1, by omega, below_succ hall ok⟩, by show d.rows.length - (k + 1) < d.rows.length - k; omega, ⟨rfl, (forall_cons rfl (forall_cons rfl (forall_cons rfl (forall_nil)))), forall_cons ⟨rfl, rfl⟩ forall_nil, forall_nil⟩⟩
            · cases hf : entriesB (scopeM l 1) (d.rows.getD k default).l
              · rw [hf] at hE1
                have hz := rall_false (p := rowOk l d.rows) hka (by simp only [rowOk, hf, Bool.and_false])
                simp only [go_sem, h]
                refine vDrawQ (by kernel_rfl) (by kernel_rfl) ?_
                simp only [go_sem, getD_row hka, row, h, i1]
                refine vCall_of (hN) ?_ ?_ ?_; (focus simp only [go_sem]); (focus simp only [go_sem])
                simp only [go_sem, h0, getD_row hka, row, h, i1, flds]
                refine vCall_of (hE1) ?_ ?_ ?_; (focus simp only [go_sem, flds, ents]); (focus simp only [go_sem, flds, ents])
                simp only [go_sem, hz]
              · rw [hf] at hE1
                have ok : rowOk l d.rows k = true := by simp only [rowOk, hn, hf, decide_eq_true (show k = 0 by omega), Bool.true_or, Bool.and_self]
                simp only [go_sem, h]
                refine vDrawQ (by kernel_rfl) (by kernel_rfl) ?_
                simp only [go_sem, getD_row hka, row, h, i1]
                refine vCall_of (hN) ?_ ?_ ?_; (focus simp only [go_sem]); (focus simp only [go_sem])
                simp only [go_sem, h0, getD_row hka, row, h, i1, flds]
                refine vCall_of (hE1) ?_ ?_ ?_; (focus simp only [go_sem, flds, ents]); (focus simp only [go_sem, flds, ents])
                simp only [go_sem, w1]
                exact ⟨⟨k + 1, by omega, below_succ hall ok⟩, by show d.rows.length - (k + 1) < d.rows.length - k; omega, ⟨rfl, (forall_cons rfl (forall_cons rfl (forall_cons rfl (forall_nil)))), forall_cons ⟨rfl, rfl⟩ forall_nil, forall_nil⟩⟩
        · have hz := rall_true (p := rowOk l d.rows) (n := d.rows.length) (fun j hj => hall j (by omega))
          simp only [go_sem, h, hz]
end Go.Proofs.Ytmnibpgmcgdfpaa

set_option linter.unusedSimpArgs false
set_option linter.unusedVariables false
set_option linter.unusedSimpArgs false
set_option linter.unusedVariables false
namespace Go.Proofs.Ytmnibpgmcgdfpaa
open Go.PL
structure Pr where
  fr' : Str
  to' : Str
  deriving DecidableEq, Inhabited
structure Ln where
  kind : Int
  at' : Rf
  nm : Str
  ot : Str
  fac : Int
  fd : Fd
  fo : List Pr
  ba : List Pr
  deriving DecidableEq, Inhabited
structure Tg where
  r : Int
  n : Int
  deriving DecidableEq, Inhabited
structure Eg where
  id : Tg
  par : Tg
  ln : Ln
  deriving DecidableEq, Inhabited
structure Lg where
  id : Tg
  down : Bool
  deriving DecidableEq, Inhabited
def pr (p : Pr) : PV := .agg [.str p.fr', .str p.to']
def refs (l : List Rf) : PV := .sl .no (l.map ref)
def eg (e : Eg) : PV := .agg [.int .i64 e.id.r, .int .i64 e.id.n, .int .i64 e.par.r, .int .i64 e.par.n, .int .i64 e.ln.kind, .int .i64 e.ln.at'.sc, .str e.ln.at'.gr, .str e.ln.at'.nm, .str e.ln.nm, .str e.ln.ot, .int .i64 e.ln.fac, .int .i64 e.ln.fd.at'.sc, .str e.ln.fd.at'.gr, .str e.ln.fd.at'.nm, .int .i64 e.ln.fd.kind, .str e.ln.fd.df, .sl .no (e.ln.fd.cases'.map .str), .int .i64 e.ln.fd.worth, .sl .no (e.ln.fo.map pr), .sl .no (e.ln.ba.map pr)]
theorem getD_map {α : Type} {enc : α → PV} {l : List α} {i : Nat} {d : α} (h : i < l.length) : (l.map enc).getD i .any = enc (l.getD i d) := by
  simp [List.getD_eq_getElem?_getD, h]
set_option maxHeartbeats 1000000 in
theorem EqStr_pure (a b : List Str) (ha : a.length ≤ maxLen) (hb : b.length ≤ maxLen) : PL.Pure Try.prog 86 [strs a, strs b] (.bool (decide (a = b))) := by
  by_cases hl : a.length = b.length
  · have hl' : ((a.length : Int) != (b.length : Int)) = false := by rw [hl]; exact bne_self_eq_false _
    refine PL.Pure.of_v Try.func86 (by decide) rfl Try.ntmps86 Try.results86 (by simp) rfl ?_
    simp only [go_sem, strs, hl']
    refine vLoopM (ι := { x : Nat // x ≤ (a).length ∧ (∀ j, j < x → a.getD j [] = b.getD j []) }) 26 (fun x => [(0, strs a), (1, strs b), (12, .int .i64 (a.length : Int)), (13, .int .i64 (x.1 : Int))]) (fun x => []) (fun x => []) (fun x => (a).length - x.1) ⟨0, Nat.zero_le _, fun j hj => absurd hj (Nat.not_lt_zero j)⟩ ⟨rfl, (forall_cons rfl (forall_cons rfl (forall_cons rfl (forall_cons rfl forall_nil)))), forall_nil, forall_nil⟩ (fun x => ⟨(forall_cons rfl (forall_cons rfl (forall_cons rfl (forall_cons rfl forall_nil)))), forall_nil⟩) (fun x => ?_); obtain ⟨k, hk, hI⟩ := x; simp only at hk hI ⊢
    by_cases h : (k : Int) < (a.length : Int)
    · (have hka : k < (a).length := by omega); (have w1 := w64s hka (ha)); (have i1 : (0 : Int) ≤ (k : Int) := by omega)
      have hkb : k < b.length := by omega
      have i2 : (k : Int) < (b.length : Int) := by omega
      by_cases he : a.getD k [] = b.getD k []
      · have he' : (a.getD k [] == b.getD k []) = true := beq_iff_eq.2 he
        simp only [go_sem, strs, h]
        refine vDrawQ (by kernel_rfl) (by kernel_rfl) ?_
        simp only [go_sem, getD_str hka, getD_str hkb, h, i1, i2, he', w1]
        exact ⟨⟨k + 1, by (try simp only); omega, below_succ hI he⟩, by show (a).length - (k + 1) < (a).length - k; omega, ⟨rfl, (forall_cons rfl (forall_cons rfl (forall_cons rfl (forall_cons rfl forall_nil)))), forall_nil, forall_nil⟩⟩
      · have he' : (a.getD k [] == b.getD k []) = false := beq_eq_false_iff_ne.2 he
        have hab : ¬ a = b := ne_of_getD he
        simp only [go_sem, strs, h]
        refine vDrawQ (by kernel_rfl) (by kernel_rfl) ?_
        simp only [go_sem, getD_str hka, getD_str hkb, h, i1, i2, he', hab]
    · have hab : decide (a = b) = true := decide_eq_true (eq_of_getD (d := []) hl fun j hj => hI j (by omega))
      simp only [go_sem, strs, h, hab]
  · have hl' : ((a.length : Int) != (b.length : Int)) = true := bne_iff_ne.2 (by omega)
    have hab : ¬ a = b := fun e => hl (by rw [e])
    refine PL.Pure.of_v Try.func86 (by decide) rfl Try.ntmps86 Try.results86 (by simp) rfl ?_
    simp only [go_sem, strs, hl', hab]
set_option maxHeartbeats 1000000 in
theorem IdxStr_pure (l : List Str) (s : Str) (hl : l.length ≤ maxLen) : PL.Pure Try.prog 129 [strs l, .str s] (.int .i64 (idx (fun x => s == x) l)) := by
  refine PL.Pure.of_v Try.func129 (by decide) rfl Try.ntmps129 Try.results129 (by simp) rfl ?_
  simp only [go_sem, strs]
  refine vLoopM (ι := { x : Nat // x ≤ (l).length ∧ (∀ j, j < x → (fun x => s == x) (l.getD j []) = false) }) 19 (fun x => [(0, strs l), (1, .str s), (7, .int .i64 (l.length : Int)), (8, .int .i64 (x.1 : Int))]) (fun x => []) (fun x => []) (fun x => (l).length - x.1) ⟨0, Nat.zero_le _, fun j hj => absurd hj (Nat.not_lt_zero j)⟩ ⟨rfl, (forall_cons rfl (forall_cons rfl (forall_cons rfl (forall_cons rfl forall_nil)))), forall_nil, forall_nil⟩ (fun x => ⟨(forall_cons rfl (forall_cons rfl (forall_cons rfl (forall_cons rfl forall_nil)))), forall_nil⟩) (fun x => ?_); obtain ⟨k, hk, hI⟩ := x; simp only at hk hI ⊢
  by_cases h : (k : Int) < (l.length : Int)
  · (have hka : k < (l).length := by omega); (have w1 := w64s hka (hl)); (have i1 : (0 : Int) ≤ (k : Int) := by omega)
    cases he : (fun x => s == x) (l.getD k [])
    · have he0 := he
      simp only at he
      simp only [go_sem, strs, h]
      simp only [go_sem, getD_str hka, h, i1, he, w1]
      exact ⟨⟨k + 1, by (try simp only); omega, below_succ hI he0⟩, by show (l).length - (k + 1) < (l).length - k; omega, ⟨rfl, (forall_cons rfl (forall_cons rfl (forall_cons rfl (forall_cons rfl forall_nil)))), forall_nil, forall_nil⟩⟩
    · have hx := idx_found (p := fun x => s == x) hka hI he
      simp only at he
      simp only [go_sem, strs, h]
      simp only [go_sem, getD_str hka, h, i1, he, hx]
  · have hx := idx_none (p := fun x => s == x) (d := []) (l := l) (fun j hj => hI j (by omega))
    simp only [go_sem, strs, h, hx]
end Go.Proofs.Ytmnibpgmcgdfpaa

set_option linter.unusedSimpArgs false
set_option linter.unusedVariables false
set_option linter.unusedSimpArgs false
set_option linter.unusedVariables false
namespace Go.Proofs.Ytmnibpgmcgdfpaa
open Go.PL
theorem fld_dids (f : Fd) : (fld f).dids = [] := by simp only [fld, PV.dids, PV.didsL, didsL_str, List.append_nil]
theorem idx_any {α : Type} (p : α → Bool) (l : List α) : decide ((0 : Int) ≤ idx p l) = l.any p := by
  unfold idx
  cases h : l.findIdx? p with
  | none =>
    have : l.any p = false := by
      rw [List.any_eq_false]
      intro x hx
      have := List.findIdx?_eq_none_iff.1 h x hx
      simp [this]
    rw [this]; rfl
  | some i =>
    rw [List.findIdx?_eq_some_iff_getElem] at h
    obtain ⟨hi, hp, _⟩ := h
    have : l.any p = true := List.any_eq_true.2 ⟨_, List.getElem_mem hi, hp⟩
    rw [this]; exact decide_eq_true (show (0 : Int) ≤ (i : Int) by omega)
theorem any_comm (l : List Str) (s : Str) : l.any (fun x => s == x) = l.any (· == s) := by
  congr 1; funext x; rw [Bool.eq_iff_iff]; simp only [beq_iff_eq]; exact eq_comm
theorem room1 {n b : Nat} (hn : n ≤ 1000000) (hb : b ≤ 1000) : Room n b := room_small (by omega) hb
set_option maxHeartbeats 1000000 in
theorem FOwn_pure (f : Fd) (hf : f.cases'.length ≤ 1000000) : PL.Pure Try.prog 89 [fld f] (fld f) := by
  have hr := room1 hf (show 16 ≤ 1000 by omega)
  refine PL.Pure.of_v Try.func89 (by decide) rfl Try.ntmps89 Try.results89 (by simp) (fld_dids _) ?_
  simp only [go_sem, fld, sized_str, atoms_str, hr]
set_option maxHeartbeats 1000000 in
theorem Less_pure (a b : Rf) : PL.Pure Try.prog 88 [ref a, ref b] (.bool (lessB a b)) := by
  refine PL.Pure.of_v Try.func88 (by decide) rfl Try.ntmps88 Try.results88 (by simp) rfl ?_
  simp only [go_sem, ref]
  repeat' (first | (refine vGuard_t (fun h => ?_) (fun h => ?_) <;> (try simp only [go_sem, h])) | (refine vGuard_f (fun h => ?_) (fun h => ?_) <;> (try simp only [go_sem, h])) | (refine vCond_b (fun h => ?_) (fun h => ?_) <;> (try simp only [go_sem, h])) | ((refine vDrawQ (by kernel_rfl) (by kernel_rfl) ?_); (try simp only [go_sem])))
  all_goals (simp_all [lessB])
set_option maxHeartbeats 1000000 in
theorem ConStr_pure (l : List Str) (s : Str) (hl : l.length ≤ maxLen) : PL.Pure Try.prog 119 [strs l, .str s] (.bool (l.any (· == s))) := by
  have hI := IdxStr_pure l s hl
  refine PL.Pure.of_v Try.func119 (by decide) rfl Try.ntmps119 Try.results119 (by simp) rfl ?_
  simp only [go_sem, strs]
  refine vCall_of (hI) ?_ ?_ ?_; (focus simp only [go_sem, strs]); (focus simp only [go_sem, strs])
  simp only [go_sem, idx_any, any_comm]
def casesP (l : List Str) : Bool := decide (1 ≤ l.length ∧ l.length ≤ 6) && casesB l
set_option maxHeartbeats 4000000 in
theorem Cases_pure (l : List Str) : PL.Pure Try.prog 118 [strs l] (.bool (casesP l)) := by
  by_cases h1 : (l.length : Int) < 1
  · have hx : casesP l = false := by simp only [casesP, show ¬ (1 ≤ l.length ∧ l.length ≤ 6) by omega, decide_false, Bool.false_and]
    refine PL.Pure.of_v Try.func118 (by decide) rfl Try.ntmps118 Try.results118 (by simp) rfl ?_
    simp only [go_sem, strs, h1, hx]
  · by_cases h2 : (6 : Int) < (l.length : Int)
    · have hx : casesP l = false := by simp only [casesP, show ¬ (1 ≤ l.length ∧ l.length ≤ 6) by omega, decide_false, Bool.false_and]
      refine PL.Pure.of_v Try.func118 (by decide) rfl Try.ntmps118 Try.results118 (by simp) rfl ?_
      simp only [go_sem, strs, h1, h2, hx]
    · have hm : l.length ≤ maxLen := by rw [maxLen_eq]; omega
      have hx : casesP l = casesB l := by simp only [casesP, show (1 ≤ l.length ∧ l.length ≤ 6) by omega, and_self, decide_true, Bool.true_and]
      rw [hx]
      refine PL.Pure.of_v Try.func118 (by decide) rfl Try.ntmps118 Try.results118 (by simp) rfl ?_
      simp only [go_sem, strs, h1, h2]
      refine vLoopM (ι := { x : Nat // x ≤ (l).length ∧ (∀ j, j < x → caseOk l j = true) }) 31 (fun x => [(0, strs l), (13, strs l), (14, .int .i64 (l.length : Int)), (15, .int .i64 (x.1 : Int))]) (fun x => []) (fun x => []) (fun x => (l).length - x.1) ⟨0, Nat.zero_le _, fun j hj => absurd hj (Nat.not_lt_zero j)⟩ ⟨rfl, (forall_cons rfl (forall_cons rfl (forall_cons rfl (forall_cons rfl forall_nil)))), forall_nil, forall_nil⟩ (fun x => ⟨(forall_cons rfl (forall_cons rfl (forall_cons rfl (forall_cons rfl forall_nil)))), forall_nil⟩) (fun x => ?_); obtain ⟨k, hk, hI⟩ := x; simp only at hk hI ⊢
      by_cases h : (k : Int) < (l.length : Int)
      · (have hka : k < (l).length := by omega); (have w1 := w64s hka (hm)); (have i1 : (0 : Int) ≤ (k : Int) := by omega)
        have i2 : (k : Int) ≤ (l.length : Int) := by omega
        have hN := Name_pure (l.getD k [])
        have hT : (l.take k).length ≤ maxLen := by rw [List.length_take]; omega
        have hH := ConStr_pure (l.take k) (l.getD k []) hT
        cases hn : nameB (l.getD k [])
        · rw [hn] at hN
          have hz := casesB_false hka (by simp only [caseOk, hn, Bool.false_and])
          simp only [go_sem, strs, h, i1, getD_str hka]
          refine vCall_of (hN) ?_ ?_ ?_; (focus simp only [go_sem]); (focus simp only [go_sem])
          simp only [go_sem, hz]
        · rw [hn] at hN
          cases hh : (l.take k).any (· == l.getD k [])
          · rw [hh] at hH
            have ok : caseOk l k = true := by simp only [caseOk, hn, hh, Bool.not_false, Bool.and_self]
            simp only [go_sem, strs, h, i1, getD_str hka]
            refine vCall_of (hN) ?_ ?_ ?_; (focus simp only [go_sem]); (focus simp only [go_sem])
            simp only [go_sem, i1, i2, sized_str, cut, Nat.sub_zero, take_str]
            refine vCall_of (hH) ?_ ?_ ?_; (focus simp only [go_sem, strs]); (focus simp only [go_sem, strs])
            simp only [go_sem, w1]
            exact ⟨⟨k + 1, by (try simp only); omega, below_succ hI ok⟩, by show (l).length - (k + 1) < (l).length - k; omega, ⟨rfl, (forall_cons rfl (forall_cons rfl (forall_cons rfl (forall_cons rfl forall_nil)))), forall_nil, forall_nil⟩⟩
          · rw [hh] at hH
            have hz := casesB_false hka (by simp only [caseOk, hn, hh, Bool.not_true, Bool.and_false])
            simp only [go_sem, strs, h, i1, getD_str hka]
            refine vCall_of (hN) ?_ ?_ ?_; (focus simp only [go_sem]); (focus simp only [go_sem])
            simp only [go_sem, i1, i2, sized_str, cut, Nat.sub_zero, take_str]
            refine vCall_of (hH) ?_ ?_ ?_; (focus simp only [go_sem, strs]); (focus simp only [go_sem, strs])
            simp only [go_sem, hz]
      · have hz := casesB_true (l := l) (fun j hj => hI j (by omega))
        simp only [go_sem, strs, h, hz]
theorem any_ne_nil {l : List Str} {s : Str} (h : l.any (· == s) = true) : 1 ≤ l.length := by
  cases l with
  | nil => simp at h
  | cons a l => simp
set_option maxRecDepth 20000 in
set_option maxHeartbeats 8000000 in
theorem Right_pure (f : Fd) (hl : f.cases'.length ≤ maxLen) : PL.Pure Try.prog 87 [fld f] (.bool (rightF f)) := by
  have hP := Place_pure f.at'
  have hT := Text_pure f.df
  have hC := Cases_pure f.cases'
  have hK := ConStr_pure f.cases' f.df hl
  have key : rightF f = (placeB f.at' && (if f.kind = 1 then (f.df == []) && (((f.cases'.length : Int) == 0) && (decide (1 ≤ f.worth) && decide (f.worth ≤ 1048576)))
      else if f.kind = 2 then decide ((f.df.length : Int) ≤ 40) && (((f.cases'.length : Int) == 0) && (f.worth == 0))
      else if f.kind = 3 then casesP f.cases' && (f.cases'.any (· == f.df) && (f.worth == 0))
      else if f.kind = 4 then (f.df == []) && (((f.cases'.length : Int) == 0) && (f.worth == 0)) else false)) := by
    unfold rightF
    congr 1
    by_cases h1 : f.kind = 1
    · rw [if_pos h1, if_pos h1, Bool.eq_iff_iff]; simp; omega
    · rw [if_neg h1, if_neg h1]
      by_cases h3 : f.kind = 3
      · rw [if_pos h3, if_neg (by omega), if_pos h3]
        unfold tail3 casesP
        cases ha : f.cases'.any (· == f.df)
        · simp
        · have := any_ne_nil ha
          rw [Bool.eq_iff_iff]; simp; constructor
          · rintro ⟨a, b, c⟩; exact ⟨⟨⟨this, by omega⟩, b⟩, a⟩
          · rintro ⟨⟨⟨a, b⟩, c⟩, d⟩; exact ⟨d, c, by omega⟩
      · rw [if_neg h3, if_neg h3]
        unfold tail2
        by_cases h2 : f.kind = 2
        · rw [if_pos h2, Bool.eq_iff_iff]; simp [h2]; constructor <;> rintro ⟨a, b, c⟩ <;> refine ⟨?_, ?_, ?_⟩ <;> first | assumption | omega
        · rw [if_neg h2]
          by_cases h4 : f.kind = 4
          · rw [if_pos h4, Bool.eq_iff_iff]; simp [h4]; constructor
            · rintro ⟨a, b, c⟩; exact ⟨c, b, a⟩
            · rintro ⟨a, b, c⟩; exact ⟨c, b, a⟩
          · rw [if_neg h4]; simp [h2, h4]
  rw [key]
  cases hp : placeB f.at'
  · rw [hp] at hP
    refine PL.Pure.of_v Try.func87 (by decide) rfl Try.ntmps87 Try.results87 (by simp) rfl ?_
    simp only [go_sem, fld]
    refine vCall_of (hP) ?_ ?_ ?_; (focus simp only [go_sem, ref]); (focus simp only [go_sem, ref])
    simp only [go_sem, Bool.false_and]
  · rw [hp] at hP
    rw [Bool.true_and]
    by_cases h1 : f.kind = 1
    · have k1 : (f.kind == 1) = true := by rw [h1]; rfl
      rw [if_pos h1]
      refine PL.Pure.of_v Try.func87 (by decide) rfl Try.ntmps87 Try.results87 (by simp) rfl ?_
      simp only [go_sem, fld]
      refine vCall_of (hP) ?_ ?_ ?_; (focus simp only [go_sem, ref]); (focus simp only [go_sem, ref])
      simp only [go_sem, k1]
      repeat' (first | (refine vGuard_t (fun h => ?_) (fun h => ?_) <;> (try simp only [go_sem, h])) | (refine vGuard_f (fun h => ?_) (fun h => ?_) <;> (try simp only [go_sem, h])) | (refine vCond_b (fun h => ?_) (fun h => ?_) <;> (try simp only [go_sem, h])) | ((refine vDrawQ (by kernel_rfl) (by kernel_rfl) ?_); (try simp only [go_sem])))
      all_goals simp_all
    · have k1 : (f.kind == 1) = false := beq_eq_false_iff_ne.2 h1
      rw [if_neg h1]
      by_cases h2 : f.kind = 2
      · have k2 : (f.kind == 2) = true := by rw [h2]; rfl
        rw [if_pos h2]
        refine PL.Pure.of_v Try.func87 (by decide) rfl Try.ntmps87 Try.results87 (by simp) rfl ?_
        simp only [go_sem, fld]
        refine vCall_of (hP) ?_ ?_ ?_; (focus simp only [go_sem, ref]); (focus simp only [go_sem, ref])
        simp only [go_sem, k1, k2]
        refine vCall_of (hT) ?_ ?_ ?_; (focus simp only [go_sem]); (focus simp only [go_sem])
        simp only [go_sem, k1, k2]
        repeat' (first | (refine vGuard_t (fun h => ?_) (fun h => ?_) <;> (try simp only [go_sem, h])) | (refine vGuard_f (fun h => ?_) (fun h => ?_) <;> (try simp only [go_sem, h])) | (refine vCond_b (fun h => ?_) (fun h => ?_) <;> (try simp only [go_sem, h])) | ((refine vDrawQ (by kernel_rfl) (by kernel_rfl) ?_); (try simp only [go_sem])))
        all_goals simp_all
      · have k2 : (f.kind == 2) = false := beq_eq_false_iff_ne.2 h2
        rw [if_neg h2]
        by_cases h3 : f.kind = 3
        · have k3 : (f.kind == 3) = true := by rw [h3]; rfl
          rw [if_pos h3]
          refine PL.Pure.of_v Try.func87 (by decide) rfl Try.ntmps87 Try.results87 (by simp) rfl ?_
          simp only [go_sem, fld]
          refine vCall_of (hP) ?_ ?_ ?_; (focus simp only [go_sem, ref]); (focus simp only [go_sem, ref])
          simp only [go_sem, k1, k2, k3]
          refine vCall_of (hC) ?_ ?_ ?_; (focus simp only [go_sem, strs]); (focus simp only [go_sem, strs])
          simp only [go_sem, k1, k2, k3]
          repeat' (first | (refine vGuard_t (fun h => ?_) (fun h => ?_) <;> (try simp only [go_sem, h])) | (refine vGuard_f (fun h => ?_) (fun h => ?_) <;> (try simp only [go_sem, h])) | (refine vCond_b (fun h => ?_) (fun h => ?_) <;> (try simp only [go_sem, h])) | ((refine vCall_of (hK) ?_ ?_ ?_); (focus simp only [go_sem, strs]); (focus exact rfl); (try simp only [go_sem])) | ((refine vDrawQ (by kernel_rfl) (by kernel_rfl) ?_); (try simp only [go_sem])))
          all_goals simp_all
        · have k3 : (f.kind == 3) = false := beq_eq_false_iff_ne.2 h3
          rw [if_neg h3]
          by_cases h4 : f.kind = 4
          · have k4 : (f.kind == 4) = true := by rw [h4]; rfl
            rw [if_pos h4]
            refine PL.Pure.of_v Try.func87 (by decide) rfl Try.ntmps87 Try.results87 (by simp) rfl ?_
            simp only [go_sem, fld]
            refine vCall_of (hP) ?_ ?_ ?_; (focus simp only [go_sem, ref]); (focus simp only [go_sem, ref])
            simp only [go_sem, k1, k2, k3, k4]
            repeat' (first | (refine vGuard_t (fun h => ?_) (fun h => ?_) <;> (try simp only [go_sem, h])) | (refine vGuard_f (fun h => ?_) (fun h => ?_) <;> (try simp only [go_sem, h])) | (refine vCond_b (fun h => ?_) (fun h => ?_) <;> (try simp only [go_sem, h])) | ((refine vDrawQ (by kernel_rfl) (by kernel_rfl) ?_); (try simp only [go_sem])))
            all_goals simp_all
          · have k4 : (f.kind == 4) = false := beq_eq_false_iff_ne.2 h4
            rw [if_neg h4]
            refine PL.Pure.of_v Try.func87 (by decide) rfl Try.ntmps87 Try.results87 (by simp) rfl ?_
            simp only [go_sem, fld]
            refine vCall_of (hP) ?_ ?_ ?_; (focus simp only [go_sem, ref]); (focus simp only [go_sem, ref])
            simp only [go_sem, k1, k2, k3, k4]
end Go.Proofs.Ytmnibpgmcgdfpaa

set_option linter.unusedSimpArgs false
set_option linter.unusedVariables false
set_option linter.unusedSimpArgs false
set_option linter.unusedVariables false
namespace Go.Proofs.Ytmnibpgmcgdfpaa
open Go.PL
def caseM (l : List Pr) (s : Str) : Str × Bool := match l.find? (fun p => p.fr' == s) with | some p => (p.to', true) | none => ([], false)
theorem take_le_len {α : Type} (l : List α) (k : Nat) : (l.take k).length ≤ l.length := by rw [List.length_take]; omega
def fromsM (l : List Pr) : List Str := l.map (·.fr')
end Go.Proofs.Ytmnibpgmcgdfpaa
