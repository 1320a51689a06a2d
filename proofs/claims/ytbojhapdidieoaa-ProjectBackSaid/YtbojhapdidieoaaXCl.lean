/- Contracts of functions and laws of this seat, each for every input that it names: lemmas of the proof. -/
import Derived.Test.YtbojhapdidieoaaXBy
set_option linter.unusedSimpArgs false
set_option linter.unusedVariables false
set_option linter.unusedSimpArgs false
set_option linter.unusedVariables false
namespace Go.Proofs.Ytbojhapdidieoaa
open Go.PL
set_option maxRecDepth 20000 in
set_option maxHeartbeats 16000000 in
theorem DRight_pure (l : List Fd) (d : Dc) (hl : l.length ≤ maxLen) (hl' : ∀ f ∈ l, f.cases'.length ≤ 1000000) (hd : Fine d) : PL.Pure Try.prog 84 [flds l, doc d] (.bool (rightD l d)) := by
  obtain ⟨d1, d2, d3, d4⟩ := hd
  have hl2 : ∀ f ∈ l, f.cases'.length ≤ maxLen := fun f hf => by have := hl' f hf; rw [maxLen_eq]; omega
  have hR := SRight_pure l hl hl2
  cases hr : rightL l
  · rw [hr] at hR
    have hx : rightD l d = false := by simp only [rightD, headOk, hr, Bool.false_and]
    refine PL.Pure.of_v Try.func84 (by decide) rfl Try.ntmps84 Try.results84 (by simp) rfl ?_
    simp only [go_sem, flds, doc]
    refine vCall_of (hR) ?_ ?_ ?_; (focus simp only [go_sem, flds]); (focus simp only [go_sem, flds])
    simp only [go_sem, hx]
  · rw [hr] at hR
    have h16 := rightL_len hr
    have sl : ∀ sc, (scopeM l sc).length ≤ maxLen := fun sc => Nat.le_trans (List.length_filter_le _ _) hl
    have sc : ∀ s, ∀ f ∈ scopeM l s, f.cases'.length ≤ maxLen := fun s f hf => hl2 f (List.mem_filter.1 hf).1
    have hS0 := Scope_pure l 0 (by omega) hl'
    have hS1 := Scope_pure l 1 (by omega) hl'
    by_cases h4 : (400 : Int) < (d.rows.length : Int)
    · have hx : rightD l d = false := by simp only [rightD, headOk, h4, decide_true, Bool.not_true, Bool.false_and, Bool.and_false]
      refine PL.Pure.of_v Try.func84 (by decide) rfl Try.ntmps84 Try.results84 (by simp) rfl ?_
      simp only [go_sem, flds, doc]
      refine vCall_of (hR) ?_ ?_ ?_; (focus simp only [go_sem, flds]); (focus simp only [go_sem, flds])
      simp only [go_sem, h4, hx]
    · have hE := rightEntries_pure (scopeM l 0) d.head (sl 0) d1 (sc 0) d3
      cases he : entriesB (scopeM l 0) d.head
      · rw [he] at hE
        have hx : rightD l d = false := by simp only [rightD, headOk, he, Bool.false_and, Bool.and_false]
        refine PL.Pure.of_v Try.func84 (by decide) rfl Try.ntmps84 Try.results84 (by simp) rfl ?_
        simp only [go_sem, flds, doc]
        refine vCall_of (hR) ?_ ?_ ?_; (focus simp only [go_sem, flds]); (focus simp only [go_sem, flds])
        simp only [go_sem, h4]
        refine vDrawQ (by kernel_rfl) (by kernel_rfl) ?_
        simp only [go_sem, flds]
        refine vCall_of (hS0) ?_ ?_ ?_; (focus simp only [go_sem, flds]); (focus simp only [go_sem, flds])
        simp only [go_sem, flds]
        refine vCall_of (hE) ?_ ?_ ?_; (focus simp only [go_sem, flds, ents]); (focus simp only [go_sem, flds, ents])
        simp only [go_sem, hx]
      · rw [he] at hE
        have hx : rightD l d = (List.range d.rows.length).all (rowOk l d.rows) := by simp only [rightD, headOk, hr, h4, he, decide_false, Bool.not_false, Bool.and_self, Bool.true_and]
        rw [hx]
        refine PL.Pure.of_v Try.func84 (by decide) rfl Try.ntmps84 Try.results84 (by simp) rfl ?_
        simp only [go_sem, flds, doc]
        refine vCall_of (hR) ?_ ?_ ?_; (focus simp only [go_sem, flds]); (focus simp only [go_sem, flds])
        simp only [go_sem, h4]
        refine vDrawQ (by kernel_rfl) (by kernel_rfl) ?_
        simp only [go_sem, flds]
        refine vCall_of (hS0) ?_ ?_ ?_; (focus simp only [go_sem, flds]); (focus simp only [go_sem, flds])
        simp only [go_sem, flds]
        refine vCall_of (hE) ?_ ?_ ?_; (focus simp only [go_sem, flds, ents]); (focus simp only [go_sem, flds, ents])
        simp only [go_sem, flds]
        refine vCall_of (hS1) ?_ ?_ ?_; (focus simp only [go_sem, flds]); (focus simp only [go_sem, flds])
        simp only [go_sem]
        refine vLoopM (ι := { x : Nat // x ≤ (d.rows).length ∧ (∀ j, j < x → rowOk l d.rows j = true) }) 59 (fun x => [(3, .ptr 3 0), (5, flds (scopeM l 1)), (26, .sl .no (d.rows.map row)), (27, .int .i64 (d.rows.length : Int)), (28, .int .i64 (x.1 : Int))]) (fun x => [(3, [.sl .no (d.head.map ent), .sl .no (d.rows.map row)], false)]) (fun x => []) (fun x => (d.rows).length - x.1) ⟨0, Nat.zero_le _, fun j hj => absurd hj (Nat.not_lt_zero j)⟩ ⟨rfl, (forall_cons rfl (forall_cons rfl (forall_cons rfl (forall_cons rfl (forall_cons rfl forall_nil))))), (forall_cons ⟨rfl, rfl⟩ forall_nil), forall_nil⟩ (fun x => ⟨(forall_cons rfl (forall_cons rfl (forall_cons (by simp [PV.ids, refInM]) (forall_cons (by simp [PV.ids, refInM]) (forall_cons rfl forall_nil))))), (forall_cons (by simp [PV.ids, PV.idsL, refInM]) forall_nil)⟩) (fun x => ?_); obtain ⟨k, hk, hI⟩ := x; simp only at hk hI ⊢
        by_cases h : (k : Int) < (d.rows.length : Int)
        · (have hka : k < (d.rows).length := by omega); (have w1 := w64s hka (d2)); (have i1 : (0 : Int) ≤ (k : Int) := by omega)
          have hN := Name_pure (d.rows.getD k default).item
          have rk := d4 _ (getD_mem' (d := default) hka)
          have hE1 := rightEntries_pure (scopeM l 1) (d.rows.getD k default).l (sl 1) rk.1 (sc 1) rk.2
          have gk := getD_row' hka
          cases hn : nameB (d.rows.getD k default).item
          · rw [hn] at hN
            have hz := rall_false (p := rowOk l d.rows) hka (by simp only [rowOk, hn, Bool.false_and])
            simp only [go_sem, h, gk, row, i1]
            refine vDrawQ (by kernel_rfl) (by kernel_rfl) ?_
            simp only [go_sem, h, gk, row, i1]
            refine vCall_of (hN) ?_ ?_ ?_; (focus simp only [go_sem]); (focus simp only [go_sem])
            simp only [go_sem, hz]
          · rw [hn] at hN
            by_cases h0 : 0 < (k : Int)
            · have hk1 : k - 1 < d.rows.length := by omega
              have gj := getD_row' hk1
              have w2 : IntKind.i64.wrap ((k : Int) - 1) = ((k - 1 : Nat) : Int) := by
                rw [maxLen_eq] at d2
                rw [w64 (by omega)]; omega
              have j1 : (0 : Int) ≤ ((k - 1 : Nat) : Int) := by omega
              have j2 : ((k - 1 : Nat) : Int) < (d.rows.length : Int) := by omega
              cases hb : bytesLt (d.rows.getD (k - 1) default).item (d.rows.getD k default).item
              · have hz := rall_false (p := rowOk l d.rows) hka (by simp only [rowOk, hb, decide_eq_false (show ¬ k = 0 by omega), Bool.or_self, Bool.and_false, Bool.false_and])
                simp only [go_sem, h, gk, row, i1]
                refine vDrawQ (by kernel_rfl) (by kernel_rfl) ?_
                simp only [go_sem, h, gk, row, i1]
                refine vCall_of (hN) ?_ ?_ ?_; (focus simp only [go_sem]); (focus simp only [go_sem])
                simp only [go_sem, h0, w2, gj, gk, row, h, i1, j1, j2, hb, hz]
              · cases hf : entriesB (scopeM l 1) (d.rows.getD k default).l
                · rw [hf] at hE1
                  have hz := rall_false (p := rowOk l d.rows) hka (by simp only [rowOk, hf, Bool.and_false])
                  simp only [go_sem, h, gk, row, i1]
                  refine vDrawQ (by kernel_rfl) (by kernel_rfl) ?_
                  simp only [go_sem, h, gk, row, i1]
                  refine vCall_of (hN) ?_ ?_ ?_; (focus simp only [go_sem]); (focus simp only [go_sem])
                  simp only [go_sem, h0, w2, gj, gk, row, h, i1, j1, j2, hb, flds]
                  refine vCall_of (hE1) ?_ ?_ ?_; (focus simp only [go_sem, flds, ents]); (focus simp only [go_sem, flds, ents])
                  simp only [go_sem, hz]
                · rw [hf] at hE1
                  have ok : rowOk l d.rows k = true := by simp only [rowOk, hn, hb, hf, Bool.or_true, Bool.and_self]
                  simp only [go_sem, h, gk, row, i1]
                  refine vDrawQ (by kernel_rfl) (by kernel_rfl) ?_
                  simp only [go_sem, h, gk, row, i1]
                  refine vCall_of (hN) ?_ ?_ ?_; (focus simp only [go_sem]); (focus simp only [go_sem])
                  simp only [go_sem, h0, w2, gj, gk, row, h, i1, j1, j2, hb, flds]
                  refine vCall_of (hE1) ?_ ?_ ?_; (focus simp only [go_sem, flds, ents]); (focus simp only [go_sem, flds, ents])
                  simp only [go_sem, w1]
                  exact ⟨⟨k + 1, by (try simp only); omega, below_succ hI ok⟩, by show (d.rows).length - (k + 1) < (d.rows).length - k; omega, ⟨rfl, (forall_cons rfl (forall_cons rfl (forall_cons rfl (forall_cons rfl (forall_cons rfl forall_nil))))), (forall_cons ⟨rfl, rfl⟩ forall_nil), forall_nil⟩⟩
            · have hk0 : k = 0 := by omega
              cases hf : entriesB (scopeM l 1) (d.rows.getD k default).l
              · rw [hf] at hE1
                have hz := rall_false (p := rowOk l d.rows) hka (by simp only [rowOk, hf, Bool.and_false])
                simp only [go_sem, h, gk, row, i1]
                refine vDrawQ (by kernel_rfl) (by kernel_rfl) ?_
                simp only [go_sem, h, gk, row, i1]
                refine vCall_of (hN) ?_ ?_ ?_; (focus simp only [go_sem]); (focus simp only [go_sem])
                simp only [go_sem, h0, gk, row, h, i1, flds]
                refine vCall_of (hE1) ?_ ?_ ?_; (focus simp only [go_sem, flds, ents]); (focus simp only [go_sem, flds, ents])
                simp only [go_sem, hz]
              · rw [hf] at hE1
                have ok : rowOk l d.rows k = true := by simp only [rowOk, hn, decide_eq_true hk0, hf, Bool.true_or, Bool.and_self]
                simp only [go_sem, h, gk, row, i1]
                refine vDrawQ (by kernel_rfl) (by kernel_rfl) ?_
                simp only [go_sem, h, gk, row, i1]
                refine vCall_of (hN) ?_ ?_ ?_; (focus simp only [go_sem]); (focus simp only [go_sem])
                simp only [go_sem, h0, gk, row, h, i1, flds]
                refine vCall_of (hE1) ?_ ?_ ?_; (focus simp only [go_sem, flds, ents]); (focus simp only [go_sem, flds, ents])
                simp only [go_sem, w1]
                exact ⟨⟨k + 1, by (try simp only); omega, below_succ hI ok⟩, by show (d.rows).length - (k + 1) < (d.rows).length - k; omega, ⟨rfl, (forall_cons rfl (forall_cons rfl (forall_cons rfl (forall_cons rfl (forall_cons rfl forall_nil))))), (forall_cons ⟨rfl, rfl⟩ forall_nil), forall_nil⟩⟩
        · have hz := rall_true (p := rowOk l d.rows) (n := d.rows.length) (fun j hj => hI j (by omega))
          simp only [go_sem, h, hz]
theorem sized_row (l : List Rw) : Sized 2 (l.map row) := fun e he => by
  obtain ⟨x, _, rfl⟩ := List.mem_map.1 he; rfl
end Go.Proofs.Ytbojhapdidieoaa

set_option linter.unusedSimpArgs false
set_option linter.unusedVariables false
set_option linter.unusedSimpArgs false
set_option linter.unusedVariables false
namespace Go.Proofs.Ytbojhapdidieoaa
open Go.PL
theorem row_dids (r : Rw) : (row r).dids = [] := by simp only [row, PV.dids, PV.didsL, didsL_ent, List.append_nil]
theorem didsL_row (l : List Rw) : PV.didsL (l.map row) = [] := by
  induction l with
  | nil => rfl
  | cons t l ih => simp only [List.map_cons, PV.didsL, ih, row_dids, List.append_nil]
theorem doc_dids (d : Dc) : (doc d).dids = [] := by simp only [doc, PV.dids, PV.didsL, didsL_ent, didsL_row, List.append_nil]
/-- rows gathered in a field of a block: nil at first -/
def gatC (i : Nat) (l : List Rw) : Nat → PV
  | 0 => .sl .nil []
  | k + 1 => .sl (.row i) ((l.take (k + 1)).map row)
def gatR (i : Nat) : Nat → List (Nat × Row)
  | 0 => []
  | k + 1 => [(i, .live (k + 1) 2 140)]
end Go.Proofs.Ytbojhapdidieoaa

set_option linter.unusedSimpArgs false
set_option linter.unusedVariables false
set_option linter.unusedSimpArgs false
set_option linter.unusedVariables false
namespace Go.Proofs.Ytbojhapdidieoaa
open Go.PL
def isAt (r : Rf) (e : En) : Bool := decide (e.at' = r)
def entM (es : List En) (r : Rf) : Option En := es.find? (isAt r)
def eptc (x : Option En) : PV := .tup [ent (x.getD default), .bool x.isSome]
theorem eptc_dids (x : Option En) : (eptc x).dids = [] := by simp only [eptc, PV.dids, PV.didsL, ent_dids, List.append_nil]
set_option maxRecDepth 20000 in
set_option maxHeartbeats 8000000 in
theorem entry_pure (es : List En) (r : Rf) (hl : es.length ≤ maxLen) (hl' : ∀ e ∈ es, e.l.length ≤ 1000000) : PL.Pure Try.prog 128 [ents es, ref r] (eptc (entM es r)) := by
  refine PL.Pure.of_v Try.func128 (by decide) rfl Try.ntmps128 Try.results128 (by simp) (eptc_dids _) ?_
  simp only [go_sem, ents, ref]
  refine vLoopM (ι := { x : Nat // x ≤ (es).length ∧ (∀ j, j < x → isAt r (es.getD j default) = false) }) 25 (fun x => [(3, .ptr 3 0), (4, .ptr 4 0), (8, ents es), (9, .int .i64 (es.length : Int)), (10, .int .i64 (x.1 : Int))]) (fun x => [(3, [.int .i64 r.sc, .str r.gr, .str r.nm], false), (4, [.int .i64 0, .str [], .str [], .int .i64 0, .sl .nil []], false)]) (fun x => []) (fun x => (es).length - x.1) ⟨0, Nat.zero_le _, fun j hj => absurd hj (Nat.not_lt_zero j)⟩ ⟨rfl, (forall_cons rfl (forall_cons rfl (forall_cons rfl (forall_cons rfl (forall_cons rfl forall_nil))))), (forall_cons ⟨rfl, rfl⟩ (forall_cons ⟨rfl, rfl⟩ forall_nil)), forall_nil⟩ (fun x => ⟨(forall_cons rfl (forall_cons rfl (forall_cons rfl (forall_cons rfl (forall_cons rfl forall_nil))))), (forall_cons rfl (forall_cons rfl forall_nil))⟩) (fun x => ?_); obtain ⟨k, hk, hI⟩ := x; simp only at hk hI ⊢
  by_cases h : (k : Int) < (es.length : Int)
  · (have hka : k < (es).length := by omega); (have w1 := w64s hka (hl)); (have i1 : (0 : Int) ≤ (k : Int) := by omega)
    have hel := hl' _ (getD_mem' (d := default) hka)
    have hr := room1 hel (show 16 ≤ 1000 by omega)
    cases hq : isAt r (es.getD k default)
    · have hq' : decide ((es.getD k default).at' = r) = false := hq
      simp only [go_sem, ents, h, getD_ent' hka, ent, i1, ref_fold, hq', w1]
      exact ⟨⟨k + 1, by (try simp only); omega, below_succ (p := fun j => isAt r (es.getD j default) = false) hI hq⟩, by show (es).length - (k + 1) < (es).length - k; omega, ⟨rfl, (forall_cons rfl (forall_cons rfl (forall_cons rfl (forall_cons rfl (forall_cons rfl forall_nil))))), (forall_cons ⟨rfl, rfl⟩ (forall_cons ⟨rfl, rfl⟩ forall_nil)), forall_nil⟩⟩
    · have hq' : decide ((es.getD k default).at' = r) = true := hq
      have hf : entM es r = some (es.getD k default) := find_found hka hI hq
      simp only [go_sem, ents, h, getD_ent' hka, ent, i1, ref_fold, hq', sized_str, atoms_str, hr, hf, eptc, Option.getD_some, Option.isSome_some]
  · have hf : entM es r = none := find_none (d := default) (fun j hj => hI j (by omega))
    simp only [go_sem, h, hf, eptc, Option.getD_none, Option.isSome_none]
    rfl
def mergI (u p f : Int) : Int × Int := if fitsI u = true ∧ fitsI p = true then (if (joinI u p f).2 = 0 then ((joinI u p f).1, 0) else (0, 3)) else (0, 3)
set_option maxHeartbeats 4000000 in
theorem pmerged_pure (u p f : Int) : PL.Pure Try.prog 154 [.int .i64 u, .int .i64 p, .int .i64 f] (intc (mergI u p f)) := by
  have hO := Of_pure u p
  unfold mergI
  by_cases hf : fitsI u = true ∧ fitsI p = true
  · rw [if_pos hf] at hO ⊢
    have hJ := Join_pure' u p f (fitsI_iff.1 hf.1) (fitsI_iff.1 hf.2)
    generalize joinI u p f = j at *
    obtain ⟨v, c⟩ := j
    by_cases hc : c = 0
    · have hc' : (c != 0) = false := by rw [hc]; rfl
      subst hc
      refine PL.Pure.of_v Try.func154 (by decide) rfl Try.ntmps154 Try.results154 (by simp) (rfl) ?_
      simp only [go_sem]
      refine vCall_of (hO) ?_ ?_ ?_; (focus simp only [go_sem]); (focus simp only [go_sem])
      simp only [go_sem]
      refine vCall_of (hJ) ?_ ?_ ?_; (focus simp only [go_sem]); (focus simp only [go_sem])
      simp only [go_sem, intc, if_true]
    · have hc' : (c != 0) = true := bne_iff_ne.2 hc
      refine PL.Pure.of_v Try.func154 (by decide) rfl Try.ntmps154 Try.results154 (by simp) (rfl) ?_
      simp only [go_sem]
      refine vCall_of (hO) ?_ ?_ ?_; (focus simp only [go_sem]); (focus simp only [go_sem])
      simp only [go_sem]
      refine vCall_of (hJ) ?_ ?_ ?_; (focus simp only [go_sem]); (focus simp only [go_sem])
      simp only [go_sem, intc, hc', if_neg hc]
  · rw [if_neg hf] at hO ⊢
    refine PL.Pure.of_v Try.func154 (by decide) rfl Try.ntmps154 Try.results154 (by simp) (rfl) ?_
    simp only [go_sem]
    refine vCall_of (hO) ?_ ?_ ?_; (focus simp only [go_sem]); (focus simp only [go_sem])
    simp only [go_sem, intc]
end Go.Proofs.Ytbojhapdidieoaa

set_option linter.unusedSimpArgs false
set_option linter.unusedVariables false
set_option linter.unusedSimpArgs false
set_option linter.unusedVariables false
namespace Go.Proofs.Ytbojhapdidieoaa
open Go.PL
def fromM (x : Ln) (f : Fd) (e : En) : En :=
  if x.kind = 6 then ⟨f.at', e.n, (valueM f).l⟩
  else if x.kind = 7 then ⟨f.at', 0, if 0 < (e.l.length : Int) ∧ e.l.getD 0 [] ≠ x.ot then [e.l.getD 0 []] else []⟩
  else if x.kind = 10 then ⟨f.at', 0, if 0 < (e.l.length : Int) then [e.l.getD (e.l.length - 1) []] else (valueM f).l⟩
  else if x.kind = 8 then ⟨f.at', 0, if 0 < (e.l.length : Int) then [(caseM x.fo (e.l.getD 0 [])).1] else (valueM f).l⟩
  else if x.kind = 3 then valueM f
  else ⟨f.at', e.n, e.l⟩
def gotM (x : Ln) (f : Fd) (i : Int) (es : List En) : En × Int :=
  if x.kind = 2 ∨ (x.kind = 6 ∧ 0 < i) then (valueM f, 0) else
  match entM es ((goesR x).getD 0 default) with
  | none => (default, 5)
  | some e =>
    if x.kind = 9 then
      match entM es ((goesR x).getD 1 default) with
      | none => (default, 5)
      | some e2 => if (mergI e.n e2.n x.fac).2 = 0 then (⟨f.at', (mergI e.n e2.n x.fac).1, (valueM f).l⟩, 0) else (default, (mergI e.n e2.n x.fac).2)
    else (fromM x f e, 0)
theorem value_n (f : Fd) : (valueM f).n = 0 := rfl
theorem value_at (f : Fd) : (valueM f).at' = f.at' := rfl
set_option maxRecDepth 20000 in
set_option maxHeartbeats 32000000 in
theorem arrived_pure (x : Ln) (f : Fd) (i : Int) (es : List En) (hx : OkLn x) (hr : rightLn x = true) (hl : es.length ≤ maxLen) (hl' : ∀ e ∈ es, e.l.length ≤ 1000000) : PL.Pure Try.prog 127 [lns x, fld f, .int .i64 i, ents es] (entc (gotM x f i es)) := by
  have hV := Value_pure f
  have hG := Goes_pure x hx
  have hgo : goesM x = goesR x := by simp [goesM, hr]
  rw [hgo] at hG
  have hk := (rightLn_kind hr).1
  have hE := fun r => entry_pure es r hl hl'
  have hfo : x.fo.length ≤ maxLen := by have := hx.f; rw [maxLen_eq]; omega
  have hv1 := value_at f
  have hv2 := value_n f
  unfold gotM
  have hmem : ∀ r e, entM es r = some e → e.l.length ≤ 1000000 := fun r e h => hl' e (List.mem_of_find?_eq_some h)
  obtain ⟨kind, at', nm, ot, fac, fd, fo, ba⟩ := x
  simp only at hk hfo ⊢
  clear hgo hr hx hl'
  generalize hvm : valueM f = v at *
  obtain ⟨vat, vn, vl⟩ := v
  simp only at hv1 hv2 ⊢
  subst hv1 hv2
  have hkind : kind = 1 ∨ kind = 2 ∨ kind = 3 ∨ kind = 4 ∨ kind = 5 ∨ kind = 6 ∨ kind = 7 ∨ kind = 8 ∨ kind = 9 ∨ kind = 10 := by omega
  rcases hkind with rfl | rfl | rfl | rfl | rfl | rfl | rfl | rfl | rfl | rfl
  ·
    have hg : goesR ⟨1, at', nm, ot, fac, fd, fo, ba⟩ = [at'] := by simp [goesR]
    rw [hg] at hG ⊢
    rw [if_neg (fun h => by rcases h with h | ⟨h, _⟩ <;> exact absurd h (by decide))]
    have hE0 := hE at'
    simp only [List.getD_cons_zero, List.getD_cons_succ]
    cases hq : entM es at' with
    | none =>
      rw [hq] at hE0
      refine PL.Pure.of_v Try.func127 (by decide) rfl Try.ntmps127 Try.results127 (by simp) (entc_dids _) ?_
      simp only [go_sem, lns, fld]
      refine vCall_of (hV) ?_ ?_ ?_; (focus simp only [go_sem, fld]); (focus simp only [go_sem, fld])
      simp only [go_sem, ent, lns]
      refine vCall_of (hG) ?_ ?_ ?_; (focus simp only [go_sem, lns]); (focus simp only [go_sem, lns])
      simp only [go_sem, refs, ref, List.map_cons, List.map_nil]
      refine vCall_of (hE0) ?_ ?_ ?_; (focus simp only [go_sem, ents, ref]); (focus simp only [go_sem, ents, ref])
      simp only [go_sem, eptc, Option.getD_none, Option.isSome_none, entc, ent]
      rfl
    | some e =>
      rw [hq] at hE0
      have hel := hmem _ e hq
      refine PL.Pure.of_v Try.func127 (by decide) rfl Try.ntmps127 Try.results127 (by simp) (entc_dids _) ?_
      simp only [go_sem, lns, fld]
      refine vCall_of (hV) ?_ ?_ ?_; (focus simp only [go_sem, fld]); (focus simp only [go_sem, fld])
      simp only [go_sem, ent, lns]
      refine vCall_of (hG) ?_ ?_ ?_; (focus simp only [go_sem, lns]); (focus simp only [go_sem, lns])
      simp only [go_sem, refs, ref, List.map_cons, List.map_nil]
      refine vCall_of (hE0) ?_ ?_ ?_; (focus simp only [go_sem, ents, ref]); (focus simp only [go_sem, ents, ref])
      simp only [go_sem, eptc, Option.getD_some, Option.isSome_some, ent]
      refine vDrawS [(12, 10)] (by kernel_rfl) (by kernel_rfl) (by exact rfl) ?_
      simp only [go_sem, entc, ent, fromM, hvm]
  ·
    have hg : goesR ⟨2, at', nm, ot, fac, fd, fo, ba⟩ = [] := by simp [goesR]
    rw [hg] at hG ⊢
    rw [if_pos (.inl rfl)]
    refine PL.Pure.of_v Try.func127 (by decide) rfl Try.ntmps127 Try.results127 (by simp) (entc_dids _) ?_
    simp only [go_sem, lns, fld]
    refine vCall_of (hV) ?_ ?_ ?_; (focus simp only [go_sem, fld]); (focus simp only [go_sem, fld])
    simp only [go_sem, ent, lns]
    refine vCall_of (hG) ?_ ?_ ?_; (focus simp only [go_sem, lns]); (focus simp only [go_sem, lns])
    simp only [go_sem, refs, ref, List.map_cons, List.map_nil]
    simp only [go_sem, entc, ent]
  ·
    have hg : goesR ⟨3, at', nm, ot, fac, fd, fo, ba⟩ = [fd.at'] := by simp [goesR]
    rw [hg] at hG ⊢
    rw [if_neg (fun h => by rcases h with h | ⟨h, _⟩ <;> exact absurd h (by decide))]
    have hE0 := hE fd.at'
    simp only [List.getD_cons_zero, List.getD_cons_succ]
    cases hq : entM es fd.at' with
    | none =>
      rw [hq] at hE0
      refine PL.Pure.of_v Try.func127 (by decide) rfl Try.ntmps127 Try.results127 (by simp) (entc_dids _) ?_
      simp only [go_sem, lns, fld]
      refine vCall_of (hV) ?_ ?_ ?_; (focus simp only [go_sem, fld]); (focus simp only [go_sem, fld])
      simp only [go_sem, ent, lns]
      refine vCall_of (hG) ?_ ?_ ?_; (focus simp only [go_sem, lns]); (focus simp only [go_sem, lns])
      simp only [go_sem, refs, ref, List.map_cons, List.map_nil]
      refine vCall_of (hE0) ?_ ?_ ?_; (focus simp only [go_sem, ents, ref]); (focus simp only [go_sem, ents, ref])
      simp only [go_sem, eptc, Option.getD_none, Option.isSome_none, entc, ent]
      rfl
    | some e =>
      rw [hq] at hE0
      have hel := hmem _ e hq
      refine PL.Pure.of_v Try.func127 (by decide) rfl Try.ntmps127 Try.results127 (by simp) (entc_dids _) ?_
      simp only [go_sem, lns, fld]
      refine vCall_of (hV) ?_ ?_ ?_; (focus simp only [go_sem, fld]); (focus simp only [go_sem, fld])
      simp only [go_sem, ent, lns]
      refine vCall_of (hG) ?_ ?_ ?_; (focus simp only [go_sem, lns]); (focus simp only [go_sem, lns])
      simp only [go_sem, refs, ref, List.map_cons, List.map_nil]
      refine vCall_of (hE0) ?_ ?_ ?_; (focus simp only [go_sem, ents, ref]); (focus simp only [go_sem, ents, ref])
      simp only [go_sem, eptc, Option.getD_some, Option.isSome_some, ent, entc, fromM, hvm]
  ·
    have hg : goesR ⟨4, at', nm, ot, fac, fd, fo, ba⟩ = [at'] := by simp [goesR]
    rw [hg] at hG ⊢
    rw [if_neg (fun h => by rcases h with h | ⟨h, _⟩ <;> exact absurd h (by decide))]
    have hE0 := hE at'
    simp only [List.getD_cons_zero, List.getD_cons_succ]
    cases hq : entM es at' with
    | none =>
      rw [hq] at hE0
      refine PL.Pure.of_v Try.func127 (by decide) rfl Try.ntmps127 Try.results127 (by simp) (entc_dids _) ?_
      simp only [go_sem, lns, fld]
      refine vCall_of (hV) ?_ ?_ ?_; (focus simp only [go_sem, fld]); (focus simp only [go_sem, fld])
      simp only [go_sem, ent, lns]
      refine vCall_of (hG) ?_ ?_ ?_; (focus simp only [go_sem, lns]); (focus simp only [go_sem, lns])
      simp only [go_sem, refs, ref, List.map_cons, List.map_nil]
      refine vCall_of (hE0) ?_ ?_ ?_; (focus simp only [go_sem, ents, ref]); (focus simp only [go_sem, ents, ref])
      simp only [go_sem, eptc, Option.getD_none, Option.isSome_none, entc, ent]
      rfl
    | some e =>
      rw [hq] at hE0
      have hel := hmem _ e hq
      refine PL.Pure.of_v Try.func127 (by decide) rfl Try.ntmps127 Try.results127 (by simp) (entc_dids _) ?_
      simp only [go_sem, lns, fld]
      refine vCall_of (hV) ?_ ?_ ?_; (focus simp only [go_sem, fld]); (focus simp only [go_sem, fld])
      simp only [go_sem, ent, lns]
      refine vCall_of (hG) ?_ ?_ ?_; (focus simp only [go_sem, lns]); (focus simp only [go_sem, lns])
      simp only [go_sem, refs, ref, List.map_cons, List.map_nil]
      refine vCall_of (hE0) ?_ ?_ ?_; (focus simp only [go_sem, ents, ref]); (focus simp only [go_sem, ents, ref])
      simp only [go_sem, eptc, Option.getD_some, Option.isSome_some, ent]
      refine vDrawS [(12, 10)] (by kernel_rfl) (by kernel_rfl) (by exact rfl) ?_
      simp only [go_sem, entc, ent, fromM, hvm]
  ·
    have hg : goesR ⟨5, at', nm, ot, fac, fd, fo, ba⟩ = [at'] := by simp [goesR]
    rw [hg] at hG ⊢
    rw [if_neg (fun h => by rcases h with h | ⟨h, _⟩ <;> exact absurd h (by decide))]
    have hE0 := hE at'
    simp only [List.getD_cons_zero, List.getD_cons_succ]
    cases hq : entM es at' with
    | none =>
      rw [hq] at hE0
      refine PL.Pure.of_v Try.func127 (by decide) rfl Try.ntmps127 Try.results127 (by simp) (entc_dids _) ?_
      simp only [go_sem, lns, fld]
      refine vCall_of (hV) ?_ ?_ ?_; (focus simp only [go_sem, fld]); (focus simp only [go_sem, fld])
      simp only [go_sem, ent, lns]
      refine vCall_of (hG) ?_ ?_ ?_; (focus simp only [go_sem, lns]); (focus simp only [go_sem, lns])
      simp only [go_sem, refs, ref, List.map_cons, List.map_nil]
      refine vCall_of (hE0) ?_ ?_ ?_; (focus simp only [go_sem, ents, ref]); (focus simp only [go_sem, ents, ref])
      simp only [go_sem, eptc, Option.getD_none, Option.isSome_none, entc, ent]
      rfl
    | some e =>
      rw [hq] at hE0
      have hel := hmem _ e hq
      refine PL.Pure.of_v Try.func127 (by decide) rfl Try.ntmps127 Try.results127 (by simp) (entc_dids _) ?_
      simp only [go_sem, lns, fld]
      refine vCall_of (hV) ?_ ?_ ?_; (focus simp only [go_sem, fld]); (focus simp only [go_sem, fld])
      simp only [go_sem, ent, lns]
      refine vCall_of (hG) ?_ ?_ ?_; (focus simp only [go_sem, lns]); (focus simp only [go_sem, lns])
      simp only [go_sem, refs, ref, List.map_cons, List.map_nil]
      refine vCall_of (hE0) ?_ ?_ ?_; (focus simp only [go_sem, ents, ref]); (focus simp only [go_sem, ents, ref])
      simp only [go_sem, eptc, Option.getD_some, Option.isSome_some, ent]
      refine vDrawS [(12, 10)] (by kernel_rfl) (by kernel_rfl) (by exact rfl) ?_
      simp only [go_sem, entc, ent, fromM, hvm]
  ·
    have hg : goesR ⟨6, at', nm, ot, fac, fd, fo, ba⟩ = [at'] := by simp [goesR]
    rw [hg] at hG ⊢
    by_cases hi : 0 < i
    · rw [if_pos (.inr ⟨rfl, hi⟩)]
      refine PL.Pure.of_v Try.func127 (by decide) rfl Try.ntmps127 Try.results127 (by simp) (entc_dids _) ?_
      simp only [go_sem, lns, fld]
      refine vCall_of (hV) ?_ ?_ ?_; (focus simp only [go_sem, fld]); (focus simp only [go_sem, fld])
      simp only [go_sem, ent, lns]
      refine vCall_of (hG) ?_ ?_ ?_; (focus simp only [go_sem, lns]); (focus simp only [go_sem, lns])
      simp only [go_sem, refs, ref, List.map_cons, List.map_nil]
      simp only [go_sem, hi, entc, ent]
    · rw [if_neg (fun h => hi (h.elim (fun g => absurd g (by decide)) (·.2)))]
      have hE0 := hE at'
      simp only [List.getD_cons_zero, List.getD_cons_succ]
      cases hq : entM es at' with
      | none =>
        rw [hq] at hE0
        refine PL.Pure.of_v Try.func127 (by decide) rfl Try.ntmps127 Try.results127 (by simp) (entc_dids _) ?_
        simp only [go_sem, lns, fld]
        refine vCall_of (hV) ?_ ?_ ?_; (focus simp only [go_sem, fld]); (focus simp only [go_sem, fld])
        simp only [go_sem, ent, lns]
        refine vCall_of (hG) ?_ ?_ ?_; (focus simp only [go_sem, lns]); (focus simp only [go_sem, lns])
        simp only [go_sem, hi, refs, ref, List.map_cons, List.map_nil]
        refine vCall_of (hE0) ?_ ?_ ?_; (focus simp only [go_sem, ents, ref]); (focus simp only [go_sem, ents, ref])
        simp only [go_sem, eptc, Option.getD_none, Option.isSome_none, entc, ent]
        rfl
      | some e =>
        rw [hq] at hE0
        have hel := hmem _ e hq
        refine PL.Pure.of_v Try.func127 (by decide) rfl Try.ntmps127 Try.results127 (by simp) (entc_dids _) ?_
        simp only [go_sem, lns, fld]
        refine vCall_of (hV) ?_ ?_ ?_; (focus simp only [go_sem, fld]); (focus simp only [go_sem, fld])
        simp only [go_sem, ent, lns]
        refine vCall_of (hG) ?_ ?_ ?_; (focus simp only [go_sem, lns]); (focus simp only [go_sem, lns])
        simp only [go_sem, hi, refs, ref, List.map_cons, List.map_nil]
        refine vCall_of (hE0) ?_ ?_ ?_; (focus simp only [go_sem, ents, ref]); (focus simp only [go_sem, ents, ref])
        simp only [go_sem, eptc, Option.getD_some, Option.isSome_some, ent, entc, fromM, hvm]
  ·
    have hg : goesR ⟨7, at', nm, ot, fac, fd, fo, ba⟩ = [at'] := by simp [goesR]
    rw [hg] at hG ⊢
    rw [if_neg (fun h => by rcases h with h | ⟨h, _⟩ <;> exact absurd h (by decide))]
    have hE0 := hE at'
    simp only [List.getD_cons_zero, List.getD_cons_succ]
    cases hq : entM es at' with
    | none =>
      rw [hq] at hE0
      refine PL.Pure.of_v Try.func127 (by decide) rfl Try.ntmps127 Try.results127 (by simp) (entc_dids _) ?_
      simp only [go_sem, lns, fld]
      refine vCall_of (hV) ?_ ?_ ?_; (focus simp only [go_sem, fld]); (focus simp only [go_sem, fld])
      simp only [go_sem, ent, lns]
      refine vCall_of (hG) ?_ ?_ ?_; (focus simp only [go_sem, lns]); (focus simp only [go_sem, lns])
      simp only [go_sem, refs, ref, List.map_cons, List.map_nil]
      refine vCall_of (hE0) ?_ ?_ ?_; (focus simp only [go_sem, ents, ref]); (focus simp only [go_sem, ents, ref])
      simp only [go_sem, eptc, Option.getD_none, Option.isSome_none, entc, ent]
      rfl
    | some e =>
      rw [hq] at hE0
      have hel := hmem _ e hq
      by_cases h0 : 0 < (e.l.length : Int)
      · have h00 : 0 < e.l.length := by omega
        have gs := getD_str h00
        cases hb : (e.l.getD 0 [] == ot)
        · have hc : ¬ e.l.getD 0 [] = ot := by simpa using hb
          refine PL.Pure.of_v Try.func127 (by decide) rfl Try.ntmps127 Try.results127 (by simp) (entc_dids _) ?_
          simp only [go_sem, lns, fld]
          refine vCall_of (hV) ?_ ?_ ?_; (focus simp only [go_sem, fld]); (focus simp only [go_sem, fld])
          simp only [go_sem, ent, lns]
          refine vCall_of (hG) ?_ ?_ ?_; (focus simp only [go_sem, lns]); (focus simp only [go_sem, lns])
          simp only [go_sem, refs, ref, List.map_cons, List.map_nil]
          refine vCall_of (hE0) ?_ ?_ ?_; (focus simp only [go_sem, ents, ref]); (focus simp only [go_sem, ents, ref])
          simp only [go_sem, eptc, Option.getD_some, Option.isSome_some, ent]
          refine vDrawQ (by kernel_rfl) (by kernel_rfl) ?_
          simp only [go_sem, h0, gs, List.length_map, hb, Bool.not_true, Bool.not_false]
          have hcut : PL.cut (e.l.map PV.str) 0 1 = [.str (e.l.getD 0 [])] := by rcases hl : e.l with _ | ⟨a, t⟩ <;> simp_all [PL.cut]
          have h1 : (1 : Int) ≤ (e.l.length : Int) := by omega
          simp only [go_sem, h1, hcut, sized_str, entc, ent, fromM, hvm, h0, hc, List.map_cons, List.map_nil]
        · have hc :  e.l.getD 0 [] = ot := by simpa using hb
          refine PL.Pure.of_v Try.func127 (by decide) rfl Try.ntmps127 Try.results127 (by simp) (entc_dids _) ?_
          simp only [go_sem, lns, fld]
          refine vCall_of (hV) ?_ ?_ ?_; (focus simp only [go_sem, fld]); (focus simp only [go_sem, fld])
          simp only [go_sem, ent, lns]
          refine vCall_of (hG) ?_ ?_ ?_; (focus simp only [go_sem, lns]); (focus simp only [go_sem, lns])
          simp only [go_sem, refs, ref, List.map_cons, List.map_nil]
          refine vCall_of (hE0) ?_ ?_ ?_; (focus simp only [go_sem, ents, ref]); (focus simp only [go_sem, ents, ref])
          simp only [go_sem, eptc, Option.getD_some, Option.isSome_some, ent]
          refine vDrawQ (by kernel_rfl) (by kernel_rfl) ?_
          simp only [go_sem, h0, gs, List.length_map, hb, Bool.not_true, Bool.not_false]
          simp only [go_sem, entc, ent, fromM, hvm, h0, hc, List.map_nil]
          rfl
      · refine PL.Pure.of_v Try.func127 (by decide) rfl Try.ntmps127 Try.results127 (by simp) (entc_dids _) ?_
        simp only [go_sem, lns, fld]
        refine vCall_of (hV) ?_ ?_ ?_; (focus simp only [go_sem, fld]); (focus simp only [go_sem, fld])
        simp only [go_sem, ent, lns]
        refine vCall_of (hG) ?_ ?_ ?_; (focus simp only [go_sem, lns]); (focus simp only [go_sem, lns])
        simp only [go_sem, refs, ref, List.map_cons, List.map_nil]
        refine vCall_of (hE0) ?_ ?_ ?_; (focus simp only [go_sem, ents, ref]); (focus simp only [go_sem, ents, ref])
        simp only [go_sem, eptc, Option.getD_some, Option.isSome_some, ent]
        refine vDrawQ (by kernel_rfl) (by kernel_rfl) ?_
        simp only [go_sem, h0, List.length_map, entc, ent, fromM, hvm, List.map_nil]
        rfl
  ·
    have hg : goesR ⟨8, at', nm, ot, fac, fd, fo, ba⟩ = [at'] := by simp [goesR]
    rw [hg] at hG ⊢
    rw [if_neg (fun h => by rcases h with h | ⟨h, _⟩ <;> exact absurd h (by decide))]
    have hE0 := hE at'
    simp only [List.getD_cons_zero, List.getD_cons_succ]
    cases hq : entM es at' with
    | none =>
      rw [hq] at hE0
      refine PL.Pure.of_v Try.func127 (by decide) rfl Try.ntmps127 Try.results127 (by simp) (entc_dids _) ?_
      simp only [go_sem, lns, fld]
      refine vCall_of (hV) ?_ ?_ ?_; (focus simp only [go_sem, fld]); (focus simp only [go_sem, fld])
      simp only [go_sem, ent, lns]
      refine vCall_of (hG) ?_ ?_ ?_; (focus simp only [go_sem, lns]); (focus simp only [go_sem, lns])
      simp only [go_sem, refs, ref, List.map_cons, List.map_nil]
      refine vCall_of (hE0) ?_ ?_ ?_; (focus simp only [go_sem, ents, ref]); (focus simp only [go_sem, ents, ref])
      simp only [go_sem, eptc, Option.getD_none, Option.isSome_none, entc, ent]
      rfl
    | some e =>
      rw [hq] at hE0
      have hel := hmem _ e hq
      by_cases h0 : 0 < (e.l.length : Int)
      · have h00 : 0 < e.l.length := by omega
        have gs := getD_str h00
        have hC := Case_pure fo (e.l.getD 0 []) hfo
        refine PL.Pure.of_v Try.func127 (by decide) rfl Try.ntmps127 Try.results127 (by simp) (entc_dids _) ?_
        simp only [go_sem, lns, fld]
        refine vCall_of (hV) ?_ ?_ ?_; (focus simp only [go_sem, fld]); (focus simp only [go_sem, fld])
        simp only [go_sem, ent, lns]
        refine vCall_of (hG) ?_ ?_ ?_; (focus simp only [go_sem, lns]); (focus simp only [go_sem, lns])
        simp only [go_sem, refs, ref, List.map_cons, List.map_nil]
        refine vCall_of (hE0) ?_ ?_ ?_; (focus simp only [go_sem, ents, ref]); (focus simp only [go_sem, ents, ref])
        simp only [go_sem, eptc, Option.getD_some, Option.isSome_some, ent, h0, List.length_map]
        refine vDrawQ (by kernel_rfl) (by kernel_rfl) ?_
        simp only [go_sem, h0, gs, List.length_map]
        refine vCall_of (hC) ?_ ?_ ?_; (focus simp only [go_sem, prs]); (focus simp only [go_sem, prs])
        simp only [go_sem, strb, entc, ent, fromM, hvm, h0, List.map_cons, List.map_nil]
      · refine PL.Pure.of_v Try.func127 (by decide) rfl Try.ntmps127 Try.results127 (by simp) (entc_dids _) ?_
        simp only [go_sem, lns, fld]
        refine vCall_of (hV) ?_ ?_ ?_; (focus simp only [go_sem, fld]); (focus simp only [go_sem, fld])
        simp only [go_sem, ent, lns]
        refine vCall_of (hG) ?_ ?_ ?_; (focus simp only [go_sem, lns]); (focus simp only [go_sem, lns])
        simp only [go_sem, refs, ref, List.map_cons, List.map_nil]
        refine vCall_of (hE0) ?_ ?_ ?_; (focus simp only [go_sem, ents, ref]); (focus simp only [go_sem, ents, ref])
        simp only [go_sem, eptc, Option.getD_some, Option.isSome_some, ent, h0, List.length_map, entc, fromM, hvm]
  ·
    have hg : goesR ⟨9, at', nm, ot, fac, fd, fo, ba⟩ = [named at' nm, named at' ot] := by simp [goesR]
    rw [hg] at hG ⊢
    rw [if_neg (fun h => by rcases h with h | ⟨h, _⟩ <;> exact absurd h (by decide))]
    have hE0 := hE (named at' nm)
    simp only [List.getD_cons_zero, List.getD_cons_succ]
    cases hq : entM es (named at' nm) with
    | none =>
      rw [hq] at hE0
      refine PL.Pure.of_v Try.func127 (by decide) rfl Try.ntmps127 Try.results127 (by simp) (entc_dids _) ?_
      simp only [go_sem, lns, fld]
      refine vCall_of (hV) ?_ ?_ ?_; (focus simp only [go_sem, fld]); (focus simp only [go_sem, fld])
      simp only [go_sem, ent, lns]
      refine vCall_of (hG) ?_ ?_ ?_; (focus simp only [go_sem, lns]); (focus simp only [go_sem, lns])
      simp only [go_sem, refs, ref, List.map_cons, List.map_nil]
      refine vCall_of (hE0) ?_ ?_ ?_; (focus simp only [go_sem, ents, ref]); (focus simp only [go_sem, ents, ref])
      simp only [go_sem, eptc, Option.getD_none, Option.isSome_none, entc, ent]
      rfl
    | some e =>
      rw [hq] at hE0
      have hel := hmem _ e hq
      have hE1 := hE (named at' ot)
      cases hq1 : entM es (named at' ot) with
      | none =>
        rw [hq1] at hE1
        refine PL.Pure.of_v Try.func127 (by decide) rfl Try.ntmps127 Try.results127 (by simp) (entc_dids _) ?_
        simp only [go_sem, lns, fld]
        refine vCall_of (hV) ?_ ?_ ?_; (focus simp only [go_sem, fld]); (focus simp only [go_sem, fld])
        simp only [go_sem, ent, lns]
        refine vCall_of (hG) ?_ ?_ ?_; (focus simp only [go_sem, lns]); (focus simp only [go_sem, lns])
        simp only [go_sem, refs, ref, List.map_cons, List.map_nil]
        refine vCall_of (hE0) ?_ ?_ ?_; (focus simp only [go_sem, ents, ref]); (focus simp only [go_sem, ents, ref])
        simp only [go_sem, eptc, Option.getD_some, Option.isSome_some, ent]
        refine vCall_of (hE1) ?_ ?_ ?_; (focus simp only [go_sem, ents, ref]); (focus simp only [go_sem, ents, ref])
        simp only [go_sem, eptc, Option.getD_none, Option.isSome_none, entc, ent]
        rfl
      | some e2 =>
        rw [hq1] at hE1
        have hM := pmerged_pure e.n e2.n fac
        simp only [if_true]
        generalize mergI e.n e2.n fac = mg at *
        obtain ⟨mv, mc⟩ := mg
        simp only at hM ⊢
        by_cases hc : mc = 0
        · subst hc
          refine PL.Pure.of_v Try.func127 (by decide) rfl Try.ntmps127 Try.results127 (by simp) (entc_dids _) ?_
          simp only [go_sem, lns, fld]
          refine vCall_of (hV) ?_ ?_ ?_; (focus simp only [go_sem, fld]); (focus simp only [go_sem, fld])
          simp only [go_sem, ent, lns]
          refine vCall_of (hG) ?_ ?_ ?_; (focus simp only [go_sem, lns]); (focus simp only [go_sem, lns])
          simp only [go_sem, refs, ref, List.map_cons, List.map_nil]
          refine vCall_of (hE0) ?_ ?_ ?_; (focus simp only [go_sem, ents, ref]); (focus simp only [go_sem, ents, ref])
          simp only [go_sem, eptc, Option.getD_some, Option.isSome_some, ent]
          refine vCall_of (hE1) ?_ ?_ ?_; (focus simp only [go_sem, ents, ref]); (focus simp only [go_sem, ents, ref])
          simp only [go_sem, eptc, Option.getD_some, Option.isSome_some, ent]
          refine vCall_of (hM) ?_ ?_ ?_; (focus simp only [go_sem]); (focus simp only [go_sem])
          simp only [go_sem, intc, entc, ent]
        · have hc' : (mc != 0) = true := bne_iff_ne.2 hc
          rw [if_neg hc]
          refine PL.Pure.of_v Try.func127 (by decide) rfl Try.ntmps127 Try.results127 (by simp) (entc_dids _) ?_
          simp only [go_sem, lns, fld]
          refine vCall_of (hV) ?_ ?_ ?_; (focus simp only [go_sem, fld]); (focus simp only [go_sem, fld])
          simp only [go_sem, ent, lns]
          refine vCall_of (hG) ?_ ?_ ?_; (focus simp only [go_sem, lns]); (focus simp only [go_sem, lns])
          simp only [go_sem, refs, ref, List.map_cons, List.map_nil]
          refine vCall_of (hE0) ?_ ?_ ?_; (focus simp only [go_sem, ents, ref]); (focus simp only [go_sem, ents, ref])
          simp only [go_sem, eptc, Option.getD_some, Option.isSome_some, ent]
          refine vCall_of (hE1) ?_ ?_ ?_; (focus simp only [go_sem, ents, ref]); (focus simp only [go_sem, ents, ref])
          simp only [go_sem, eptc, Option.getD_some, Option.isSome_some, ent]
          refine vCall_of (hM) ?_ ?_ ?_; (focus simp only [go_sem]); (focus simp only [go_sem])
          simp only [go_sem, intc, hc', entc, ent]
          rfl
  ·
    have hg : goesR ⟨10, at', nm, ot, fac, fd, fo, ba⟩ = [at'] := by simp [goesR]
    rw [hg] at hG ⊢
    rw [if_neg (fun h => by rcases h with h | ⟨h, _⟩ <;> exact absurd h (by decide))]
    have hE0 := hE at'
    simp only [List.getD_cons_zero, List.getD_cons_succ]
    cases hq : entM es at' with
    | none =>
      rw [hq] at hE0
      refine PL.Pure.of_v Try.func127 (by decide) rfl Try.ntmps127 Try.results127 (by simp) (entc_dids _) ?_
      simp only [go_sem, lns, fld]
      refine vCall_of (hV) ?_ ?_ ?_; (focus simp only [go_sem, fld]); (focus simp only [go_sem, fld])
      simp only [go_sem, ent, lns]
      refine vCall_of (hG) ?_ ?_ ?_; (focus simp only [go_sem, lns]); (focus simp only [go_sem, lns])
      simp only [go_sem, refs, ref, List.map_cons, List.map_nil]
      refine vCall_of (hE0) ?_ ?_ ?_; (focus simp only [go_sem, ents, ref]); (focus simp only [go_sem, ents, ref])
      simp only [go_sem, eptc, Option.getD_none, Option.isSome_none, entc, ent]
      rfl
    | some e =>
      rw [hq] at hE0
      have hel := hmem _ e hq
      by_cases h0 : 0 < (e.l.length : Int)
      · have h00 : 0 < e.l.length := by omega
        have w1 : IntKind.i64.wrap ((e.l.length : Int) - 1) = ((e.l.length - 1 : Nat) : Int) := by rw [w64 (by omega)]; omega
        have gs := getD_str (show e.l.length - 1 < e.l.length by omega)
        have j1 : (0 : Int) ≤ ((e.l.length - 1 : Nat) : Int) := by omega
        have j2 : ((e.l.length - 1 : Nat) : Int) < (e.l.length : Int) := by omega
        refine PL.Pure.of_v Try.func127 (by decide) rfl Try.ntmps127 Try.results127 (by simp) (entc_dids _) ?_
        simp only [go_sem, lns, fld]
        refine vCall_of (hV) ?_ ?_ ?_; (focus simp only [go_sem, fld]); (focus simp only [go_sem, fld])
        simp only [go_sem, ent, lns]
        refine vCall_of (hG) ?_ ?_ ?_; (focus simp only [go_sem, lns]); (focus simp only [go_sem, lns])
        simp only [go_sem, refs, ref, List.map_cons, List.map_nil]
        refine vCall_of (hE0) ?_ ?_ ?_; (focus simp only [go_sem, ents, ref]); (focus simp only [go_sem, ents, ref])
        simp only [go_sem, eptc, Option.getD_some, Option.isSome_some, ent, h0, List.length_map, w1, j1, j2, gs, entc, fromM, hvm, List.map_cons, List.map_nil]
      · refine PL.Pure.of_v Try.func127 (by decide) rfl Try.ntmps127 Try.results127 (by simp) (entc_dids _) ?_
        simp only [go_sem, lns, fld]
        refine vCall_of (hV) ?_ ?_ ?_; (focus simp only [go_sem, fld]); (focus simp only [go_sem, fld])
        simp only [go_sem, ent, lns]
        refine vCall_of (hG) ?_ ?_ ?_; (focus simp only [go_sem, lns]); (focus simp only [go_sem, lns])
        simp only [go_sem, refs, ref, List.map_cons, List.map_nil]
        refine vCall_of (hE0) ?_ ?_ ?_; (focus simp only [go_sem, ents, ref]); (focus simp only [go_sem, ents, ref])
        simp only [go_sem, eptc, Option.getD_some, Option.isSome_some, ent, h0, List.length_map, entc, fromM, hvm]
end Go.Proofs.Ytbojhapdidieoaa
