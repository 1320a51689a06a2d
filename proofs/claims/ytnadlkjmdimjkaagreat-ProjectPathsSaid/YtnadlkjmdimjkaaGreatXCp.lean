/- Contracts of functions and laws of this seat, each for every input that it names: lemmas of the proof. -/
import Derived.Test.YtnadlkjmdimjkaaGreatXCj
set_option linter.unusedSimpArgs false
set_option linter.unusedVariables false
set_option linter.unusedSimpArgs false
set_option linter.unusedVariables false
namespace Go.Proofs.YtnadlkjmdimjkaaGreat
open Go.PL
set_option maxRecDepth 20000 in
set_option maxHeartbeats 16000000 in
theorem DRight_pure (l : List Fd) (d : Dc) (hl : l.length ≤ maxLen) (hl' : ∀ f ∈ l, f.cases'.length ≤ 1000000) (hd : Fine d) : PL.Pure Tryz.prog 41 [flds l, doc d] (.bool (rightD l d)) := by
  obtain ⟨d1, d2, d3, d4⟩ := hd
  have hl2 : ∀ f ∈ l, f.cases'.length ≤ maxLen := fun f hf => by have := hl' f hf; rw [maxLen_eq]; omega
  have hR := SRight_pure l hl hl2
  cases hr : rightL l
  · rw [hr] at hR
    have hx : rightD l d = false := by simp only [rightD, headOk, hr, Bool.false_and]
    refine PL.Pure.of_v Tryz.func41 (by decide) rfl Tryz.ntmps41 Tryz.results41 (by simp) rfl ?_
    simp only [go_sem, flds, doc]
    refine vCall_of (hR) ?_ ?_ ?_; (focus simp only [go_sem, flds]); (focus simp only [go_sem, flds])
    simp only [go_sem, hx]
  · rw [hr] at hR
    have h16 := rightL_len hr
    have sl : ∀ sc, (scopeM l sc).length ≤ maxLen := fun sc => Nat.le_trans (List.length_filter_le _ _) hl
    have sc : ∀ s, ∀ f ∈ scopeM l s, f.cases'.length ≤ maxLen := fun s f hf => hl2 f (List.mem_filter.1 hf).1
    have hS0 := Scope_pure l 0 (by omega) hl'
    have hS1 := Scope_pure l 1 (by omega) hl'
    by_cases h4 : (400 : Int) < (d.rows.length : Int)
    · have hx : rightD l d = false := by simp only [rightD, headOk, h4, decide_true, Bool.not_true, Bool.false_and, Bool.and_false]
      refine PL.Pure.of_v Tryz.func41 (by decide) rfl Tryz.ntmps41 Tryz.results41 (by simp) rfl ?_
      simp only [go_sem, flds, doc]
      refine vCall_of (hR) ?_ ?_ ?_; (focus simp only [go_sem, flds]); (focus simp only [go_sem, flds])
      simp only [go_sem, h4, hx]
    · have hE := rightEntries_pure (scopeM l 0) d.head (sl 0) d1 (sc 0) d3
      cases he : entriesB (scopeM l 0) d.head
      · rw [he] at hE
        have hx : rightD l d = false := by simp only [rightD, headOk, he, Bool.false_and, Bool.and_false]
        refine PL.Pure.of_v Tryz.func41 (by decide) rfl Tryz.ntmps41 Tryz.results41 (by simp) rfl ?_
        simp only [go_sem, flds, doc]
        refine vCall_of (hR) ?_ ?_ ?_; (focus simp only [go_sem, flds]); (focus simp only [go_sem, flds])
        simp only [go_sem, h4]
        refine vDrawQ (by kernel_rfl) (by kernel_rfl) ?_
        simp only [go_sem, flds]
        refine vCall_of (hS0) ?_ ?_ ?_; (focus simp only [go_sem, flds]); (focus simp only [go_sem, flds])
        simp only [go_sem, flds]
        refine vCall_of (hE) ?_ ?_ ?_; (focus simp only [go_sem, flds, ents]); (focus simp only [go_sem, flds, ents])
        simp only [go_sem, hx]
      · rw [he] at hE
        have hx : rightD l d = (List.range d.rows.length).all (rowOk l d.rows) := by simp only [rightD, headOk, hr, h4, he, decide_false, Bool.not_false, Bool.and_self, Bool.true_and]
        rw [hx]
        refine PL.Pure.of_v Tryz.func41 (by decide) rfl Tryz.ntmps41 Tryz.results41 (by simp) rfl ?_
        simp only [go_sem, flds, doc]
        refine vCall_of (hR) ?_ ?_ ?_; (focus simp only [go_sem, flds]); (focus simp only [go_sem, flds])
        simp only [go_sem, h4]
        refine vDrawQ (by kernel_rfl) (by kernel_rfl) ?_
        simp only [go_sem, flds]
        refine vCall_of (hS0) ?_ ?_ ?_; (focus simp only [go_sem, flds]); (focus simp only [go_sem, flds])
        simp only [go_sem, flds]
        refine vCall_of (hE) ?_ ?_ ?_; (focus simp only [go_sem, flds, ents]); (focus simp only [go_sem, flds, ents])
        simp only [go_sem, flds]
        refine vCall_of (hS1) ?_ ?_ ?_; (focus simp only [go_sem, flds]); (focus simp only [go_sem, flds])
        simp only [go_sem]
        refine vLoopM (ι := { x : Nat // x ≤ (d.rows).length ∧ (∀ j, j < x → rowOk l d.rows j = true) }) 59 (fun x => [(3, .ptr 3 0), (5, flds (scopeM l 1)), (26, .sl .no (d.rows.map row)), (27, .int .i64 (d.rows.length : Int)), (28, .int .i64 (x.1 : Int))]) (fun x => [(3, [.sl .no (d.head.map ent), .sl .no (d.rows.map row)], false)]) (fun x => []) (fun x => (d.rows).length - x.1) ⟨0, Nat.zero_le _, fun j hj => absurd hj (Nat.not_lt_zero j)⟩ ⟨rfl, (forall_cons rfl (forall_cons rfl (forall_cons rfl (forall_cons rfl (forall_cons rfl forall_nil))))), (forall_cons ⟨rfl, rfl⟩ forall_nil), forall_nil⟩ (fun x => ⟨(forall_cons rfl (forall_cons rfl (forall_cons (by simp [PV.ids, refInM]) (forall_cons (by simp [PV.ids, refInM]) (forall_cons rfl forall_nil))))), (forall_cons (by simp [PV.ids, PV.idsL, refInM]) forall_nil)⟩) (fun x => ?_); obtain ⟨k, hk, hI⟩ := x; simp only at hk hI ⊢
        by_cases h : (k : Int) < (d.rows.length : Int)
        · (have hka : k < (d.rows).length := by omega); (have w1 := w64s hka (d2)); (have i1 : (0 : Int) ≤ (k : Int) := by omega)
          have hN := Name_pure (d.rows.getD k default).item
          have rk := d4 _ (getD_mem' (d := default) hka)
          have hE1 := rightEntries_pure (scopeM l 1) (d.rows.getD k default).l (sl 1) rk.1 (sc 1) rk.2
          have gk := getD_row' hka
          cases hn : nameB (d.rows.getD k default).item
          · rw [hn] at hN
            have hz := rall_false (p := rowOk l d.rows) hka (by simp only [rowOk, hn, Bool.false_and])
            simp only [go_sem, h, gk, row, i1]
            refine vDrawQ (by kernel_rfl) (by kernel_rfl) ?_
            simp only [go_sem, h, gk, row, i1]
            refine vCall_of (hN) ?_ ?_ ?_; (focus simp only [go_sem]); (focus simp only [go_sem])
            simp only [go_sem, hz]
          · rw [hn] at hN
            by_cases h0 : 0 < (k : Int)
            · have hk1 : k - 1 < d.rows.length := by omega
              have gj := getD_row' hk1
              have w2 : IntKind.i64.wrap ((k : Int) - 1) = ((k - 1 : Nat) : Int) := by
                rw [maxLen_eq] at d2
                rw [w64 (by omega)]; omega
              have j1 : (0 : Int) ≤ ((k - 1 : Nat) : Int) := by omega
              have j2 : ((k - 1 : Nat) : Int) < (d.rows.length : Int) := by omega
              cases hb : bytesLt (d.rows.getD (k - 1) default).item (d.rows.getD k default).item
              · have hz := rall_false (p := rowOk l d.rows) hka (by simp only [rowOk, hb, decide_eq_false (show ¬ k = 0 by omega), Bool.or_self, Bool.and_false, Bool.false_and])
                simp only [go_sem, h, gk, row, i1]
                refine vDrawQ (by kernel_rfl) (by kernel_rfl) ?_
                simp only [go_sem, h, gk, row, i1]
                refine vCall_of (hN) ?_ ?_ ?_; (focus simp only [go_sem]); (focus simp only [go_sem])
                simp only [go_sem, h0, w2, gj, gk, row, h, i1, j1, j2, hb, hz]
              · cases hf : entriesB (scopeM l 1) (d.rows.getD k default).l
                · rw [hf] at hE1
                  have hz := rall_false (p := rowOk l d.rows) hka (by simp only [rowOk, hf, Bool.and_false])
                  simp only [go_sem, h, gk, row, i1]
                  refine vDrawQ (by kernel_rfl) (by kernel_rfl) ?_
                  simp only [go_sem, h, gk, row, i1]
                  refine vCall_of (hN) ?_ ?_ ?_; (focus simp only [go_sem]); (focus simp only [go_sem])
                  simp only [go_sem, h0, w2, gj, gk, row, h, i1, j1, j2, hb, flds]
                  refine vCall_of (hE1) ?_ ?_ ?_; (focus simp only [go_sem, flds, ents]); (focus simp only [go_sem, flds, ents])
                  simp only [go_sem, hz]
                · rw [hf] at hE1
                  have ok : rowOk l d.rows k = true := by simp only [rowOk, hn, hb, hf, Bool.or_true, Bool.and_self]
                  simp only [go_sem, h, gk, row, i1]
                  refine vDrawQ (by kernel_rfl) (by kernel_rfl) ?_
                  simp only [go_sem, h, gk, row, i1]
                  refine vCall_of (hN) ?_ ?_ ?_; (focus simp only [go_sem]); (focus simp only [go_sem])
                  simp only [go_sem, h0, w2, gj, gk, row, h, i1, j1, j2, hb, flds]
                  refine vCall_of (hE1) ?_ ?_ ?_; (focus simp only [go_sem, flds, ents]); (focus simp only [go_sem, flds, ents])
                  simp only [go_sem, w1]
                  exact ⟨⟨k + 1, by (try simp only); omega, below_succ hI ok⟩, by show (d.rows).length - (k + 1) < (d.rows).length - k; omega, ⟨rfl, (forall_cons rfl (forall_cons rfl (forall_cons rfl (forall_cons rfl (forall_cons rfl forall_nil))))), (forall_cons ⟨rfl, rfl⟩ forall_nil), forall_nil⟩⟩
            · have hk0 : k = 0 := by omega
              cases hf : entriesB (scopeM l 1) (d.rows.getD k default).l
              · rw [hf] at hE1
                have hz := rall_false (p := rowOk l d.rows) hka (by simp only [rowOk, hf, Bool.and_false])
                simp only [go_sem, h, gk, row, i1]
                refine vDrawQ (by kernel_rfl) (by kernel_rfl) ?_
                simp only [go_sem, h, gk, row, i1]
                refine vCall_of (hN) ?_ ?_ ?_; (focus simp only [go_sem]); (focus simp only [go_sem])
                simp only [go_sem, h0, gk, row, h, i1, flds]
                refine vCall_of (hE1) ?_ ?_ ?_; (focus simp only [go_sem, flds, ents]); (focus simp only [go_sem, flds, ents])
                simp only [go_sem, hz]
              · rw [hf] at hE1
                have ok : rowOk l d.rows k = true := by simp only [rowOk, hn, decide_eq_true hk0, hf, Bool.true_or, Bool.and_self]
                simp only [go_sem, h, gk, row, i1]
                refine vDrawQ (by kernel_rfl) (by kernel_rfl) ?_
                simp only [go_sem, h, gk, row, i1]
                refine vCall_of (hN) ?_ ?_ ?_; (focus simp only [go_sem]); (focus simp only [go_sem])
                simp only [go_sem, h0, gk, row, h, i1, flds]
                refine vCall_of (hE1) ?_ ?_ ?_; (focus simp only [go_sem, flds, ents]); (focus simp only [go_sem, flds, ents])
                simp only [go_sem, w1]
                exact ⟨⟨k + 1, by (try simp only); omega, below_succ hI ok⟩, by show (d.rows).length - (k + 1) < (d.rows).length - k; omega, ⟨rfl, (forall_cons rfl (forall_cons rfl (forall_cons rfl (forall_cons rfl (forall_cons rfl forall_nil))))), (forall_cons ⟨rfl, rfl⟩ forall_nil), forall_nil⟩⟩
        · have hz := rall_true (p := rowOk l d.rows) (n := d.rows.length) (fun j hj => hI j (by omega))
          simp only [go_sem, h, hz]
theorem sized_row (l : List Rw) : Sized 2 (l.map row) := fun e he => by
  obtain ⟨x, _, rfl⟩ := List.mem_map.1 he; rfl
set_option maxRecDepth 20000 in
set_option maxHeartbeats 8000000 in
theorem ownEntries_pure (l : List En) (hl : l.length ≤ 100000) (hl' : ∀ e ∈ l, e.l.length ≤ 1000000) : PL.Pure Tryz.prog 140 [ents l] (ents l) := by
  have hm : l.length ≤ maxLen := by rw [maxLen_eq]; omega
  refine PL.Pure.of_v Tryz.func140 (by decide) rfl Tryz.ntmps140 Tryz.results140 (by simp) (ents_dids _) ?_
  simp only [go_sem, ents]
  refine awp_nilRow 3 16 5 128 rfl rfl ?_
  refine vLoopM (ι := { x : Nat × (List En) // x.1 ≤ (l).length ∧ (x.2 = l.take x.1) }) 19 (fun x => [(3, .sl (.row 16) (x.1.2.map ent)), (6, ents l), (7, .int .i64 (l.length : Int)), (8, .int .i64 (x.1.1 : Int))]) (fun x => []) (fun x => [(16, .live (x.1.2.length) (5) (128))]) (fun x => (l).length - x.1.1) ⟨(0, []), Nat.zero_le _, rfl⟩ ⟨rfl, (forall_cons rfl (forall_cons rfl (forall_cons rfl (forall_cons rfl forall_nil)))), forall_nil, (forall_cons rfl forall_nil)⟩ (fun x => ⟨(forall_cons (by simp [PV.ids, refInM]) (forall_cons rfl (forall_cons rfl (forall_cons rfl forall_nil)))), forall_nil⟩) (fun x => ?_); obtain ⟨⟨k, acc⟩, hk, hI⟩ := x; simp only at hk hI ⊢
  have hacc : acc.length ≤ l.length := by rw [hI]; exact take_le_len _ _
  by_cases h : (k : Int) < (l.length : Int)
  · (have hka : k < (l).length := by omega); (have w1 := w64s hka (hm)); (have i1 : (0 : Int) ≤ (k : Int) := by omega)
    have hr := room1 (show acc.length + 1 ≤ 1000000 by omega) (show 72 ≤ 1000 by omega)
    have hO := ownEntry_pure (l.getD k default) (hl' _ (getD_mem' hka))
    simp only [go_sem, ents, h, getD_ent' hka, ent, i1]
    refine vCall_of (hO) ?_ ?_ ?_; (focus simp only [go_sem, ent]); (focus simp only [go_sem, ent])
    simp only [go_sem, ent, sized_ent, hr, w1]
    exact ⟨⟨(k + 1, acc ++ [l.getD k default]), by (try simp only); omega, by simp only; rw [take_snoc (d := default) hka, hI]⟩, by show (l).length - (k + 1) < (l).length - k; omega, ⟨rfl, (forall_cons (by simp [upd, ent]) (forall_cons rfl (forall_cons rfl (forall_cons rfl forall_nil)))), forall_nil, (forall_cons (by simp [upd]) forall_nil)⟩⟩
  · obtain rfl : k = l.length := by omega
    rw [List.take_length] at hI
    subst hI
    simp only [go_sem, h, ents]
end Go.Proofs.YtnadlkjmdimjkaaGreat

set_option linter.unusedSimpArgs false
set_option linter.unusedVariables false
set_option linter.unusedSimpArgs false
set_option linter.unusedVariables false
namespace Go.Proofs.YtnadlkjmdimjkaaGreat
open Go.PL
theorem atoms_row (l : List Rw) : Atoms (l.map row) := fun e he => by
  obtain ⟨t, _, rfl⟩ := List.mem_map.1 he
  rfl
theorem row_dids (r : Rw) : (row r).dids = [] := by simp only [row, PV.dids, PV.didsL, didsL_ent, List.append_nil]
theorem didsL_row (l : List Rw) : PV.didsL (l.map row) = [] := by
  induction l with
  | nil => rfl
  | cons t l ih => simp only [List.map_cons, PV.didsL, ih, row_dids, List.append_nil]
theorem doc_dids (d : Dc) : (doc d).dids = [] := by simp only [doc, PV.dids, PV.didsL, didsL_ent, didsL_row, List.append_nil]
/-- rows gathered in a field of a block: nil at first -/
def gatC (i : Nat) (l : List Rw) : Nat → PV
  | 0 => .sl .nil []
  | k + 1 => .sl (.row i) ((l.take (k + 1)).map row)
def gatR (i : Nat) : Nat → List (Nat × Row)
  | 0 => []
  | k + 1 => [(i, .live (k + 1) 2 130)]
set_option maxRecDepth 20000 in
set_option maxHeartbeats 8000000 in
theorem DOwn_pure (d : Dc) (h1 : d.head.length ≤ 100000) (h2 : d.rows.length ≤ 100000) (h3 : ∀ e ∈ d.head, e.l.length ≤ 1000000) (h4 : ∀ r ∈ d.rows, r.l.length ≤ 100000 ∧ ∀ e ∈ r.l, e.l.length ≤ 1000000) : PL.Pure Tryz.prog 77 [doc d] (doc d) := by
  obtain ⟨hd, rws⟩ := d
  simp only at h1 h2 h3 h4
  have hm : rws.length ≤ maxLen := by rw [maxLen_eq]; omega
  have hE := ownEntries_pure hd h1 h3
  refine PL.Pure.of_v Tryz.func77 (by decide) rfl Tryz.ntmps77 Tryz.results77 (by simp) (doc_dids _) ?_
  simp only [go_sem, doc]
  refine vCall_of (hE) ?_ ?_ ?_; (focus simp only [go_sem, ents]); (focus simp only [go_sem, ents])
  simp only [go_sem, ents]
  refine vLoopM (ι := { k : Nat // k ≤ rws.length }) 30 (fun x => [(2, .ptr 2 0), (3, .ptr 3 0), (11, .sl .no (rws.map row)), (12, .int .i64 (rws.length : Int)), (13, .int .i64 (x.1 : Int))]) (fun x => [(2, [.sl .nil [], .sl .nil []], false), (3, [.sl .no (hd.map ent), gatC 26 rws x.1], false)]) (fun x => gatR 26 x.1) (fun x => rws.length - x.1) ⟨0, Nat.zero_le _⟩
    ⟨rfl, (forall_cons rfl (forall_cons rfl (forall_cons rfl (forall_cons rfl (forall_cons rfl (forall_nil)))))), forall_cons ⟨rfl, rfl⟩ (forall_cons ⟨rfl, rfl⟩ forall_nil), forall_nil⟩ (fun x => ?_) (fun x => ?_)
  · obtain ⟨k, hk⟩ := x
    cases k with
    | zero => exact ⟨(forall_cons rfl (forall_cons rfl (forall_cons rfl (forall_cons rfl (forall_cons rfl (forall_nil)))))), forall_cons rfl (forall_cons rfl forall_nil)⟩
    | succ k => exact ⟨(forall_cons rfl (forall_cons rfl (forall_cons rfl (forall_cons rfl (forall_cons rfl (forall_nil)))))), forall_cons rfl (forall_cons (by simp [gatC, gatR, PV.ids, PV.idsL, refInM]) forall_nil)⟩
  obtain ⟨k, hk⟩ := x
  simp only
  by_cases h : (k : Int) < (rws.length : Int)
  · have hka : k < rws.length := by omega
    have w1 := w64s hka hm
    have i1 : (0 : Int) ≤ (k : Int) := by omega
    have rk := h4 _ (getD_mem' (d := default) hka)
    have hO := ownEntries_pure (rws.getD k default).l rk.1 rk.2
    have hsn : (rws.take (k + 1)).map row = (rws.take k).map row ++ [row (rws.getD k default)] := by rw [take_snoc (d := default) hka, List.map_append]; rfl
    have hsz := sized_row (rws.take k)
    have hr0 := room1 (show 1 ≤ 1000000 by omega) (show 40 ≤ 1000 by omega)
    have hat := atoms_row [rws.getD k default]
    have hln : ((rws.take k).map row).length = k := by simp; omega
    cases k with
    | zero =>
      have h' : (0 : Int) < (rws.length : Int) := by simpa using h
      have g0 := getD_row' hka
      simp only [go_sem, gatC, gatR, h', g0, row, i1]
      refine vDrawQ (by kernel_rfl) (by kernel_rfl) ?_
      simp only [go_sem]
      refine vCall_of (hO) ?_ ?_ ?_; (focus simp only [go_sem, ents]); (focus simp only [go_sem, ents])
      have w0 : IntKind.i64.wrap 1 = 1 := w64 (by omega)
      simp only [go_sem, ents, w1, w0]
      refine ⟨hr0, ⟨⟨0 + 1, by omega⟩, by show rws.length - (0 + 1) < rws.length - 0; omega, ⟨rfl, (forall_cons rfl (forall_cons rfl (forall_cons rfl (forall_cons rfl (forall_cons rfl (forall_nil)))))), forall_cons ⟨rfl, rfl⟩ (forall_cons ⟨?_, rfl⟩ forall_nil), forall_cons rfl forall_nil⟩⟩⟩
      show some [PV.sl .no _, PV.sl (.row 26) _] = some [PV.sl .no _, PV.sl (.row 26) _]
      rw [hsn]
      rfl
    | succ k =>
      have hl3 : (rws.take (k + 1)).length = k + 1 := by rw [List.length_take]; omega
      have hr := room1 (show k + 1 + 1 ≤ 1000000 by omega) (show 40 ≤ 1000 by omega)
      simp only [go_sem, gatC, gatR, h, getD_row' hka, row, i1]
      refine vDrawQ (by kernel_rfl) (by kernel_rfl) ?_
      simp only [go_sem]
      refine vCall_of (hO) ?_ ?_ ?_; (focus simp only [go_sem, ents]); (focus simp only [go_sem, ents])
      simp only [go_sem, ents, w1]
      refine ⟨⟨hl3.symm, sized_row _, by rw [hl3]; exact hr⟩, ⟨⟨k + 1 + 1, by omega⟩, by show rws.length - (k + 1 + 1) < rws.length - (k + 1); omega, ⟨rfl, (forall_cons rfl (forall_cons rfl (forall_cons rfl (forall_cons rfl (forall_cons rfl (forall_nil)))))), forall_cons ⟨rfl, rfl⟩ (forall_cons ⟨?_, rfl⟩ forall_nil), forall_cons ?_ forall_nil⟩⟩⟩
      · show some [PV.sl .no _, PV.sl (.row 26) _] = some [PV.sl .no _, PV.sl (.row 26) _]
        rw [hsn]
        rfl
      · show some _ = some _
        rw [hl3]
  · obtain rfl : k = rws.length := by omega
    cases rws with
    | nil =>
      have h' : ¬ (0 : Int) < 0 := by omega
      simp only [go_sem, gatC, gatR, h', List.length_nil]
      rfl
    | cons r rs =>
      have ht : (r :: rs).take (rs.length + 1) = r :: rs := List.take_length (l := r :: rs)
      have h' : ¬ ((rs.length + 1 : Nat) : Int) < ((rs.length + 1 : Nat) : Int) := by omega
      simp only [go_sem, gatC, gatR, h', List.length_cons, ht]
      rw [List.take_length]
      rfl
end Go.Proofs.YtnadlkjmdimjkaaGreat

set_option linter.unusedSimpArgs false
set_option linter.unusedVariables false
set_option linter.unusedSimpArgs false
set_option linter.unusedVariables false
namespace Go.Proofs.YtnadlkjmdimjkaaGreat
open Go.PL
def isAt (r : Rf) (e : En) : Bool := decide (e.at' = r)
def entM (es : List En) (r : Rf) : Option En := es.find? (isAt r)
def eptc (x : Option En) : PV := .tup [ent (x.getD default), .bool x.isSome]
theorem eptc_dids (x : Option En) : (eptc x).dids = [] := by simp only [eptc, PV.dids, PV.didsL, ent_dids, List.append_nil]
set_option maxRecDepth 20000 in
set_option maxHeartbeats 8000000 in
theorem entry_pure (es : List En) (r : Rf) (hl : es.length ≤ maxLen) (hl' : ∀ e ∈ es, e.l.length ≤ 1000000) : PL.Pure Tryz.prog 190 [ents es, ref r] (eptc (entM es r)) := by
  refine PL.Pure.of_v Tryz.func190 (by decide) rfl Tryz.ntmps190 Tryz.results190 (by simp) (eptc_dids _) ?_
  simp only [go_sem, ents, ref]
  refine vLoopM (ι := { x : Nat // x ≤ (es).length ∧ (∀ j, j < x → isAt r (es.getD j default) = false) }) 25 (fun x => [(3, .ptr 3 0), (4, .ptr 4 0), (8, ents es), (9, .int .i64 (es.length : Int)), (10, .int .i64 (x.1 : Int))]) (fun x => [(3, [.int .i64 r.sc, .str r.gr, .str r.nm], false), (4, [.int .i64 0, .str [], .str [], .int .i64 0, .sl .nil []], false)]) (fun x => []) (fun x => (es).length - x.1) ⟨0, Nat.zero_le _, fun j hj => absurd hj (Nat.not_lt_zero j)⟩ ⟨rfl, (forall_cons rfl (forall_cons rfl (forall_cons rfl (forall_cons rfl (forall_cons rfl forall_nil))))), (forall_cons ⟨rfl, rfl⟩ (forall_cons ⟨rfl, rfl⟩ forall_nil)), forall_nil⟩ (fun x => ⟨(forall_cons rfl (forall_cons rfl (forall_cons rfl (forall_cons rfl (forall_cons rfl forall_nil))))), (forall_cons rfl (forall_cons rfl forall_nil))⟩) (fun x => ?_); obtain ⟨k, hk, hI⟩ := x; simp only at hk hI ⊢
  by_cases h : (k : Int) < (es.length : Int)
  · (have hka : k < (es).length := by omega); (have w1 := w64s hka (hl)); (have i1 : (0 : Int) ≤ (k : Int) := by omega)
    have hel := hl' _ (getD_mem' (d := default) hka)
    have hr := room1 hel (show 16 ≤ 1000 by omega)
    cases hq : isAt r (es.getD k default)
    · have hq' : decide ((es.getD k default).at' = r) = false := hq
      simp only [go_sem, ents, h, getD_ent' hka, ent, i1, ref_fold, hq', w1]
      exact ⟨⟨k + 1, by (try simp only); omega, below_succ (p := fun j => isAt r (es.getD j default) = false) hI hq⟩, by show (es).length - (k + 1) < (es).length - k; omega, ⟨rfl, (forall_cons rfl (forall_cons rfl (forall_cons rfl (forall_cons rfl (forall_cons rfl forall_nil))))), (forall_cons ⟨rfl, rfl⟩ (forall_cons ⟨rfl, rfl⟩ forall_nil)), forall_nil⟩⟩
    · have hq' : decide ((es.getD k default).at' = r) = true := hq
      have hf : entM es r = some (es.getD k default) := find_found hka hI hq
      simp only [go_sem, ents, h, getD_ent' hka, ent, i1, ref_fold, hq', sized_str, atoms_str, hr, hf, eptc, Option.getD_some, Option.isSome_some]
  · have hf : entM es r = none := find_none (d := default) (fun j hj => hI j (by omega))
    simp only [go_sem, h, hf, eptc, Option.getD_none, Option.isSome_none]
    rfl
set_option maxRecDepth 20000 in
set_option maxHeartbeats 8000000 in
theorem Rentry_pure (es : List En) (r : Rf) (hl : es.length ≤ maxLen) : PL.Pure Tryz.prog 205 [ents es, ref r] (eptc (entM es r)) := by
  refine PL.Pure.of_v Tryz.func205 (by decide) rfl Tryz.ntmps205 Tryz.results205 (by simp) (eptc_dids _) ?_
  simp only [go_sem, ents, ref]
  refine vLoopM (ι := { x : Nat // x ≤ (es).length ∧ (∀ j, j < x → isAt r (es.getD j default) = false) }) 25 (fun x => [(0, ents es), (3, .ptr 3 0), (4, .ptr 4 0), (6, .int .i64 (x.1 : Int))]) (fun x => [(3, [.int .i64 r.sc, .str r.gr, .str r.nm], false), (4, [.int .i64 0, .str [], .str [], .int .i64 0, .sl .nil []], false)]) (fun x => []) (fun x => (es).length - x.1) ⟨0, Nat.zero_le _, fun j hj => absurd hj (Nat.not_lt_zero j)⟩ ⟨rfl, (forall_cons rfl (forall_cons rfl (forall_cons rfl (forall_cons rfl forall_nil)))), (forall_cons ⟨rfl, rfl⟩ (forall_cons ⟨rfl, rfl⟩ forall_nil)), forall_nil⟩ (fun x => ⟨(forall_cons rfl (forall_cons rfl (forall_cons rfl (forall_cons rfl forall_nil)))), (forall_cons rfl (forall_cons rfl forall_nil))⟩) (fun x => ?_); obtain ⟨k, hk, hI⟩ := x; simp only at hk hI ⊢
  by_cases h : (k : Int) < (es.length : Int)
  · (have hka : k < (es).length := by omega); (have w1 := w64s hka (hl)); (have i1 : (0 : Int) ≤ (k : Int) := by omega)
    cases hq : isAt r (es.getD k default)
    · have hq' : decide ((es.getD k default).at' = r) = false := hq
      simp only [go_sem, ents, h, List.length_map]
      refine vDrawQ (by kernel_rfl) (by kernel_rfl) ?_
      simp only [go_sem, getD_ent' hka, ent, i1, h, List.length_map, ref_fold, hq', w1]
      exact ⟨⟨k + 1, by (try simp only); omega, below_succ (p := fun j => isAt r (es.getD j default) = false) hI hq⟩, by show (es).length - (k + 1) < (es).length - k; omega, ⟨rfl, (forall_cons rfl (forall_cons rfl (forall_cons rfl (forall_cons rfl forall_nil)))), (forall_cons ⟨rfl, rfl⟩ (forall_cons ⟨rfl, rfl⟩ forall_nil)), forall_nil⟩⟩
    · have hq' : decide ((es.getD k default).at' = r) = true := hq
      have hf : entM es r = some (es.getD k default) := find_found hka hI hq
      simp only [go_sem, ents, h, List.length_map]
      refine vDrawQ (by kernel_rfl) (by kernel_rfl) ?_
      simp only [go_sem, getD_ent' hka, ent, i1, h, List.length_map, ref_fold, hq', hf, eptc, Option.getD_some, Option.isSome_some]
  · have hf : entM es r = none := find_none (d := default) (fun j hj => hI j (by omega))
    simp only [go_sem, ents, h, List.length_map, hf, eptc, Option.getD_none, Option.isSome_none]
    rfl
set_option maxHeartbeats 4000000 in
theorem far24_pure (n : Int) : PL.Pure Tryz.prog 232 [.int .i64 n] (.bool (!fitsI n)) := by
  refine PL.Pure.of_v Tryz.func232 (by decide) rfl Tryz.ntmps232 Tryz.results232 (by simp) rfl ?_
  simp only [go_sem]
  repeat' (first | (refine vGuard_t (fun h => ?_) (fun h => ?_) <;> (try simp only [go_sem, h])) | (refine vGuard_f (fun h => ?_) (fun h => ?_) <;> (try simp only [go_sem, h])) | (refine vCond_b (fun h => ?_) (fun h => ?_) <;> (try simp only [go_sem, h])) | ((refine vDrawQ (by kernel_rfl) (by kernel_rfl) ?_); (try simp only [go_sem])))
  all_goals (simp_all [fitsI] <;> (try omega) <;> (rw [Bool.eq_iff_iff]; simp))
def mergI (u p f : Int) : Int × Int := if fitsI u = true ∧ fitsI p = true then (if (joinI u p f).2 = 0 then ((joinI u p f).1, 0) else (0, 3)) else (0, 3)
set_option maxHeartbeats 4000000 in
theorem pmerged_pure (u p f : Int) : PL.Pure Tryz.prog 228 [.int .i64 u, .int .i64 p, .int .i64 f] (intc (mergI u p f)) := by
  have hO := Of_pure u p
  unfold mergI
  by_cases hf : fitsI u = true ∧ fitsI p = true
  · rw [if_pos hf] at hO ⊢
    have hJ := Join_pure' u p f (fitsI_iff.1 hf.1) (fitsI_iff.1 hf.2)
    generalize joinI u p f = j at *
    obtain ⟨v, c⟩ := j
    by_cases hc : c = 0
    · have hc' : (c != 0) = false := by rw [hc]; rfl
      subst hc
      refine PL.Pure.of_v Tryz.func228 (by decide) rfl Tryz.ntmps228 Tryz.results228 (by simp) (rfl) ?_
      simp only [go_sem]
      refine vCall_of (hO) ?_ ?_ ?_; (focus simp only [go_sem]); (focus simp only [go_sem])
      simp only [go_sem]
      refine vCall_of (hJ) ?_ ?_ ?_; (focus simp only [go_sem]); (focus simp only [go_sem])
      simp only [go_sem, intc, if_true]
    · have hc' : (c != 0) = true := bne_iff_ne.2 hc
      refine PL.Pure.of_v Tryz.func228 (by decide) rfl Tryz.ntmps228 Tryz.results228 (by simp) (rfl) ?_
      simp only [go_sem]
      refine vCall_of (hO) ?_ ?_ ?_; (focus simp only [go_sem]); (focus simp only [go_sem])
      simp only [go_sem]
      refine vCall_of (hJ) ?_ ?_ ?_; (focus simp only [go_sem]); (focus simp only [go_sem])
      simp only [go_sem, intc, hc', if_neg hc]
  · rw [if_neg hf] at hO ⊢
    refine PL.Pure.of_v Tryz.func228 (by decide) rfl Tryz.ntmps228 Tryz.results228 (by simp) (rfl) ?_
    simp only [go_sem]
    refine vCall_of (hO) ?_ ?_ ?_; (focus simp only [go_sem]); (focus simp only [go_sem])
    simp only [go_sem, intc]
end Go.Proofs.YtnadlkjmdimjkaaGreat
