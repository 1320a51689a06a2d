/- Contracts of functions and laws of this seat, each for every input that it names: lemmas of the proof. -/
import Derived.Test.YtmnibpgmcgdfpaaPlL
import Derived.Test.YtmnibpgmcgdfpaaXAa
import Derived.Test.YtmnibpgmcgdfpaaXAc
import Derived.Test.YtmnibpgmcgdfpaaXAn
import Derived.Test.YtmnibpgmcgdfpaaXAu
set_option linter.unusedSimpArgs false
set_option linter.unusedVariables false
set_option linter.unusedSimpArgs false
set_option linter.unusedVariables false
namespace Go.Proofs.Ytmnibpgmcgdfpaa
open Go.PL
theorem apply_fwd {l m : List Fd} {x : Ln} (h : applyM l x = (m, 0)) : rightL l = true ∧ rightLn x = true ∧ ∃ cs l1, arrM l x = (cs, true) ∧ goAll (goesR x) l = some l1 ∧ comeAll cs l1 = some m := by
  unfold applyM at h
  split at h
  · simp at h
  · rename_i hh
    simp only [not_or, Bool.not_eq_false] at hh
    refine ⟨hh.1, hh.2, ?_⟩
    split at h
    · simp at h
    · rename_i k hk
      simp only [Prod.mk.injEq, and_true] at h
      subst h
      unfold applyR at hk
      split at hk
      · cases hk
      · rename_i ha
        obtain ⟨l1, h1, h2⟩ := Option.bind_eq_some_iff.1 hk
        refine ⟨(arrM l x).1, l1, ?_, h1, h2⟩
        have : (arrM l x).2 = true := by simpa using ha
        rw [← this]
end Go.Proofs.Ytmnibpgmcgdfpaa

set_option linter.unusedSimpArgs false
set_option linter.unusedVariables false
set_option linter.unusedSimpArgs false
set_option linter.unusedVariables false
namespace Go.Proofs.Ytmnibpgmcgdfpaa
open Go.PL
structure LenLn (x : Ln) : Prop where
  c : x.fd.cases'.length ≤ maxLen
  f : x.fo.length ≤ maxLen
  b : x.ba.length ≤ maxLen
end Go.Proofs.Ytmnibpgmcgdfpaa

set_option linter.unusedSimpArgs false
set_option linter.unusedVariables false
set_option linter.unusedSimpArgs false
set_option linter.unusedVariables false
namespace Go.Proofs.Ytmnibpgmcgdfpaa
open Go.PL
structure RightM (m : List Eg) : Prop where
  r : ∀ e ∈ m, edgeB e = true
end Go.Proofs.Ytmnibpgmcgdfpaa

set_option linter.unusedSimpArgs false
set_option linter.unusedVariables false
set_option linter.unusedSimpArgs false
set_option linter.unusedVariables false
namespace Go.Proofs.Ytmnibpgmcgdfpaa
open Go.PL
structure ChT where
  l : List Fd
  n : Nat
  c : Int
def chainA : List Fd → List Ln → Nat → ChT
  | fs, [], i => ⟨fs, i, 0⟩
  | fs, x :: xs, i => if (applyM fs x).2 ≠ 0 then ⟨[], i, (applyM fs x).2⟩ else chainA (applyM fs x).1 xs (i + 1)
structure ChS (l : List Fd) (row : List Ln) where
  k : Nat
  fs : List Fd
  hk : k ≤ row.length
  ok : OkFs fs
  h : chainA fs (row.drop k) k = chainA l row 0
end Go.Proofs.Ytmnibpgmcgdfpaa

set_option linter.unusedSimpArgs false
set_option linter.unusedVariables false
set_option linter.unusedSimpArgs false
set_option linter.unusedVariables false
namespace Go.Proofs.Ytmnibpgmcgdfpaa
open Go.PL
set_option maxRecDepth 20000 in
set_option maxHeartbeats 16000000 in
theorem DRight_pure (l : List Fd) (d : Dc) (hl : l.length ≤ maxLen) (hl' : ∀ f ∈ l, f.cases'.length ≤ 1000000) (hd : Fine d) : PL.Pure Try.prog 23 [flds l, doc d] (.bool (rightD l d)) := by
  obtain ⟨d1, d2, d3, d4⟩ := hd
  have hl2 : ∀ f ∈ l, f.cases'.length ≤ maxLen := fun f hf => by have := hl' f hf; rw [maxLen_eq]; omega
  have hR := SRight_pure l hl hl2
  cases hr : rightL l
  · rw [hr] at hR
    have hx : rightD l d = false := by simp only [rightD, headOk, hr, Bool.false_and]
    refine pov1 Try.func23 rfl Try.ntmps23 Try.results23 ?_
    simp only [go_sem, flds, doc]
    refine vc2 (hR) ?_
    simp only [go_sem, hx]
  · rw [hr] at hR
    have h16 := rightL_len hr
    have sl : ∀ sc, (scopeM l sc).length ≤ maxLen := fun sc => Nat.le_trans (List.length_filter_le _ _) hl
    have sc : ∀ s, ∀ f ∈ scopeM l s, f.cases'.length ≤ maxLen := fun s f hf => hl2 f (List.mem_filter.1 hf).1
    have hS0 := Scope_pure l 0 (by omega) hl'
    have hS1 := Scope_pure l 1 (by omega) hl'
    by_cases h4 : (400 : Int) < (d.rows.length : Int)
    · have hx : rightD l d = false := by simp only [rightD, headOk, h4, decide_true, Bool.not_true, Bool.false_and, Bool.and_false]
      refine pov1 Try.func23 rfl Try.ntmps23 Try.results23 ?_
      simp only [go_sem, flds, doc]
      refine vc2 (hR) ?_
      simp only [go_sem, h4, hx]
    · have hE := rightEntries_pure (scopeM l 0) d.head (sl 0) d1 (sc 0) d3
      cases he : entriesB (scopeM l 0) d.head
      · rw [he] at hE
        have hx : rightD l d = false := by simp only [rightD, headOk, he, Bool.false_and, Bool.and_false]
        refine pov1 Try.func23 rfl Try.ntmps23 Try.results23 ?_
        simp only [go_sem, flds, doc]
        refine vc2 (hR) ?_
        simp only [go_sem, h4]
        refine vDq ?_
        simp only [go_sem, flds]
        refine vc2 (hS0) ?_
        simp only [go_sem, flds]
        refine vc2 (hE) ?_
        simp only [go_sem, hx]
      · rw [he] at hE
        have hx : rightD l d = (List.range d.rows.length).all (rowOk l d.rows) := by simp only [rightD, headOk, hr, h4, he, decide_false, Bool.not_false, Bool.and_self, Bool.true_and]
        rw [hx]
        refine pov1 Try.func23 rfl Try.ntmps23 Try.results23 ?_
        simp only [go_sem, flds, doc]
        refine vc2 (hR) ?_
        simp only [go_sem, h4]
        refine vDq ?_
        simp only [go_sem, flds]
        refine vc2 (hS0) ?_
        simp only [go_sem, flds]
        refine vc2 (hE) ?_
        simp only [go_sem, flds]
        refine vc2 (hS1) ?_
        simp only [go_sem]
        refine vLoopM (ι := { x : Nat // x ≤ (d.rows).length ∧ (∀ j, j < x → rowOk l d.rows j = true) }) 59 (fun x => [(3, .ptr 3 0), (5, flds (scopeM l 1)), (26, .sl .no (d.rows.map row)), (27, .int .i64 (d.rows.length : Int)), (28, .int .i64 (x.1 : Int))]) (fun x => [(3, [.sl .no (d.head.map ent), .sl .no (d.rows.map row)], false)]) (fun x => []) (fun x => (d.rows).length - x.1) ⟨0, Nat.zero_le _, fun j hj => absurd hj (Nat.not_lt_zero j)⟩ ⟨rfl, (forall_cons rfl (forall_cons rfl (forall_cons rfl (forall_cons rfl (forall_cons rfl forall_nil))))), (forall_cons ⟨rfl, rfl⟩ forall_nil), forall_nil⟩ (fun x => ⟨(forall_cons rfl (forall_cons rfl (forall_cons (by simp [PV.ids, refInM]) (forall_cons (by simp [PV.ids, refInM]) (forall_cons rfl forall_nil))))), (forall_cons (by simp [PV.ids, PV.idsL, refInM]) forall_nil)⟩) (fun x => ?_); obtain ⟨k, hk, hI⟩ := x; simp only at hk hI ⊢
        by_cases h : (k : Int) < (d.rows.length : Int)
        · (have hka : k < (d.rows).length := by omega); (have w1 := w64s hka (d2)); (have i1 : (0 : Int) ≤ (k : Int) := by omega)
          have hN := Name_pure (d.rows.getD k default).item
          have rk := d4 _ (getD_mem' (d := default) hka)
          have hE1 := rightEntries_pure (scopeM l 1) (d.rows.getD k default).l (sl 1) rk.1 (sc 1) rk.2
          have gk := getD_row' hka
          cases hn : nameB (d.rows.getD k default).item
          · rw [hn] at hN
            have hz := rall_false (p := rowOk l d.rows) hka (by simp only [rowOk, hn, Bool.false_and])
            simp only [go_sem, h, gk, row, i1]
            refine vDq ?_
            simp only [go_sem, h, gk, row, i1]
            refine vc1 (hN) ?_
            simp only [go_sem, hz]
          · rw [hn] at hN
            by_cases h0 : 0 < (k : Int)
            · have hk1 : k - 1 < d.rows.length := by omega
              have gj := getD_row' hk1
              have w2 : IntKind.i64.wrap ((k : Int) - 1) = ((k - 1 : Nat) : Int) := by
                rw [maxLen_eq] at d2
                rw [w64 (by omega)]; omega
              have j1 : (0 : Int) ≤ ((k - 1 : Nat) : Int) := by omega
              have j2 : ((k - 1 : Nat) : Int) < (d.rows.length : Int) := by omega
              cases hb : bytesLt (d.rows.getD (k - 1) default).item (d.rows.getD k default).item
              · have hz := rall_false (p := rowOk l d.rows) hka (by simp only [rowOk, hb, decide_eq_false (show ¬ k = 0 by omega), Bool.or_self, Bool.and_false, Bool.false_and])
                simp only [go_sem, h, gk, row, i1]
                refine vDq ?_
                simp only [go_sem, h, gk, row, i1]
                refine vc1 (hN) ?_
                simp only [go_sem, h0, w2, gj, gk, row, h, i1, j1, j2, hb, hz]
              · cases hf : entriesB (scopeM l 1) (d.rows.getD k default).l
                · rw [hf] at hE1
                  have hz := rall_false (p := rowOk l d.rows) hka (by simp only [rowOk, hf, Bool.and_false])
                  simp only [go_sem, h, gk, row, i1]
                  refine vDq ?_
                  simp only [go_sem, h, gk, row, i1]
                  refine vc1 (hN) ?_
                  simp only [go_sem, h0, w2, gj, gk, row, h, i1, j1, j2, hb, flds]
                  refine vc2 (hE1) ?_
                  simp only [go_sem, hz]
                · rw [hf] at hE1
                  have ok : rowOk l d.rows k = true := by simp only [rowOk, hn, hb, hf, Bool.or_true, Bool.and_self]
                  simp only [go_sem, h, gk, row, i1]
                  refine vDq ?_
                  simp only [go_sem, h, gk, row, i1]
                  refine vc1 (hN) ?_
                  simp only [go_sem, h0, w2, gj, gk, row, h, i1, j1, j2, hb, flds]
                  refine vc2 (hE1) ?_
                  simp only [go_sem, w1]
                  exact ⟨⟨k + 1, by (try simp only); omega, below_succ hI ok⟩, by show (d.rows).length - (k + 1) < (d.rows).length - k; omega, ⟨rfl, (forall_cons rfl (forall_cons rfl (forall_cons rfl (forall_cons rfl (forall_cons rfl forall_nil))))), (forall_cons ⟨rfl, rfl⟩ forall_nil), forall_nil⟩⟩
            · have hk0 : k = 0 := by omega
              cases hf : entriesB (scopeM l 1) (d.rows.getD k default).l
              · rw [hf] at hE1
                have hz := rall_false (p := rowOk l d.rows) hka (by simp only [rowOk, hf, Bool.and_false])
                simp only [go_sem, h, gk, row, i1]
                refine vDq ?_
                simp only [go_sem, h, gk, row, i1]
                refine vc1 (hN) ?_
                simp only [go_sem, h0, gk, row, h, i1, flds]
                refine vc2 (hE1) ?_
                simp only [go_sem, hz]
              · rw [hf] at hE1
                have ok : rowOk l d.rows k = true := by simp only [rowOk, hn, decide_eq_true hk0, hf, Bool.true_or, Bool.and_self]
                simp only [go_sem, h, gk, row, i1]
                refine vDq ?_
                simp only [go_sem, h, gk, row, i1]
                refine vc1 (hN) ?_
                simp only [go_sem, h0, gk, row, h, i1, flds]
                refine vc2 (hE1) ?_
                simp only [go_sem, w1]
                exact ⟨⟨k + 1, by (try simp only); omega, below_succ hI ok⟩, by show (d.rows).length - (k + 1) < (d.rows).length - k; omega, ⟨rfl, (forall_cons rfl (forall_cons rfl (forall_cons rfl (forall_cons rfl (forall_cons rfl forall_nil))))), (forall_cons ⟨rfl, rfl⟩ forall_nil), forall_nil⟩⟩
        · have hz := rall_true (p := rowOk l d.rows) (n := d.rows.length) (fun j hj => hI j (by omega))
          simp only [go_sem, h, hz]
theorem sized_row (l : List Rw) : Sized 2 (l.map row) := fun e he => by
  obtain ⟨x, _, rfl⟩ := List.mem_map.1 he; rfl
set_option maxRecDepth 20000 in
set_option maxHeartbeats 8000000 in
theorem ownEntries_pure (l : List En) (hl : l.length ≤ 100000) (hl' : ∀ e ∈ l, e.l.length ≤ 1000000) : PL.Pure Try.prog 47 [ents l] (ents l) := by
  have hm : l.length ≤ maxLen := by rw [maxLen_eq]; omega
  refine pov2 Try.func47 rfl Try.ntmps47 Try.results47 (ents_dids _) ?_
  simp only [go_sem, ents]
  refine awp_nilRow 3 16 5 27 rfl rfl ?_
  refine vLoopM (ι := { x : Nat × (List En) // x.1 ≤ (l).length ∧ (x.2 = l.take x.1) }) 19 (fun x => [(3, .sl (.row 16) (x.1.2.map ent)), (6, ents l), (7, .int .i64 (l.length : Int)), (8, .int .i64 (x.1.1 : Int))]) (fun x => []) (fun x => [(16, .live (x.1.2.length) (5) (27))]) (fun x => (l).length - x.1.1) ⟨(0, []), Nat.zero_le _, rfl⟩ ⟨rfl, (forall_cons rfl (forall_cons rfl (forall_cons rfl (forall_cons rfl forall_nil)))), forall_nil, (forall_cons rfl forall_nil)⟩ (fun x => ⟨(forall_cons (by simp [PV.ids, refInM]) (forall_cons rfl (forall_cons rfl (forall_cons rfl forall_nil)))), forall_nil⟩) (fun x => ?_); obtain ⟨⟨k, acc⟩, hk, hI⟩ := x; simp only at hk hI ⊢
  have hacc : acc.length ≤ l.length := by rw [hI]; exact take_le_len _ _
  by_cases h : (k : Int) < (l.length : Int)
  · (have hka : k < (l).length := by omega); (have w1 := w64s hka (hm)); (have i1 : (0 : Int) ≤ (k : Int) := by omega)
    have hr := room1 (show acc.length + 1 ≤ 1000000 by omega) (show 72 ≤ 1000 by omega)
    have hO := ownEntry_pure (l.getD k default) (hl' _ (getD_mem' hka))
    simp only [go_sem, ents, h, getD_ent' hka, ent, i1]
    refine vc1 (hO) ?_
    simp only [go_sem, ent, sized_ent, hr, w1]
    exact ⟨⟨(k + 1, acc ++ [l.getD k default]), by (try simp only); omega, by simp only; rw [take_snoc (d := default) hka, hI]⟩, by show (l).length - (k + 1) < (l).length - k; omega, ⟨rfl, (forall_cons (by simp [upd, ent]) (forall_cons rfl (forall_cons rfl (forall_cons rfl forall_nil)))), forall_nil, (forall_cons (by simp [upd]) forall_nil)⟩⟩
  · obtain rfl : k = l.length := by omega
    rw [List.take_length] at hI
    subst hI
    simp only [go_sem, h, ents]
end Go.Proofs.Ytmnibpgmcgdfpaa

set_option linter.unusedSimpArgs false
set_option linter.unusedVariables false
set_option linter.unusedSimpArgs false
set_option linter.unusedVariables false
namespace Go.Proofs.Ytmnibpgmcgdfpaa
open Go.PL
end Go.Proofs.Ytmnibpgmcgdfpaa

set_option linter.unusedSimpArgs false
set_option linter.unusedVariables false
set_option linter.unusedSimpArgs false
set_option linter.unusedVariables false
namespace Go.Proofs.Ytmnibpgmcgdfpaa
open Go.PL
theorem ent_ids (e : En) : (ent e).ids = [] := by simp [ent, PV.ids, PV.idsL]
end Go.Proofs.Ytmnibpgmcgdfpaa

set_option linter.unusedSimpArgs false
set_option linter.unusedVariables false
set_option linter.unusedSimpArgs false
set_option linter.unusedVariables false
namespace Go.Proofs.Ytmnibpgmcgdfpaa
open Go.PL Go.RowKit
/-! entries handed on as a vec; a document of which one row's entries are a vec -/
theorem ent_ids' (e : En) : (ent e).ids = [] := by simp [ent, PV.ids, PV.idsL]
set_option maxRecDepth 20000 in
set_option maxHeartbeats 8000000 in
theorem OwnEntries_eff (l : List En) (hl : l.length ≤ 100000) (hl' : ∀ e ∈ l, e.l.length ≤ 1000000) :
    Eff Try.prog 47 [ents l] noV (.vsl 16 l.length 5) (vecN 16 l.length 5 27 (l.map ent)) := by
  have hcl : ∀ l : List En, ∀ p ∈ l.map ent, p.ids = [] := fun l => ids_mapV ent_ids' l
  have hm : l.length ≤ maxLen := by rw [maxLen_eq]; omega
  refine Eff.vn [16] Try.func47 (by decide) rfl Try.ntmps47 Try.results47 (by simp) (hcl _) (by simp [PV.ids, ents]) (by simp [PV.ids]) ?_
  simp only [go_sem, ents]
  refine awp_nilVec 3 16 5 27 rfl rfl ?_
  refine vLoopX (ι := { k : Nat // k ≤ l.length }) 19 (fun x => [(3, .vsl 16 x.1 5), (6, .sl .no (l.map ent)), (7, .int .i64 (l.length : Int)), (8, .int .i64 (x.1 : Int))]) (fun _ => []) (fun x => [(16, .vec x.1 5 27)]) (fun _ => []) (fun _ => []) (fun x => [(16, (l.take x.1).map ent)]) (fun _ => []) [] [] [16] (fun x => l.length - x.1) ⟨0, Nat.zero_le _⟩
    (hasX_v1 rfl (forall_cons rfl (forall_cons rfl (forall_cons rfl (forall_cons rfl (forall_nil))))) rfl rfl) (fun x => wholeX_v1 (by simp [PV.ids, PV.idsL, refInM]) (idsL_mapV ent_ids' _)) (fun x => ?_)
  obtain ⟨k, hk⟩ := x
  simp only
  by_cases h : (k : Int) < (l.length : Int)
  · have hka : k < l.length := by omega
    have w1 := w64s hka hm
    have i1 : (0 : Int) ≤ (k : Int) := by omega
    have hO := ownEntry_pure (l.getD k default) (hl' _ (getD_mem' hka))
    have hsn : (l.take (k + 1)).map ent = (l.take k).map ent ++ [ent (l.getD k default)] := by rw [take_snoc (d := default) hka, List.map_append]; rfl
    have hln : ((l.take k).map ent).length = k := by simp; omega
    have hrm := room1 (show k + 1 ≤ 1000000 by omega) (show 72 ≤ 1000 by omega)
    simp only [go_sem, h, getD_ent' hka, ent, i1]
    refine vc1 (hO) ?_
    simp only [go_sem, ent, w1, hln, hrm]
    refine ⟨fun p hp => by rw [List.mem_singleton.1 hp]; exact ⟨rfl, rfl⟩, fun p hp => by rw [List.mem_singleton.1 hp]; exact ent_ids' _, fun p hp => ?_, ⟨k + 1, by omega⟩, by show l.length - (k + 1) < l.length - k; omega, hasX_v1 rfl (forall_cons rfl (forall_cons rfl (forall_cons rfl (forall_cons rfl (forall_nil))))) rfl ?_⟩
    · rcases List.mem_append.1 hp with hp | hp
      · rw [hcl _ p hp]; simp
      · rw [List.mem_singleton.1 hp, show (PV.agg [PV.int IntKind.i64 (l.getD k default).at'.sc, PV.str (l.getD k default).at'.gr, PV.str (l.getD k default).at'.nm, PV.int IntKind.i64 (l.getD k default).n, PV.sl Tok.no (List.map PV.str (l.getD k default).l)]).ids = [] from ent_ids' _]; simp
    · simp only; rw [hsn]; rfl
  · obtain rfl : k = l.length := by omega
    simp only [go_sem, h, List.take_length]
    exact eret_vn (r0 := .vsl 16 l.length 5) (hcl _) rfl (.keep _ (by intro i hi; simp [PV.ids] at hi; subst hi; exact ⟨_, List.mem_singleton.2 rfl, rfl⟩)) rfl rfl
end Go.Proofs.Ytmnibpgmcgdfpaa
