/- Contracts of functions and laws of this seat, each for every input that it names: lemmas of the proof. -/
import Derived.Test.YtmnibpgmcgdfpaaXAm
import Derived.Test.YtmnibpgmcgdfpaaRows
import Derived.ProofKit
import Derived.Test.YtmnibpgmcgdfpaaXAa
set_option linter.unusedSimpArgs false
set_option linter.unusedVariables false
set_option linter.unusedSimpArgs false
set_option linter.unusedVariables false
namespace Go.Proofs.Ytmnibpgmcgdfpaa
open Go.PL
open Go.ChangeShapes Go.WideShapes Go.ChangeAt Go.RowKit
theorem Try.own : ownKnob Try.prog.godebug = Option.none := by kernel_rfl
theorem Try.laidOut : laidOutB Try.prog = true := by kernel_rfl
theorem Try.lays : layAll Try.prog = true := by kernel_rfl
theorem oddStrs : oddB Try.prog 25 = false := by kernel_rfl
structure LenLn' (x : Ln) : Prop where
  c : x.fd.cases'.length ≤ maxLen
  f : x.fo.length ≤ maxLen
  b : x.ba.length ≤ maxLen
theorem pt_strs {cs : List PV} (h : PT Try.prog 25 cs) : ∃ l : List Str, cs = [.sl .no (l.map .str)] ∧ l.length ≤ maxLen := by
  obtain ⟨l, rfl, h1, h2⟩ := h.slice_inv oddStrs Try.underlying25
  obtain ⟨xs, rfl, _⟩ := all_told (enc := PV.str) (Q := fun _ => True) (fun p hp => by
    obtain ⟨s, rfl, _⟩ := (h2 p hp).string Try.underlying9
    exact ⟨s, rfl, trivial⟩)
  exact ⟨xs, rfl, by simpa using h1⟩
theorem pt_ref {cs : List PV} (h : PT Try.prog 24 cs) : ∃ r : Rf, cs = [.int .i64 r.sc, .str r.gr, .str r.nm] := by
  have h1 : PTs Try.prog [3, 9, 9] cs := h.struct_inv Try.underlying24
  obtain ⟨a, b, rfl, h2, h3⟩ := h1.cons_inv
  obtain ⟨c, d, rfl, h4, h5⟩ := h3.cons_inv
  obtain ⟨e, f, rfl, h6, h7⟩ := h5.cons_inv
  obtain ⟨x, rfl, _⟩ := h2.int_inv Try.underlying3
  obtain ⟨y, rfl, _⟩ := h4.string_inv Try.underlying9
  obtain ⟨z, rfl, _⟩ := h6.string_inv Try.underlying9
  rw [h7.nil_inv]
  exact ⟨⟨x, y, z⟩, rfl⟩
theorem pt_fld {cs : List PV} (h : PT Try.prog 76 cs) : ∃ f : Fd, cs = [.int .i64 f.at'.sc, .str f.at'.gr, .str f.at'.nm, .int .i64 f.kind, .str f.df, .sl .no (f.cases'.map .str), .int .i64 f.worth] ∧ f.cases'.length ≤ maxLen := by
  have h1 : PTs Try.prog [24, 3, 9, 25, 2] cs := h.struct_inv Try.underlying76
  obtain ⟨a1, b1, rfl, h2, h3⟩ := h1.cons_inv
  obtain ⟨a2, b2, rfl, h4, h5⟩ := h3.cons_inv
  obtain ⟨a3, b3, rfl, h6, h7⟩ := h5.cons_inv
  obtain ⟨a4, b4, rfl, h8, h9⟩ := h7.cons_inv
  obtain ⟨a5, b5, rfl, h10, h11⟩ := h9.cons_inv
  obtain ⟨r, rfl⟩ := pt_ref h2
  obtain ⟨x, rfl, _⟩ := h4.int_inv Try.underlying3
  obtain ⟨y, rfl, _⟩ := h6.string_inv Try.underlying9
  obtain ⟨l, rfl, hl⟩ := pt_strs h8
  obtain ⟨z, rfl, _⟩ := h10.int_inv Try.underlying2
  rw [h11.nil_inv]
  exact ⟨⟨r, x, y, l, z⟩, rfl, hl⟩
end Go.Proofs.Ytmnibpgmcgdfpaa

set_option linter.unusedSimpArgs false
set_option linter.unusedVariables false
set_option linter.unusedSimpArgs false
set_option linter.unusedVariables false
namespace Go.Proofs.Ytmnibpgmcgdfpaa
open Go.PL
open Go.ChangeShapes Go.WideShapes Go.ChangeAt Go.RowKit
theorem oddFds : oddB Try.prog 37 = false := by kernel_rfl
theorem oddEnts : oddB Try.prog 28 = false := by kernel_rfl
theorem oddRows : oddB Try.prog 38 = false := by kernel_rfl
theorem pa_fld {p : PV} (h : PA Try.prog 76 p) : ∃ f : Fd, p = fld f ∧ f.cases'.length ≤ maxLen := by
  obtain ⟨cs, rfl, h1⟩ := PA.agg tagg_76 h
  obtain ⟨f, rfl, hf⟩ := pt_fld h1
  exact ⟨f, rfl, hf⟩
theorem pa_flds {p : PV} (h : PA Try.prog 37 p) : ∃ l : List Fd, p = flds l ∧ l.length ≤ maxLen ∧ ∀ f ∈ l, f.cases'.length ≤ maxLen := by
  obtain ⟨l, rfl, h1, h2⟩ := h.slice oddFds Try.underlying37
  obtain ⟨xs, rfl, h3⟩ := all_told (fun p hp => pa_fld (h2 p hp))
  exact ⟨xs, rfl, by simpa using h1, h3⟩
theorem pa_ent {p : PV} (h : PA Try.prog 27 p) : ∃ e : En, p = ent e ∧ e.l.length ≤ maxLen := by
  obtain ⟨cs, rfl, h1⟩ := PA.agg tagg_27 h
  have h1 : PTs Try.prog [24, 2, 25] cs := h1.struct_inv Try.underlying27
  obtain ⟨a, b, rfl, h2, h3⟩ := h1.cons_inv
  obtain ⟨c, d, rfl, h4, h5⟩ := h3.cons_inv
  obtain ⟨e, f, rfl, h6, h7⟩ := h5.cons_inv
  obtain ⟨r, rfl⟩ := pt_ref h2
  obtain ⟨n, rfl, _⟩ := h4.int_inv Try.underlying2
  obtain ⟨l, rfl, hl⟩ := pt_strs h6
  rw [h7.nil_inv]
  exact ⟨⟨r, n, l⟩, rfl, hl⟩
theorem pt_ents {cs : List PV} (h : PT Try.prog 28 cs) : ∃ l : List En, cs = [.sl .no (l.map ent)] ∧ l.length ≤ maxLen ∧ ∀ e ∈ l, e.l.length ≤ maxLen := by
  obtain ⟨l, rfl, h1, h2⟩ := h.slice_inv oddEnts Try.underlying28
  obtain ⟨xs, rfl, h3⟩ := all_told (fun p hp => pa_ent (h2 p hp))
  exact ⟨xs, rfl, by simpa using h1, h3⟩
theorem pa_row {p : PV} (h : PA Try.prog 53 p) : ∃ r : Rw, p = row r ∧ r.l.length ≤ maxLen ∧ ∀ e ∈ r.l, e.l.length ≤ maxLen := by
  obtain ⟨cs, rfl, h1⟩ := PA.agg tagg_53 h
  have h1 : PTs Try.prog [9, 28] cs := h1.struct_inv Try.underlying53
  obtain ⟨a, b, rfl, h2, h3⟩ := h1.cons_inv
  obtain ⟨c, d, rfl, h4, h5⟩ := h3.cons_inv
  obtain ⟨s, rfl, _⟩ := h2.string_inv Try.underlying9
  obtain ⟨l, rfl, hl⟩ := pt_ents h4
  rw [h5.nil_inv]
  exact ⟨⟨s, l⟩, rfl, hl⟩
theorem pa_doc {p : PV} (h : PA Try.prog 40 p) : ∃ d : Dc, p = doc d ∧ Fine d := by
  obtain ⟨cs, rfl, h1⟩ := PA.agg tagg_40 h
  have h1 : PTs Try.prog [28, 38] cs := h1.struct_inv Try.underlying40
  obtain ⟨a, b, rfl, h2, h3⟩ := h1.cons_inv
  obtain ⟨c, d, rfl, h4, h5⟩ := h3.cons_inv
  obtain ⟨l, rfl, hl⟩ := pt_ents h2
  obtain ⟨m, rfl, h6, h7⟩ := h4.slice_inv oddRows Try.underlying38
  obtain ⟨xs, rfl, h8⟩ := all_told (fun p hp => pa_row (h7 p hp))
  rw [h5.nil_inv]
  exact ⟨⟨l, xs⟩, rfl, hl.1, by simpa using h6, hl.2, h8⟩
end Go.Proofs.Ytmnibpgmcgdfpaa
