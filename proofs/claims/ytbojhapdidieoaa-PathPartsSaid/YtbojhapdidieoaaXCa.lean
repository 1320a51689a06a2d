/- Contracts of functions and laws of this seat, each for every input that it names: lemmas of the proof. -/
import Derived.Test.YtbojhapdidieoaaXAp
import Derived.Test.YtbojhapdidieoaaRows
import Derived.ProofKit
set_option linter.unusedSimpArgs false
set_option linter.unusedVariables false
set_option linter.unusedSimpArgs false
set_option linter.unusedVariables false
namespace Go.Proofs.Ytbojhapdidieoaa
open Go.PL
open Go.ChangeShapes Go.WideShapes Go.ChangeAt Go.RowKit
theorem Try.own : ownKnob Try.prog.godebug = Option.none := by kernel_rfl
theorem Try.laidOut : laidOutB Try.prog = true := by kernel_rfl
theorem Try.lays : layAll Try.prog = true := by kernel_rfl
theorem oddStrs : oddB Try.prog 44 = false := by kernel_rfl
theorem oddPrs : oddB Try.prog 47 = false := by kernel_rfl
theorem oddEgs : oddB Try.prog 22 = false := by kernel_rfl
structure LenLn' (x : Ln) : Prop where
  c : x.fd.cases'.length ≤ maxLen
  f : x.fo.length ≤ maxLen
  b : x.ba.length ≤ maxLen
theorem pt_strs {cs : List PV} (h : PT Try.prog 44 cs) : ∃ l : List Str, cs = [.sl .no (l.map .str)] ∧ l.length ≤ maxLen := by
  obtain ⟨l, rfl, h1, h2⟩ := h.slice_inv oddStrs Try.underlying44
  obtain ⟨xs, rfl, _⟩ := all_told (enc := PV.str) (Q := fun _ => True) (fun p hp => by
    obtain ⟨s, rfl, _⟩ := (h2 p hp).string Try.underlying9
    exact ⟨s, rfl, trivial⟩)
  exact ⟨xs, rfl, by simpa using h1⟩
theorem pt_tag {cs : List PV} (h : PT Try.prog 24 cs) : ∃ r : Tg, cs = [.int .i64 r.r, .int .i64 r.n] := by
  have h1 : PTs Try.prog [3, 3] cs := h.struct_inv Try.underlying24
  obtain ⟨a, b, rfl, h2, h3⟩ := h1.cons_inv
  obtain ⟨c, d, rfl, h4, h5⟩ := h3.cons_inv
  obtain ⟨x, rfl, _⟩ := h2.int_inv Try.underlying3
  obtain ⟨y, rfl, _⟩ := h4.int_inv Try.underlying3
  rw [h5.nil_inv]
  exact ⟨⟨x, y⟩, rfl⟩
theorem pt_ref {cs : List PV} (h : PT Try.prog 43 cs) : ∃ r : Rf, cs = [.int .i64 r.sc, .str r.gr, .str r.nm] := by
  have h1 : PTs Try.prog [3, 9, 9] cs := h.struct_inv Try.underlying43
  obtain ⟨a, b, rfl, h2, h3⟩ := h1.cons_inv
  obtain ⟨c, d, rfl, h4, h5⟩ := h3.cons_inv
  obtain ⟨e, f, rfl, h6, h7⟩ := h5.cons_inv
  obtain ⟨x, rfl, _⟩ := h2.int_inv Try.underlying3
  obtain ⟨y, rfl, _⟩ := h4.string_inv Try.underlying9
  obtain ⟨z, rfl, _⟩ := h6.string_inv Try.underlying9
  rw [h7.nil_inv]
  exact ⟨⟨x, y, z⟩, rfl⟩
theorem pt_fld {cs : List PV} (h : PT Try.prog 46 cs) : ∃ f : Fd, cs = [.int .i64 f.at'.sc, .str f.at'.gr, .str f.at'.nm, .int .i64 f.kind, .str f.df, .sl .no (f.cases'.map .str), .int .i64 f.worth] ∧ f.cases'.length ≤ maxLen := by
  have h1 : PTs Try.prog [43, 3, 9, 44, 2] cs := h.struct_inv Try.underlying46
  obtain ⟨a1, b1, rfl, h2, h3⟩ := h1.cons_inv
  obtain ⟨a2, b2, rfl, h4, h5⟩ := h3.cons_inv
  obtain ⟨a3, b3, rfl, h6, h7⟩ := h5.cons_inv
  obtain ⟨a4, b4, rfl, h8, h9⟩ := h7.cons_inv
  obtain ⟨a5, b5, rfl, h10, h11⟩ := h9.cons_inv
  obtain ⟨r, rfl⟩ := pt_ref h2
  obtain ⟨x, rfl, _⟩ := h4.int_inv Try.underlying3
  obtain ⟨y, rfl, _⟩ := h6.string_inv Try.underlying9
  obtain ⟨l, rfl, hl⟩ := pt_strs h8
  obtain ⟨z, rfl, _⟩ := h10.int_inv Try.underlying2
  rw [h11.nil_inv]
  exact ⟨⟨r, x, y, l, z⟩, rfl, hl⟩
theorem pa_pair {p : PV} (h : PA Try.prog 161 p) : ∃ e : Pr, p = pr e := by
  obtain ⟨cs, rfl, h1⟩ := PA.agg tagg_161 h
  have h1 : PTs Try.prog [9, 9] cs := h1.struct_inv Try.underlying161
  obtain ⟨a, b, rfl, h2, h3⟩ := h1.cons_inv
  obtain ⟨c, d, rfl, h4, h5⟩ := h3.cons_inv
  obtain ⟨x, rfl, _⟩ := h2.string_inv Try.underlying9
  obtain ⟨y, rfl, _⟩ := h4.string_inv Try.underlying9
  rw [h5.nil_inv]
  exact ⟨⟨x, y⟩, rfl⟩
theorem pt_prs {cs : List PV} (h : PT Try.prog 47 cs) : ∃ l : List Pr, cs = [.sl .no (l.map pr)] ∧ l.length ≤ maxLen := by
  obtain ⟨l, rfl, h1, h2⟩ := h.slice_inv oddPrs Try.underlying47
  obtain ⟨xs, rfl, _⟩ := all_told (enc := pr) (Q := fun _ => True) (fun p hp => by
    obtain ⟨s, rfl⟩ := pa_pair (h2 p hp)
    exact ⟨s, rfl, trivial⟩)
  exact ⟨xs, rfl, by simpa using h1⟩
def lncellsG (x : Ln) : List PV := [.int .i64 x.kind, .int .i64 x.at'.sc, .str x.at'.gr, .str x.at'.nm, .str x.nm, .str x.ot, .int .i64 x.fac, .int .i64 x.fd.at'.sc, .str x.fd.at'.gr, .str x.fd.at'.nm, .int .i64 x.fd.kind, .str x.fd.df, .sl .no (x.fd.cases'.map .str), .int .i64 x.fd.worth, .sl .no (x.fo.map pr), .sl .no (x.ba.map pr)]
theorem pt_lens {cs : List PV} (h : PT Try.prog 49 cs) : ∃ x : Ln, cs = lncellsG x ∧ LenLn' x := by
  have h1 : PTs Try.prog [3, 43, 9, 9, 2, 46, 47, 47] cs := h.struct_inv Try.underlying49
  obtain ⟨a1, b1, rfl, h2, h3⟩ := h1.cons_inv
  obtain ⟨a2, b2, rfl, h4, h5⟩ := h3.cons_inv
  obtain ⟨a3, b3, rfl, h6, h7⟩ := h5.cons_inv
  obtain ⟨a4, b4, rfl, h8, h9⟩ := h7.cons_inv
  obtain ⟨a5, b5, rfl, h10, h11⟩ := h9.cons_inv
  obtain ⟨a6, b6, rfl, h12, h13⟩ := h11.cons_inv
  obtain ⟨a7, b7, rfl, h14, h15⟩ := h13.cons_inv
  obtain ⟨a8, b8, rfl, h16, h17⟩ := h15.cons_inv
  obtain ⟨x1, rfl, _⟩ := h2.int_inv Try.underlying3
  obtain ⟨x2, rfl⟩ := pt_ref h4
  obtain ⟨x3, rfl, _⟩ := h6.string_inv Try.underlying9
  obtain ⟨x4, rfl, _⟩ := h8.string_inv Try.underlying9
  obtain ⟨x5, rfl, _⟩ := h10.int_inv Try.underlying2
  obtain ⟨x6, rfl, k6⟩ := pt_fld h12
  obtain ⟨x7, rfl, k7⟩ := pt_prs h14
  obtain ⟨x8, rfl, k8⟩ := pt_prs h16
  rw [h17.nil_inv]
  exact ⟨⟨x1, x2, x3, x4, x5, x6, x7, x8⟩, rfl, ⟨k6, k7, k8⟩⟩
theorem pa_edge {p : PV} (h : PA Try.prog 100 p) : ∃ e : Eg, p = eg e ∧ LenLn' e.ln := by
  obtain ⟨cs, rfl, h1⟩ := PA.agg tagg_100 h
  have h1 : PTs Try.prog [24, 24, 49] cs := h1.struct_inv Try.underlying100
  obtain ⟨a1, b1, rfl, h2, h3⟩ := h1.cons_inv
  obtain ⟨a2, b2, rfl, h4, h5⟩ := h3.cons_inv
  obtain ⟨a3, b3, rfl, h6, h7⟩ := h5.cons_inv
  obtain ⟨x1, rfl⟩ := pt_tag h2
  obtain ⟨x2, rfl⟩ := pt_tag h4
  obtain ⟨x3, rfl, k3⟩ := pt_lens h6
  rw [h7.nil_inv]
  exact ⟨⟨x1, x2, x3⟩, rfl, k3⟩
theorem pa_edges {p : PV} (h : PA Try.prog 22 p) : ∃ l : List Eg, p = egs l ∧ l.length ≤ maxLen ∧ ∀ e ∈ l, LenLn' e.ln := by
  obtain ⟨l, rfl, h1, h2⟩ := h.slice oddEgs Try.underlying22
  obtain ⟨xs, rfl, h3⟩ := all_told (fun p hp => pa_edge (h2 p hp))
  exact ⟨xs, rfl, by simpa using h1, h3⟩
theorem pa_tag {p : PV} (h : PA Try.prog 24 p) : ∃ t : Tg, p = tg t := by
  obtain ⟨cs, rfl, h1⟩ := PA.agg tagg_24 h
  obtain ⟨r, rfl⟩ := pt_tag h1
  exact ⟨r, rfl⟩
end Go.Proofs.Ytbojhapdidieoaa
