/- Contracts of functions and laws of this seat, each for every input that it names: lemmas of the proof. -/
import Derived.Test.YthingdchjkhfbaaGreatVXAn
import Derived.Test.YthingdchjkhfbaaGreatRows
import Derived.ProofKit
import Derived.Test.YthingdchjkhfbaaGreatVXBc
import Derived.Test.YthingdchjkhfbaaGreatVXCs
import Derived.Test.YthingdchjkhfbaaGreatVXBk
set_option linter.unusedSimpArgs false
set_option linter.unusedVariables false
set_option linter.unusedSimpArgs false
set_option linter.unusedVariables false
namespace Go.Proofs.YthingdchjkhfbaaGreat
open Go.PL
open Go.ChangeShapes Go.WideShapes Go.ChangeAt Go.RowKit
theorem Tryz.own : ownKnob Tryz.prog.godebug = Option.none := by kernel_rfl
theorem Tryz.laidOut : laidOutB Tryz.prog = true := by kernel_rfl
theorem Tryz.lays : layAll Tryz.prog = true := by kernel_rfl
theorem oddStrs : oddB Tryz.prog 61 = false := by kernel_rfl
theorem oddPrs : oddB Tryz.prog 73 = false := by kernel_rfl
theorem oddEgs : oddB Tryz.prog 22 = false := by kernel_rfl
structure LenLn' (x : Ln) : Prop where
 c : x.fd.cases'.length ≤ maxLen
 f : x.fo.length ≤ maxLen
 b : x.ba.length ≤ maxLen
theorem pt_strs {cs : List PV} (h : PT Tryz.prog 61 cs) : ∃ l : List Str, cs = [.sl .no (l.map .str)] ∧ l.length ≤ maxLen := by
 obtain ⟨l, rfl, h1, h2⟩ := h.slice_inv oddStrs Tryz.underlying61
 obtain ⟨xs, rfl, _⟩ := all_told (enc := PV.str) (Q := fun _ => True) (fun p hp => by
  obtain ⟨s, rfl, _⟩ := (h2 p hp).string Tryz.underlying9
  exact ⟨s, rfl, trivial⟩)
 exact ⟨xs, rfl, by simpa using h1⟩
theorem pt_tag {cs : List PV} (h : PT Tryz.prog 25 cs) : ∃ r : Tg, cs = [.int .i64 r.r, .int .i64 r.n] := by
 have h1 : PTs Tryz.prog [3, 3] cs := h.struct_inv Tryz.underlying25
 obtain ⟨a, b, rfl, h2, h3⟩ := h1.cons_inv
 obtain ⟨c, d, rfl, h4, h5⟩ := h3.cons_inv
 obtain ⟨x, rfl, _⟩ := h2.int_inv Tryz.underlying3
 obtain ⟨y, rfl, _⟩ := h4.int_inv Tryz.underlying3
 rw [h5.nil_inv]
 exact ⟨⟨x, y⟩, rfl⟩
theorem pt_ref {cs : List PV} (h : PT Tryz.prog 34 cs) : ∃ r : Rf, cs = [.int .i64 r.sc, .str r.gr, .str r.nm] := by
 have h1 : PTs Tryz.prog [3, 9, 9] cs := h.struct_inv Tryz.underlying34
 obtain ⟨a, b, rfl, h2, h3⟩ := h1.cons_inv
 obtain ⟨c, d, rfl, h4, h5⟩ := h3.cons_inv
 obtain ⟨e, f, rfl, h6, h7⟩ := h5.cons_inv
 obtain ⟨x, rfl, _⟩ := h2.int_inv Tryz.underlying3
 obtain ⟨y, rfl, _⟩ := h4.string_inv Tryz.underlying9
 obtain ⟨z, rfl, _⟩ := h6.string_inv Tryz.underlying9
 rw [h7.nil_inv]
 exact ⟨⟨x, y, z⟩, rfl⟩
theorem pt_fld {cs : List PV} (h : PT Tryz.prog 63 cs) : ∃ f : Fd, cs = [.int .i64 f.at'.sc, .str f.at'.gr, .str f.at'.nm, .int .i64 f.kind, .str f.df, .sl .no (f.cases'.map .str), .int .i64 f.worth] ∧ f.cases'.length ≤ maxLen := by
 have h1 : PTs Tryz.prog [34, 3, 9, 61, 2] cs := h.struct_inv Tryz.underlying63
 obtain ⟨a1, b1, rfl, h2, h3⟩ := h1.cons_inv
 obtain ⟨a2, b2, rfl, h4, h5⟩ := h3.cons_inv
 obtain ⟨a3, b3, rfl, h6, h7⟩ := h5.cons_inv
 obtain ⟨a4, b4, rfl, h8, h9⟩ := h7.cons_inv
 obtain ⟨a5, b5, rfl, h10, h11⟩ := h9.cons_inv
 obtain ⟨r, rfl⟩ := pt_ref h2
 obtain ⟨x, rfl, _⟩ := h4.int_inv Tryz.underlying3
 obtain ⟨y, rfl, _⟩ := h6.string_inv Tryz.underlying9
 obtain ⟨l, rfl, hl⟩ := pt_strs h8
 obtain ⟨z, rfl, _⟩ := h10.int_inv Tryz.underlying2
 rw [h11.nil_inv]
 exact ⟨⟨r, x, y, l, z⟩, rfl, hl⟩
theorem pa_pair {p : PV} (h : PA Tryz.prog 170 p) : ∃ e : Pr, p = pr e := by
 obtain ⟨cs, rfl, h1⟩ := PA.agg tagg_170 h
 have h1 : PTs Tryz.prog [9, 9] cs := h1.struct_inv Tryz.underlying170
 obtain ⟨a, b, rfl, h2, h3⟩ := h1.cons_inv
 obtain ⟨c, d, rfl, h4, h5⟩ := h3.cons_inv
 obtain ⟨x, rfl, _⟩ := h2.string_inv Tryz.underlying9
 obtain ⟨y, rfl, _⟩ := h4.string_inv Tryz.underlying9
 rw [h5.nil_inv]
 exact ⟨⟨x, y⟩, rfl⟩
theorem pt_prs {cs : List PV} (h : PT Tryz.prog 73 cs) : ∃ l : List Pr, cs = [.sl .no (l.map pr)] ∧ l.length ≤ maxLen := by
 obtain ⟨l, rfl, h1, h2⟩ := h.slice_inv oddPrs Tryz.underlying73
 obtain ⟨xs, rfl, _⟩ := all_told (enc := pr) (Q := fun _ => True) (fun p hp => by
  obtain ⟨s, rfl⟩ := pa_pair (h2 p hp)
  exact ⟨s, rfl, trivial⟩)
 exact ⟨xs, rfl, by simpa using h1⟩
def lncellsG (x : Ln) : List PV := [.int .i64 x.kind, .int .i64 x.at'.sc, .str x.at'.gr, .str x.at'.nm, .str x.nm, .str x.ot, .int .i64 x.fac, .int .i64 x.fd.at'.sc, .str x.fd.at'.gr, .str x.fd.at'.nm, .int .i64 x.fd.kind, .str x.fd.df, .sl .no (x.fd.cases'.map .str), .int .i64 x.fd.worth, .sl .no (x.fo.map pr), .sl .no (x.ba.map pr)]
theorem pt_lens {cs : List PV} (h : PT Tryz.prog 75 cs) : ∃ x : Ln, cs = lncellsG x ∧ LenLn' x := by
 have h1 : PTs Tryz.prog [3, 34, 9, 9, 2, 63, 73, 73] cs := h.struct_inv Tryz.underlying75
 obtain ⟨a1, b1, rfl, h2, h3⟩ := h1.cons_inv
 obtain ⟨a2, b2, rfl, h4, h5⟩ := h3.cons_inv
 obtain ⟨a3, b3, rfl, h6, h7⟩ := h5.cons_inv
 obtain ⟨a4, b4, rfl, h8, h9⟩ := h7.cons_inv
 obtain ⟨a5, b5, rfl, h10, h11⟩ := h9.cons_inv
 obtain ⟨a6, b6, rfl, h12, h13⟩ := h11.cons_inv
 obtain ⟨a7, b7, rfl, h14, h15⟩ := h13.cons_inv
 obtain ⟨a8, b8, rfl, h16, h17⟩ := h15.cons_inv
 obtain ⟨x1, rfl, _⟩ := h2.int_inv Tryz.underlying3
 obtain ⟨x2, rfl⟩ := pt_ref h4
 obtain ⟨x3, rfl, _⟩ := h6.string_inv Tryz.underlying9
 obtain ⟨x4, rfl, _⟩ := h8.string_inv Tryz.underlying9
 obtain ⟨x5, rfl, _⟩ := h10.int_inv Tryz.underlying2
 obtain ⟨x6, rfl, k6⟩ := pt_fld h12
 obtain ⟨x7, rfl, k7⟩ := pt_prs h14
 obtain ⟨x8, rfl, k8⟩ := pt_prs h16
 rw [h17.nil_inv]
 exact ⟨⟨x1, x2, x3, x4, x5, x6, x7, x8⟩, rfl, ⟨k6, k7, k8⟩⟩
theorem pa_edge {p : PV} (h : PA Tryz.prog 77 p) : ∃ e : Eg, p = eg e ∧ LenLn' e.ln := by
 obtain ⟨cs, rfl, h1⟩ := PA.agg tagg_77 h
 have h1 : PTs Tryz.prog [25, 25, 75] cs := h1.struct_inv Tryz.underlying77
 obtain ⟨a1, b1, rfl, h2, h3⟩ := h1.cons_inv
 obtain ⟨a2, b2, rfl, h4, h5⟩ := h3.cons_inv
 obtain ⟨a3, b3, rfl, h6, h7⟩ := h5.cons_inv
 obtain ⟨x1, rfl⟩ := pt_tag h2
 obtain ⟨x2, rfl⟩ := pt_tag h4
 obtain ⟨x3, rfl, k3⟩ := pt_lens h6
 rw [h7.nil_inv]
 exact ⟨⟨x1, x2, x3⟩, rfl, k3⟩
theorem pa_edges {p : PV} (h : PA Tryz.prog 22 p) : ∃ l : List Eg, p = egs l ∧ l.length ≤ maxLen ∧ ∀ e ∈ l, LenLn' e.ln := by
 obtain ⟨l, rfl, h1, h2⟩ := h.slice oddEgs Tryz.underlying22
 obtain ⟨xs, rfl, h3⟩ := all_told (fun p hp => pa_edge (h2 p hp))
 exact ⟨xs, rfl, by simpa using h1, h3⟩
theorem pa_tag {p : PV} (h : PA Tryz.prog 25 p) : ∃ t : Tg, p = tg t := by
 obtain ⟨cs, rfl, h1⟩ := PA.agg tagg_25 h
 obtain ⟨r, rfl⟩ := pt_tag h1
 exact ⟨r, rfl⟩
end Go.Proofs.YthingdchjkhfbaaGreat
set_option linter.unusedSimpArgs false
set_option linter.unusedVariables false
set_option linter.unusedSimpArgs false
set_option linter.unusedVariables false
namespace Go.Proofs.YthingdchjkhfbaaGreat
open Go.PL
open Go.ChangeShapes Go.WideShapes Go.ChangeAt Go.RowKit
theorem oddTgs : oddB Tryz.prog 35 = false := by kernel_rfl
theorem pt_tgs {cs : List PV} (h : PT Tryz.prog 35 cs) : ∃ l : List Tg, cs = [.sl .no (l.map tg)] ∧ l.length ≤ maxLen := by
 obtain ⟨l, rfl, h1, h2⟩ := h.slice_inv oddTgs Tryz.underlying35
 obtain ⟨xs, rfl, _⟩ := all_told (enc := tg) (Q := fun _ => True) (fun p hp => by
  obtain ⟨s, rfl⟩ := pa_tag (h2 p hp)
  exact ⟨s, rfl, trivial⟩)
 exact ⟨xs, rfl, by simpa using h1⟩
theorem pa_op {p : PV} (h : PA Tryz.prog 37 p) : ∃ o : Opn, p = opv o ∧ o.drops.length ≤ maxLen := by
 obtain ⟨cs, rfl, h1⟩ := PA.agg tagg_37 h
 have h1 : PTs Tryz.prog [25, 25, 2, 9, 3, 9, 34, 2, 4, 9, 35] cs := h1.struct_inv Tryz.underlying37
 obtain ⟨a1, b1, rfl, h2, h3⟩ := h1.cons_inv
 obtain ⟨a2, b2, rfl, h4, h5⟩ := h3.cons_inv
 obtain ⟨a3, b3, rfl, h6, h7⟩ := h5.cons_inv
 obtain ⟨a4, b4, rfl, h8, h9⟩ := h7.cons_inv
 obtain ⟨a5, b5, rfl, h10, h11⟩ := h9.cons_inv
 obtain ⟨a6, b6, rfl, h12, h13⟩ := h11.cons_inv
 obtain ⟨a7, b7, rfl, h14, h15⟩ := h13.cons_inv
 obtain ⟨a8, b8, rfl, h16, h17⟩ := h15.cons_inv
 obtain ⟨a9, b9, rfl, h18, h19⟩ := h17.cons_inv
 obtain ⟨aa, ba, rfl, h20, h21⟩ := h19.cons_inv
 obtain ⟨ab, bb, rfl, h22, h23⟩ := h21.cons_inv
 obtain ⟨x1, rfl⟩ := pt_tag h2
 obtain ⟨x2, rfl⟩ := pt_tag h4
 obtain ⟨x3, rfl, _⟩ := h6.int_inv Tryz.underlying2
 obtain ⟨x4, rfl, _⟩ := h8.string_inv Tryz.underlying9
 obtain ⟨x5, rfl, _⟩ := h10.int_inv Tryz.underlying3
 obtain ⟨x6, rfl, _⟩ := h12.string_inv Tryz.underlying9
 obtain ⟨x7, rfl⟩ := pt_ref h14
 obtain ⟨x8, rfl, _⟩ := h16.int_inv Tryz.underlying2
 obtain ⟨x9, rfl⟩ := h18.bool_inv Tryz.underlying4
 obtain ⟨xa, rfl, _⟩ := h20.string_inv Tryz.underlying9
 obtain ⟨xb, rfl, kb⟩ := pt_tgs h22
 rw [h23.nil_inv]
 exact ⟨⟨x1, x2, x3, x4, x5, x6, x7, x8, x9, xa, xb⟩, rfl, kb⟩
end Go.Proofs.YthingdchjkhfbaaGreat
set_option linter.unusedSimpArgs false
set_option linter.unusedVariables false
set_option linter.unusedSimpArgs false
set_option linter.unusedVariables false
namespace Go.Proofs.YthingdchjkhfbaaGreat
open Go.PL
open Go.ChangeShapes Go.WideShapes Go.ChangeAt Go.RowKit
theorem oddOps : oddB Tryz.prog 23 = false := by kernel_rfl
theorem pa_ops {p : PV} (h : PA Tryz.prog 23 p) : ∃ l : List Opn, p = opvs l ∧ l.length ≤ maxLen := by
 obtain ⟨l, rfl, h1, h2⟩ := h.slice oddOps Tryz.underlying23
 obtain ⟨xs, rfl, h3⟩ := all_told (enc := opv) (Q := fun _ => True) (fun p hp => by
  obtain ⟨s, rfl, _⟩ := pa_op (h2 p hp)
  exact ⟨s, rfl, trivial⟩)
 exact ⟨xs, rfl, by simpa using h1⟩
theorem lenLn {x : Ln} (h : LenLn' x) : LenLn x := ⟨h.c, h.f, h.b⟩
end Go.Proofs.YthingdchjkhfbaaGreat
