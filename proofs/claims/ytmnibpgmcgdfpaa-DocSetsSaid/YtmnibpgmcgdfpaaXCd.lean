/- Contracts of functions and laws of this seat, each for every input that it names: lemmas of the proof. -/
import Derived.Test.YtmnibpgmcgdfpaaPlL
import Derived.Test.YtmnibpgmcgdfpaaXAa
import Derived.Test.YtmnibpgmcgdfpaaXAc
import Derived.Test.YtmnibpgmcgdfpaaXAn
import Derived.Test.YtmnibpgmcgdfpaaXAu
import Derived.Test.YtmnibpgmcgdfpaaXBi
import Derived.Test.YtmnibpgmcgdfpaaXBq
import Derived.Test.YtmnibpgmcgdfpaaXBu
set_option linter.unusedSimpArgs false
set_option linter.unusedVariables false
set_option linter.unusedSimpArgs false
set_option linter.unusedVariables false
namespace Go.Proofs.Ytmnibpgmcgdfpaa
open Go.PL
/-- two lenses that lead to and back between two schemas -/
structure Pair (l m : List Fd) (x y : Ln) : Prop where
  a : applyM l x = (m, 0)
  b : applyM m y = (l, 0)
  g : goesR y = comesR x
  c : comesR y = goesR x
theorem Pair.back {l m : List Fd} {x y : Ln} (h : Pair l m x y) : Pair m l y x := ⟨h.b, h.a, h.c.symm, h.g.symm⟩
theorem Pair.right {l m : List Fd} {x y : Ln} (h : Pair l m x y) : rightLn x = true := (apply_fwd h.a).2.1
/-- a row of lenses with those that lead back -/
inductive Pairs : List Fd → List Fd → List Ln → List Ln → Prop
  | nil (l : List Fd) : Pairs l l [] []
  | cons {l m n : List Fd} {x y : Ln} {xs ys : List Ln} (h : Pair l m x y) (hs : Pairs m n xs ys) : Pairs l n (x :: xs) (ys ++ [y])
theorem Pairs.append {l m n : List Fd} {xs ys us vs : List Ln} (h1 : Pairs l m xs ys) (h2 : Pairs m n us vs) : Pairs l n (xs ++ us) (vs ++ ys) := by
  induction h1 with
  | nil => simpa using h2
  | cons h hs ih => rw [← List.append_assoc]; exact .cons h (ih h2)
theorem Pairs.back {l m : List Fd} {xs ys : List Ln} (h : Pairs l m xs ys) : Pairs m l ys xs := by
  induction h with
  | nil => exact .nil _
  | cons h hs ih => exact ih.append (.cons h.back (.nil _))
end Go.Proofs.Ytmnibpgmcgdfpaa

set_option linter.unusedSimpArgs false
set_option linter.unusedVariables false
set_option linter.unusedSimpArgs false
set_option linter.unusedVariables false
namespace Go.Proofs.Ytmnibpgmcgdfpaa
open Go.PL
theorem atoms_row (l : List Rw) : Atoms (l.map row) := fun e he => by
  obtain ⟨t, _, rfl⟩ := List.mem_map.1 he
  rfl
theorem row_dids (r : Rw) : (row r).dids = [] := by simp only [row, PV.dids, PV.didsL, didsL_ent, List.append_nil]
theorem didsL_row (l : List Rw) : PV.didsL (l.map row) = [] := by
  induction l with
  | nil => rfl
  | cons t l ih => simp only [List.map_cons, PV.didsL, ih, row_dids, List.append_nil]
theorem doc_dids (d : Dc) : (doc d).dids = [] := by simp only [doc, PV.dids, PV.didsL, didsL_ent, didsL_row, List.append_nil]
/-- rows gathered in a field of a block: nil at first -/
def gatC (i : Nat) (l : List Rw) : Nat → PV
  | 0 => .sl .nil []
  | k + 1 => .sl (.row i) ((l.take (k + 1)).map row)
def gatR (i : Nat) : Nat → List (Nat × Row)
  | 0 => []
  | k + 1 => [(i, .live (k + 1) 2 53)]
set_option maxRecDepth 20000 in
set_option maxHeartbeats 8000000 in
theorem DOwn_pure (d : Dc) (h1 : d.head.length ≤ 100000) (h2 : d.rows.length ≤ 100000) (h3 : ∀ e ∈ d.head, e.l.length ≤ 1000000) (h4 : ∀ r ∈ d.rows, r.l.length ≤ 100000 ∧ ∀ e ∈ r.l, e.l.length ≤ 1000000) : PL.Pure Try.prog 18 [doc d] (doc d) := by
  obtain ⟨hd, rws⟩ := d
  simp only at h1 h2 h3 h4
  have hm : rws.length ≤ maxLen := by rw [maxLen_eq]; omega
  have hE := ownEntries_pure hd h1 h3
  refine pov2 Try.func18 rfl Try.ntmps18 Try.results18 (doc_dids _) ?_
  simp only [go_sem, doc]
  refine vc1 (hE) ?_
  simp only [go_sem, ents]
  refine vLoopM (ι := { k : Nat // k ≤ rws.length }) 30 (fun x => [(2, .ptr 2 0), (3, .ptr 3 0), (11, .sl .no (rws.map row)), (12, .int .i64 (rws.length : Int)), (13, .int .i64 (x.1 : Int))]) (fun x => [(2, [.sl .nil [], .sl .nil []], false), (3, [.sl .no (hd.map ent), gatC 26 rws x.1], false)]) (fun x => gatR 26 x.1) (fun x => rws.length - x.1) ⟨0, Nat.zero_le _⟩
    ⟨rfl, (forall_cons rfl (forall_cons rfl (forall_cons rfl (forall_cons rfl (forall_cons rfl (forall_nil)))))), forall_cons ⟨rfl, rfl⟩ (forall_cons ⟨rfl, rfl⟩ forall_nil), forall_nil⟩ (fun x => ?_) (fun x => ?_)
  · obtain ⟨k, hk⟩ := x
    cases k with
    | zero => exact ⟨(forall_cons rfl (forall_cons rfl (forall_cons rfl (forall_cons rfl (forall_cons rfl (forall_nil)))))), forall_cons rfl (forall_cons rfl forall_nil)⟩
    | succ k => exact ⟨(forall_cons rfl (forall_cons rfl (forall_cons rfl (forall_cons rfl (forall_cons rfl (forall_nil)))))), forall_cons rfl (forall_cons (by simp [gatC, gatR, PV.ids, PV.idsL, refInM]) forall_nil)⟩
  obtain ⟨k, hk⟩ := x
  simp only
  by_cases h : (k : Int) < (rws.length : Int)
  · have hka : k < rws.length := by omega
    have w1 := w64s hka hm
    have i1 : (0 : Int) ≤ (k : Int) := by omega
    have rk := h4 _ (getD_mem' (d := default) hka)
    have hO := ownEntries_pure (rws.getD k default).l rk.1 rk.2
    have hsn : (rws.take (k + 1)).map row = (rws.take k).map row ++ [row (rws.getD k default)] := by rw [take_snoc (d := default) hka, List.map_append]; rfl
    have hsz := sized_row (rws.take k)
    have hr0 := room1 (show 1 ≤ 1000000 by omega) (show 40 ≤ 1000 by omega)
    have hat := atoms_row [rws.getD k default]
    have hln : ((rws.take k).map row).length = k := by simp; omega
    cases k with
    | zero =>
      have h' : (0 : Int) < (rws.length : Int) := by simpa using h
      have g0 := getD_row' hka
      simp only [go_sem, gatC, gatR, h', g0, row, i1]
      refine vDq ?_
      simp only [go_sem]
      refine vc1 (hO) ?_
      have w0 : IntKind.i64.wrap 1 = 1 := w64 (by omega)
      simp only [go_sem, ents, w1, w0]
      refine ⟨hr0, ⟨⟨0 + 1, by omega⟩, by show rws.length - (0 + 1) < rws.length - 0; omega, ⟨rfl, (forall_cons rfl (forall_cons rfl (forall_cons rfl (forall_cons rfl (forall_cons rfl (forall_nil)))))), forall_cons ⟨rfl, rfl⟩ (forall_cons ⟨?_, rfl⟩ forall_nil), forall_cons rfl forall_nil⟩⟩⟩
      show some [PV.sl .no _, PV.sl (.row 26) _] = some [PV.sl .no _, PV.sl (.row 26) _]
      rw [hsn]
      rfl
    | succ k =>
      have hl3 : (rws.take (k + 1)).length = k + 1 := by rw [List.length_take]; omega
      have hr := room1 (show k + 1 + 1 ≤ 1000000 by omega) (show 40 ≤ 1000 by omega)
      simp only [go_sem, gatC, gatR, h, getD_row' hka, row, i1]
      refine vDq ?_
      simp only [go_sem]
      refine vc1 (hO) ?_
      simp only [go_sem, ents, w1]
      refine ⟨⟨hl3.symm, sized_row _, by rw [hl3]; exact hr⟩, ⟨⟨k + 1 + 1, by omega⟩, by show rws.length - (k + 1 + 1) < rws.length - (k + 1); omega, ⟨rfl, (forall_cons rfl (forall_cons rfl (forall_cons rfl (forall_cons rfl (forall_cons rfl (forall_nil)))))), forall_cons ⟨rfl, rfl⟩ (forall_cons ⟨?_, rfl⟩ forall_nil), forall_cons ?_ forall_nil⟩⟩⟩
      · show some [PV.sl .no _, PV.sl (.row 26) _] = some [PV.sl .no _, PV.sl (.row 26) _]
        rw [hsn]
        rfl
      · show some _ = some _
        rw [hl3]
  · obtain rfl : k = rws.length := by omega
    cases rws with
    | nil =>
      have h' : ¬ (0 : Int) < 0 := by omega
      simp only [go_sem, gatC, gatR, h']
      rfl
    | cons r rs =>
      have ht : (r :: rs).take (rs.length + 1) = r :: rs := List.take_length (l := r :: rs)
      have h' : ¬ ((rs.length + 1 : Nat) : Int) < ((rs.length + 1 : Nat) : Int) := by omega
      simp only [go_sem, gatC, gatR, h', ht]
      rw [List.take_length]
      rfl
end Go.Proofs.Ytmnibpgmcgdfpaa

set_option linter.unusedSimpArgs false
set_option linter.unusedVariables false
set_option linter.unusedSimpArgs false
set_option linter.unusedVariables false
namespace Go.PL
section
variable {s : St} {L : List (Nat × PV)} {b b' d k sz n : Nat} {e : TypeId} {cs cs' es : List PV}
theorem hasX_v2b (h0 : s.n = n) (hL : ∀ x ∈ L, s.fr x.1 = x.2) (hb : s.m.h b = some cs) (hz : s.m.z b = false) (hb' : s.m.h b' = some cs') (hz' : s.m.z b' = false) (hq : s.m.q d = some (.vec k sz e)) (hv : s.m.v d = some es) : HasX n L [(b, cs, false), (b', cs', false)] [(d, .vec k sz e)] [] [] [(d, es)] [] [] [] s :=
  ⟨⟨h0, hL, by simp [hb, hz, hb', hz'], by simp [hq]⟩, by simp, by simp, by simp [hv], by simp, by simp, by simp⟩
theorem wholeX_v2b (hL : ∀ x ∈ L, x.2.ids.all (refInM [(b, cs, false), (b', cs', false)] [(d, .vec k sz e)]) = true) (hc : (PV.idsL cs).all (refInM [(b, cs, false), (b', cs', false)] [(d, .vec k sz e)]) = true) (hc' : (PV.idsL cs').all (refInM [(b, cs, false), (b', cs', false)] [(d, .vec k sz e)]) = true) (he : PV.idsL es = []) : WholeX L [(b, cs, false), (b', cs', false)] [(d, .vec k sz e)] [(d, es)] [] [] [] :=
  ⟨⟨hL, by simp only [List.all_eq_true] at hc hc'; simp; exact ⟨hc, hc'⟩⟩, by simp [he], by simp, by simp, by simp, by simp⟩
end
end Go.PL
namespace Go.Proofs.Ytmnibpgmcgdfpaa
open Go.PL
theorem row_ids (r : Rw) : (row r).ids = [] := by simp [row, ents, PV.ids, PV.idsL]
set_option maxRecDepth 20000 in
set_option maxHeartbeats 8000000 in
/-- its own copy, the rows handed on as they lie -/
theorem OwnR_eff (d : Dc) (h1 : d.head.length ≤ 100000) (h2 : d.rows.length ≤ 100000) (h3 : ∀ e ∈ d.head, e.l.length ≤ 1000000) (h4 : ∀ r ∈ d.rows, r.l.length ≤ 100000 ∧ ∀ e ∈ r.l, e.l.length ≤ 1000000) :
    Eff Try.prog 18 [doc d] noV (.agg [ents d.head, .vsl 26 d.rows.length 2]) (vecN 26 d.rows.length 2 53 (d.rows.map row)) := by
  obtain ⟨hd, rws⟩ := d
  simp only at h1 h2 h3 h4
  have hcl : ∀ l : List Rw, ∀ p ∈ l.map row, p.ids = [] := fun l => ids_mapV row_ids l
  have hm : rws.length ≤ maxLen := by rw [maxLen_eq]; omega
  have hE := ownEntries_pure hd h1 h3
  refine Eff.vn [26] Try.func18 (by decide) rfl Try.ntmps18 Try.results18 (by simp) (hcl _) (by simp [doc, ents, PV.ids, PV.idsL]) (by simp [ents, PV.ids, PV.idsL]) ?_
  simp only [go_sem, doc]
  refine vc1 (hE) ?_
  simp only [go_sem, ents]
  refine awp_gh (Gh.nilVecB (b := 3) (j := 1) (d := 26) (sz := 2) (e := 53) rfl rfl (by simp) rfl rfl) ?_
  refine vLoopX (ι := { k : Nat // k ≤ rws.length }) 30 (fun x => [(2, .ptr 2 0), (3, .ptr 3 0), (11, .sl .no (rws.map row)), (12, .int .i64 (rws.length : Int)), (13, .int .i64 (x.1 : Int))]) (fun x => [(2, [.sl .nil [], .sl .nil []], false), (3, [.sl .no (hd.map ent), .vsl 26 x.1 2], false)]) (fun x => [(26, .vec x.1 2 53)]) (fun _ => []) (fun _ => []) (fun x => [(26, (rws.take x.1).map row)]) (fun _ => []) [] [] [26] (fun x => rws.length - x.1) ⟨0, Nat.zero_le _⟩
    (hasX_v2b rfl (forall_cons rfl (forall_cons rfl (forall_cons rfl (forall_cons rfl (forall_cons rfl (forall_nil)))))) rfl rfl rfl rfl rfl rfl) (fun x => wholeX_v2b (by simp [PV.ids, PV.idsL, refInM]) (by simp [PV.ids, PV.idsL, refInM]) (by simp [PV.ids, PV.idsL, refInM]) (idsL_mapV row_ids _)) (fun x => ?_)
  obtain ⟨k, hk⟩ := x
  simp only
  by_cases h : (k : Int) < (rws.length : Int)
  · have hka : k < rws.length := by omega
    have w1 := w64s hka hm
    have i1 : (0 : Int) ≤ (k : Int) := by omega
    have rk := h4 _ (getD_mem' (d := default) hka)
    have hO := ownEntries_pure (rws.getD k default).l rk.1 rk.2
    have hsn : (rws.take (k + 1)).map row = (rws.take k).map row ++ [row (rws.getD k default)] := by rw [take_snoc (d := default) hka, List.map_append]; rfl
    have hln : ((rws.take k).map row).length = k := by simp; omega
    have hrm := room1 (show k + 1 ≤ 1000000 by omega) (show 40 ≤ 1000 by omega)
    simp only [go_sem, h, getD_row' hka, row, i1]
    refine vSplit 9 (by kernel_rfl) (by kernel_rfl) fun l1 hl1 => ?_
    simp only [List.take] at hl1
    subst hl1
    simp only [go_sem]
    refine vc1 (hO) ?_
    simp only [go_sem, ents]
    refine vTail 9 (by kernel_rfl) fun l2 hl2 => ?_
    simp only [List.drop] at hl2
    subst hl2
    simp only [go_sem, ents, w1, hln, hrm]
    refine ⟨fun p hp => by rw [List.mem_singleton.1 hp]; exact ⟨rfl, rfl⟩, fun p hp => by rw [List.mem_singleton.1 hp]; exact row_ids _, fun p hp => ?_, ⟨k + 1, by omega⟩, by show rws.length - (k + 1) < rws.length - k; omega, hasX_v2b rfl (forall_cons rfl (forall_cons rfl (forall_cons rfl (forall_cons rfl (forall_cons rfl (forall_nil)))))) rfl rfl rfl rfl rfl ?_⟩
    · rcases List.mem_append.1 hp with hp | hp
      · rw [hcl _ p hp]; simp
      · rw [List.mem_singleton.1 hp, show (PV.agg [PV.str (rws.getD k default).item, PV.sl Tok.no (List.map ent (rws.getD k default).l)]).ids = [] from row_ids _]; simp
    · simp only; rw [hsn]; rfl
  · obtain rfl : k = rws.length := by omega
    simp only [go_sem, h, List.take_length]
    exact eret_vn (r0 := .agg [ents hd, .vsl 26 rws.length 2]) (hcl _) (by simp only [go_sem, vRet0, ents]) (.keep _ (by intro i hi; simp [ents, PV.ids, PV.idsL] at hi; subst hi; exact ⟨_, List.mem_singleton.2 rfl, rfl⟩)) rfl rfl
end Go.Proofs.Ytmnibpgmcgdfpaa

set_option linter.unusedSimpArgs false
set_option linter.unusedVariables false
set_option linter.unusedSimpArgs false
set_option linter.unusedVariables false
namespace Go.Proofs.Ytmnibpgmcgdfpaa
open Go.PL
set_option maxHeartbeats 4000000 in
theorem RValue23_pure (f : Fd) : PL.Pure Try.prog 103 [fld f] (ent (valueM f)) := by
  by_cases h1 : f.kind = 1
  · have k1 : (f.kind == 1) = true := by rw [h1]; rfl
    refine pov2 Try.func103 rfl Try.ntmps103 Try.results103 (ent_dids _) ?_
    simp only [go_sem, fld, k1, valueM, ent, h1, if_true]
  · have k1 : (f.kind == 1) = false := beq_eq_false_iff_ne.2 h1
    by_cases h4 : f.kind = 4
    · have k4 : (f.kind == 4) = true := by rw [h4]; rfl
      refine pov2 Try.func103 rfl Try.ntmps103 Try.results103 (ent_dids _) ?_
      simp only [go_sem, fld, k1, k4, valueM, ent, h4, if_true]
    · have k4 : (f.kind == 4) = false := beq_eq_false_iff_ne.2 h4
      refine pov2 Try.func103 rfl Try.ntmps103 Try.results103 (ent_dids _) ?_
      simp only [go_sem, fld, k1, k4, valueM, ent, h1, h4, or_self, if_false]
set_option maxRecDepth 20000 in
set_option maxHeartbeats 8000000 in
theorem Rblank_pure (l : List Fd) (hl : l.length ≤ 100000) : PL.Pure Try.prog 70 [flds l] (ents (l.map valueM)) := by
  have hm : l.length ≤ maxLen := by rw [maxLen_eq]; omega
  refine pov2 Try.func70 rfl Try.ntmps70 Try.results70 (ents_dids _) ?_
  simp only [go_sem, flds]
  refine awp_moveRow 3 5 19 0 5 27 [] rfl rfl rfl ?_
  refine vLoopM (ι := { x : Nat // x ≤ (l).length }) 21 (fun x => [(0, flds l), (3, .sl (.row 19) (((l.take x.1).map valueM).map ent)), (4, .int .i64 (x.1 : Int))]) (fun x => []) (fun x => [(19, .live ((l.take x.1).length) (5) (27))]) (fun x => (l).length - x.1) ⟨0, Nat.zero_le _⟩ ⟨rfl, (forall_cons rfl (forall_cons rfl (forall_cons rfl forall_nil))), forall_nil, (forall_cons rfl forall_nil)⟩ (fun x => ⟨(forall_cons rfl (forall_cons (by simp [PV.ids, refInM]) (forall_cons rfl forall_nil))), forall_nil⟩) (fun x => ?_); obtain ⟨k, hk⟩ := x; simp only at hk ⊢
  by_cases h : (k : Int) < (l.length : Int)
  · (have hka : k < (l).length := by omega); (have w1 := w64s hka (hm)); (have i1 : (0 : Int) ≤ (k : Int) := by omega)
    have hV := RValue23_pure (l.getD k default)
    have hml : (((l.take k).map valueM).map ent).length = (l.take k).length := by simp
    have hkl : (l.take k).length ≤ k := List.length_take_le _ _
    have hrm := room1 (show (l.take k).length + 1 ≤ 1000000 by omega) (show 72 ≤ 1000 by omega)
    have htl : (l.take (k + 1)).length = (l.take k).length + 1 := by simp; omega
    have hsz : Sized 5 (((l.take k).map valueM).map ent) := sized_ent _
    have hsn : (l.take (k + 1)).map valueM = (l.take k).map valueM ++ [valueM (l.getD k default)] := by rw [take_snoc (d := default) hka, List.map_append]; rfl
    generalize hx : l.getD k default = x at *
    generalize hv : valueM x = v at *
    simp only [go_sem, flds, h, getD_fld hka, hx, fld, i1]
    refine vc2 (hV) ?_
    simp only [go_sem, ent, sized_ent, sized_ent1, atoms_ent1, hml, hrm, w1]
    exact ⟨⟨k + 1, by omega⟩, by show l.length - (k + 1) < l.length - k; omega, ⟨rfl, by simp only; rw [hsn, List.map_append]; exact (forall_cons rfl (forall_cons rfl (forall_cons rfl (forall_nil)))), forall_nil, by simp only; rw [htl]; exact forall_cons rfl forall_nil⟩⟩
  · have htk : l.take k = l := List.take_of_length_le (by omega)
    simp only [go_sem, flds, h, htk, ents]
end Go.Proofs.Ytmnibpgmcgdfpaa

set_option linter.unusedSimpArgs false
set_option linter.unusedVariables false
set_option linter.unusedSimpArgs false
set_option linter.unusedVariables false
namespace Go.Proofs.Ytmnibpgmcgdfpaa
open Go.PL
theorem docI_dids (d : Dc) (n : Int) : (PV.tup [doc d, .int .i64 n]).dids = [] := by simp only [PV.dids, PV.didsL, doc_dids, List.append_nil]
end Go.Proofs.Ytmnibpgmcgdfpaa

set_option linter.unusedSimpArgs false
set_option linter.unusedVariables false
set_option linter.unusedSimpArgs false
set_option linter.unusedVariables false
namespace Go.PL
theorem Pub.agg2w {K : Ref → Prop} {m : Hp} {a b a' b' : PV} (h1 : Pub K m a a') (h2 : Pub K m b b') : Pub K m (.agg [a, b]) (.agg [a', b']) := .agg [a, b] [a', b'] rfl fun i hi => by
  match i, hi with
  | 0, _ => exact h1
  | 1, _ => exact h2
end Go.PL
namespace Go.Proofs.Ytmnibpgmcgdfpaa
open Go.PL Go.RowKit
/-! doc.Row -/
section
variable {P : Program}
theorem vCall_ins {M : KH} {g : FuncId} {args : List PV} {K : KR} {n i : Nat} {x : PV} {es es' : List PV} (d k d2 : Nat) (h1 : Eff P g [.vsl 1000 n 2, .int .i64 i, .sl (.row 1001) [x]] (insM0 n es) (.vsl 1002 (n + 1) 2) (insM1 (n + 1) es')) (hx : x.ids = []) (hc : ∀ p ∈ es, p.ids = []) (hc' : ∀ p ∈ es', p.ids = []) (n1 : d ≠ k) (n2 : d ≠ d2) (n3 : k ≠ d2)
    (hq : M.m.q d = some (.vec n 2 53)) (hv : M.m.v d = some es) (hk : M.m.q k = some (.live 1 2 53)) (hd2 : M.m.q d2 = none) (he : args = [.vsl d n 2, .int .i64 i, .sl (.row k) [x]])
    (h2 : K.k (.vsl d2 (n + 1) 2) { M.m with q := upd (upd (upd M.m.q k (some .dead)) d (some .dead)) d2 (some (.vec (n + 1) 2 53)), v := upd (upd (upd M.m.v k none) d none) d2 (some es') }) : @vCall P true M (some (g, args)) K := by
  let f : Nat → Nat := fun j => if j = 1000 then d else if j = 1001 then k else d2
  have f0 : f 1000 = d := rfl
  have f1 : f 1001 = k := rfl
  have f2 : f 1002 = d2 := rfl
  refine vCall_effR f id h1 ⟨by simp, fun y hy => ?_, fun y hy => ?_, by simp, fun y hy => ?_, by simp, fun y hy z hz e => ?_⟩ ?_ ?_
  · simp only [List.mem_cons, List.not_mem_nil, or_false] at hy
    rcases hy with rfl | rfl
    · exact hq
    · exact hk
  · simp only [List.mem_singleton] at hy
    subst hy
    simp only [map_ren hc]
    exact hv
  · simp only [List.mem_cons, List.not_mem_nil, or_false] at hy
    rcases hy with rfl | rfl | rfl
    · exact .inr hd2
    · exact .inl ⟨_, List.mem_cons_self .., rfl⟩
    · exact .inl ⟨_, List.mem_cons_of_mem _ (List.mem_singleton.2 rfl), rfl⟩
  · simp only [List.mem_cons, List.not_mem_nil, or_false] at hy hz
    rcases hy with rfl | rfl | rfl <;> rcases hz with rfl | rfl | rfl <;> first | rfl | exact absurd e n1 | exact absurd e n2 | exact absurd e n3 | exact absurd e.symm n1 | exact absurd e.symm n2 | exact absurd e.symm n3
  · rw [he]
    simp only [List.map_cons, List.map_nil, PV.ren, f0, f1]
  · have hl : layM (insM1 (n + 1) es') f id M.m = { M.m with q := upd (upd (upd M.m.q k (some .dead)) d (some .dead)) d2 (some (.vec (n + 1) 2 53)), v := upd (upd (upd M.m.v k none) d none) d2 (some es') } := by
      unfold layM
      have v2 : (insM1 (n + 1) es').hp.v 1002 = some es' := by simp [MemL.hp, upds_cons, upds_nil, upd]
      have v0 : (insM1 (n + 1) es').hp.v 1000 = none := by simp [MemL.hp, upds_cons, upds_nil, upd]
      have v1 : (insM1 (n + 1) es').hp.v 1001 = none := by simp [MemL.hp, upds_cons, upds_nil, upd]
      simp only [List.map_nil, upds_nil, List.map_cons, upds_cons, v2, v0, v1, f0, f1, f2, Option.map_some, Option.map_none, map_ren hc']
    rw [hl]
    exact h2
end
def notLt (it : Str) (r : Rw) : Bool := !bytesLt r.item it
def posR (rs : List Rw) (it : Str) : Int := idx (notLt it) rs
def insAt (rs : List Rw) (it : Str) : Nat := if posR rs it < 0 then rs.length else (posR rs it).toNat
def knownR (rs : List Rw) (it : Str) : Bool := decide (0 ≤ posR rs it) && ((rs.getD (posR rs it).toNat default).item == it)
def insR (rs : List Rw) (r : Rw) : List Rw := rs.take (insAt rs r.item) ++ r :: rs.drop (insAt rs r.item)
def rowQ (l : List Fd) (d : Dc) (it : Str) : Dc × Int :=
  if (rightD l d && nameB it) = false then (default, 5) else
  if knownR d.rows it = true then (default, 7) else
  if (400 : Int) ≤ (d.rows.length : Int) then (default, 14) else (⟨d.head, insR d.rows ⟨it, blanksM l 1⟩⟩, 0)
theorem insAt_le (rs : List Rw) (it : Str) : insAt rs it ≤ rs.length := by
  unfold insAt
  split
  · exact Nat.le_refl _
  · rcases idx_cases (notLt it) rs with h | ⟨i, hi, h⟩
    · unfold posR; rw [h]; simp
    · unfold posR; rw [h]; simp; omega
theorem insR_len (rs : List Rw) (r : Rw) : (insR rs r).length = rs.length + 1 := by
  have := insAt_le rs r.item
  unfold insR
  simp only [List.length_append, List.length_cons, List.length_take, List.length_drop]
  omega
set_option maxHeartbeats 1000000 in
theorem DRow1_pure (r : Rw) (it : Str) : PL.Pure Try.prog 67 [row r, .rptr [.str it]] (.bool (notLt it r)) := by
  refine pov1 Try.func67 rfl Try.ntmps67 Try.results67 ?_
  simp only [go_sem, row, notLt]
set_option maxRecDepth 20000 in
set_option maxHeartbeats 16000000 in
theorem DRow_pure (l : List Fd) (d : Dc) (it : Str) (hl : l.length ≤ 100000) (hl' : ∀ f ∈ l, f.cases'.length ≤ 1000000) (h1 : d.head.length ≤ 100000) (h2 : d.rows.length ≤ 100000) (h3 : ∀ e ∈ d.head, e.l.length ≤ 1000000) (h4 : ∀ r ∈ d.rows, r.l.length ≤ 100000 ∧ ∀ e ∈ r.l, e.l.length ≤ 1000000) :
    PL.Pure Try.prog 29 [flds l, doc d, .str it] (.tup [doc (rowQ l d it).1, .int .i64 (rowQ l d it).2]) := by
  have hf : Fine d := ⟨by rw [maxLen_eq]; omega, by rw [maxLen_eq]; omega, fun e he => by have := h3 e he; rw [maxLen_eq]; omega, fun r hr => ⟨by have := (h4 r hr).1; rw [maxLen_eq]; omega, fun e he => by have := (h4 r hr).2 e he; rw [maxLen_eq]; omega⟩⟩
  have hR := DRight_pure l d (by rw [maxLen_eq]; omega) hl' hf
  have hN := Name_pure it
  have hX := IndexRow_pure d.rows 67 [.str it] (notLt it) (by rw [maxLen_eq]; omega) (fun r _ => DRow1_pure r it)
  have hO := OwnR_eff d h1 h2 h3 h4
  have hB := blanks_pure l 1 (by omega)
  have hcl : ∀ l : List Rw, ∀ p ∈ l.map row, p.ids = [] := fun l => ids_mapV row_ids l
  have hrc : ∀ r : Rw, (row r).cells.length = 2 ∧ (row r).cells.all PV.atom = true := fun r => ⟨rfl, rfl⟩
  have hI := Insert_eff (d.rows.map row) (row ⟨it, blanksM l 1⟩) d.rows.length (insAt d.rows it) (List.length_map _) (insAt_le _ _) (by omega) (hcl _) (row_ids _) (fun p hp => by obtain ⟨r, _, rfl⟩ := List.mem_map.1 hp; exact hrc r) (hrc _)
  have hmap : (d.rows.map row).take (insAt d.rows it) ++ row ⟨it, blanksM l 1⟩ :: (d.rows.map row).drop (insAt d.rows it) = (insR d.rows ⟨it, blanksM l 1⟩).map row := by
    unfold insR
    rw [List.map_append, List.map_cons, List.map_take, List.map_drop]
  rw [hmap] at hI
  have hrm := room1 (show 1 ≤ 1000000 by omega) (show 40 ≤ 1000 by omega)
  have hrn : PV.ren (fun _ => 2000) id (.agg [.sl .no (d.head.map ent), .vsl 26 d.rows.length 2]) = .agg [.sl .no (d.head.map ent), .vsl 2000 d.rows.length 2] := by simp [PV.ren, PV.renL]
  have hdef : doc default = .agg [.sl .no [], .sl .no []] := rfl
  cases hr : rightD l d
  · rw [hr] at hR
    have hq : rowQ l d it = (default, 5) := by simp [rowQ, hr]
    rw [hq]
    refine pov2 Try.func29 rfl Try.ntmps29 Try.results29 (docI_dids _ _) ?_
    simp only [go_sem, flds, doc]
    refine vc2 (hR) ?_
    simp only [go_sem]
    rfl
  · rw [hr] at hR
    cases hn : nameB it
    · rw [hn] at hN
      have hq : rowQ l d it = (default, 5) := by simp [rowQ, hn]
      rw [hq]
      refine pov2 Try.func29 rfl Try.ntmps29 Try.results29 (docI_dids _ _) ?_
      simp only [go_sem, flds, doc]
      refine vc2 (hR) ?_
      simp only [go_sem]
      refine vc1 (hN) ?_
      simp only [go_sem]
      rfl
    · rw [hn] at hN
      have hpc := idx_cases (notLt it) d.rows
      have hkn : knownR d.rows it = (decide (0 ≤ posR d.rows it) && ((d.rows.getD (posR d.rows it).toNat default).item == it)) := rfl
      have hia : insAt d.rows it = if posR d.rows it < 0 then d.rows.length else (posR d.rows it).toNat := rfl
      have hpe : idx (notLt it) d.rows = posR d.rows it := rfl
      rw [hpe] at hX hpc
      cases hk : knownR d.rows it
      · by_cases h400 : (400 : Int) ≤ (d.rows.length : Int)
        · have hq : rowQ l d it = (default, 14) := by
            unfold rowQ
            rw [if_neg (by rw [hr, hn]; simp), if_neg (by rw [hk]; simp), if_pos h400]
          rw [hq]
          rcases hpc with hp | ⟨k, hka, hp⟩
          · rw [hp] at hX
            refine pov2 Try.func29 rfl Try.ntmps29 Try.results29 (docI_dids _ _) ?_
            simp only [go_sem, flds, doc]
            refine vc2 (hR) ?_
            simp only [go_sem]
            refine vc1 (hN) ?_
            simp only [go_sem, flds, doc]
            refine vc2 (hX) ?_
            simp only [go_sem]
            refine vDq ?_
            simp only [go_sem, h400]
            rfl
          · rw [hk, hp] at hkn
            rw [hp] at hX
            have i0 : (0 : Int) ≤ (k : Int) := by omega
            have iz : (k : Int) < (d.rows.length : Int) := by omega
            have hit : ((d.rows.getD k default).item == it) = false := by simpa using hkn.symm
            refine pov2 Try.func29 rfl Try.ntmps29 Try.results29 (docI_dids _ _) ?_
            simp only [go_sem, flds, doc]
            refine vc2 (hR) ?_
            simp only [go_sem]
            refine vc1 (hN) ?_
            simp only [go_sem, flds, doc]
            refine vc2 (hX) ?_
            simp only [go_sem, i0]
            refine vDq ?_
            simp only [go_sem, i0, iz, getD_row' hka, row, hit, h400]
            rfl
        · have hq : rowQ l d it = (⟨d.head, insR d.rows ⟨it, blanksM l 1⟩⟩, 0) := by
            unfold rowQ
            rw [if_neg (by rw [hr, hn]; simp), if_neg (by rw [hk]; simp), if_neg h400]
          rw [hq]
          rcases hpc with hp | ⟨k, hka, hp⟩
          · rw [hp] at hX hia
            rw [if_pos (by decide)] at hia
            rw [hia] at hI
            refine PL.Pure.of_p [] Try.func29 (by decide) rfl Try.ntmps29 Try.results29 (by simp) (docI_dids _ _) ?_
            simp only [go_sem, flds, doc]
            refine vc2 (hR) ?_
            simp only [go_sem]
            refine vc1 (hN) ?_
            simp only [go_sem, flds, doc]
            refine vc2 (hX) ?_
            simp only [go_sem]
            refine vDq ?_
            simp only [go_sem, h400]
            refine vCall_vn 2000 hO (hcl _) (by simp [doc, ents, PV.ids, PV.idsL]) rfl (by simp only [go_sem, doc]) ?_
            simp only [go_sem, ents, hrn]
            refine vSplit 8 (by kernel_rfl) (by kernel_rfl) fun l1 hl1 => ?_
            simp only [List.take] at hl1
            subst hl1
            simp only [go_sem]
            refine vc2 (hB) ?_
            simp only [go_sem, ents, hrm]
            refine vTail 8 (by kernel_rfl) fun l2 hl2 => ?_
            simp only [List.drop] at hl2
            subst hl2
            simp only [go_sem, ents]
            refine vCall_ins 2000 56 2001 hI (row_ids _) (hcl _) (hcl _) (by decide) (by decide) (by decide) rfl rfl rfl rfl rfl ?_
            simp only [go_sem]
            exact ⟨_, rfl, Pub.tup2 (Pub.agg2w (.clean rfl) (Pub.vec0 (by simp) rfl (by rw [List.length_map]; exact insR_len _ _) (hcl _))) (.clean rfl)⟩
          · rw [hk, hp] at hkn
            rw [hp] at hX hia
            rw [if_neg (by omega), Int.toNat_natCast] at hia
            rw [hia] at hI
            have i0 : (0 : Int) ≤ (k : Int) := by omega
            have ik : ¬ (k : Int) < 0 := by omega
            have iz : (k : Int) < (d.rows.length : Int) := by omega
            have hit : ((d.rows.getD k default).item == it) = false := by simpa using hkn.symm
            refine PL.Pure.of_p [] Try.func29 (by decide) rfl Try.ntmps29 Try.results29 (by simp) (docI_dids _ _) ?_
            simp only [go_sem, flds, doc]
            refine vc2 (hR) ?_
            simp only [go_sem]
            refine vc1 (hN) ?_
            simp only [go_sem, flds, doc]
            refine vc2 (hX) ?_
            simp only [go_sem, i0]
            refine vDq ?_
            simp only [go_sem, i0, iz, getD_row' hka, row, hit, h400, ik]
            refine vCall_vn 2000 hO (hcl _) (by simp [doc, ents, PV.ids, PV.idsL]) rfl (by simp only [go_sem, doc]) ?_
            simp only [go_sem, ents, hrn]
            refine vSplit 8 (by kernel_rfl) (by kernel_rfl) fun l1 hl1 => ?_
            simp only [List.take] at hl1
            subst hl1
            simp only [go_sem]
            refine vc2 (hB) ?_
            simp only [go_sem, ents, hrm]
            refine vTail 8 (by kernel_rfl) fun l2 hl2 => ?_
            simp only [List.drop] at hl2
            subst hl2
            simp only [go_sem, ents]
            refine vCall_ins 2000 56 2001 hI (row_ids _) (hcl _) (hcl _) (by decide) (by decide) (by decide) rfl rfl rfl rfl rfl ?_
            simp only [go_sem]
            exact ⟨_, rfl, Pub.tup2 (Pub.agg2w (.clean rfl) (Pub.vec0 (by simp) rfl (by rw [List.length_map]; exact insR_len _ _) (hcl _))) (.clean rfl)⟩
      · have hq : rowQ l d it = (default, 7) := by simp [rowQ, hr, hn, hk]
        rw [hq]
        rw [hk] at hkn
        rcases hpc with hp | ⟨k, hka, hp⟩
        · rw [hp] at hkn; simp at hkn
        · rw [hp] at hkn hX
          have hit : ((d.rows.getD k default).item == it) = true := by simpa using hkn.symm
          have i0 : (0 : Int) ≤ (k : Int) := by omega
          refine pov2 Try.func29 rfl Try.ntmps29 Try.results29 (docI_dids _ _) ?_
          simp only [go_sem, flds, doc]
          refine vc2 (hR) ?_
          simp only [go_sem]
          refine vc1 (hN) ?_
          simp only [go_sem, flds, doc]
          refine vc2 (hX) ?_
          simp only [go_sem, i0]
          refine vDq ?_
          have iz : (k : Int) < (d.rows.length : Int) := by omega
          simp only [go_sem, i0, iz, getD_row' hka, row, hit]
          rfl
end Go.Proofs.Ytmnibpgmcgdfpaa

set_option linter.unusedSimpArgs false
set_option linter.unusedVariables false
set_option linter.unusedSimpArgs false
set_option linter.unusedVariables false
namespace Go.Proofs.Ytmnibpgmcgdfpaa
open Go.PL Go.RowKit
/-! the reference's Row -/
theorem idx_spec {α : Type} [Inhabited α] (p : α → Bool) (l : List α) : (idx p l = -1 ∧ ∀ i, i < l.length → p (l.getD i default) = false) ∨ ∃ k : Nat, k < l.length ∧ idx p l = (k : Int) ∧ p (l.getD k default) = true ∧ ∀ i, i < k → p (l.getD i default) = false := by
  unfold idx
  cases h : l.findIdx? p with
  | none =>
    refine .inl ⟨rfl, fun i hi => ?_⟩
    have := List.findIdx?_eq_none_iff.1 h _ (getD_mem' (d := default) hi)
    simpa using this
  | some k =>
    obtain ⟨h1, h2, h3⟩ := List.findIdx?_eq_some_iff_getElem.1 h
    refine .inr ⟨k, h1, rfl, by rw [getD_lt h1]; exact h2, fun i hi => ?_⟩
    have := h3 i hi
    rw [getD_lt (by omega)]
    simpa using this
theorem known_idx {rs : List Rw} (hr : RiseR rs) (it : Str) : (knownR rs it = true ∧ ∃ k : Nat, k < rs.length ∧ idx (fun r : Rw => r.item == it) rs = (k : Int)) ∨ (knownR rs it = false ∧ idx (fun r : Rw => r.item == it) rs = -1) := by
  rcases idx_spec (fun r : Rw => r.item == it) rs with ⟨h1, h2⟩ | ⟨k, hk, h1, h2, h3⟩
  · refine .inr ⟨?_, h1⟩
    unfold knownR posR
    rcases idx_spec (notLt it) rs with ⟨g1, _⟩ | ⟨j, hj, g1, _, _⟩
    · rw [g1]; rfl
    · rw [g1]
      have := h2 j hj
      simp only [Int.toNat_natCast, this, Bool.and_false]
  · refine .inl ⟨?_, k, hk, h1⟩
    have e : (rs.getD k default).item = it := by simpa using h2
    unfold knownR posR
    rcases idx_spec (notLt it) rs with ⟨g1, g2⟩ | ⟨j, hj, g1, g2, g3⟩
    · have := g2 k hk
      simp only [notLt, e, bl_irrefl] at this
      cases this
    · have hjk : j = k := by
        rcases Nat.lt_trichotomy j k with h | h | h
        · exfalso
          have h5 := List.pairwise_iff_getElem.1 hr j k hj hk h
          rw [← getD_lt (d := default), ← getD_lt (d := default), e] at h5
          simp only [notLt, h5] at g2
          cases g2
        · exact h
        · exfalso
          have h5 := g3 k h
          simp only [notLt, e, bl_irrefl] at h5
          cases h5
      rw [g1, hjk]
      simp only [Int.toNat_natCast, e, beq_self_eq_true, Bool.and_true]
      simp
theorem blanks_scope (l : List Fd) : blanksM l 1 = (scopeM l 1).map valueM := rfl
/-- how far the reference has come -/
def outR (rs : List Rw) (r : Rw) (k : Nat) : List Rw := (insR rs r).take (if k ≤ insAt rs r.item then k else k + 1)
theorem outR_lo {rs : List Rw} {r : Rw} {k : Nat} (h : k < insAt rs r.item) : outR rs r (k + 1) = outR rs r k ++ [rs.getD k default] := by
  have hj := insAt_le rs r.item
  have hg : (insR rs r).getD k default = rs.getD k default := by unfold insR; rw [ins_getD hj, if_pos h]
  unfold outR
  rw [if_pos (by omega), if_pos (by omega), take_snoc (d := default) (by rw [insR_len]; omega), hg]
theorem outR_hi {rs : List Rw} {r : Rw} {k : Nat} (h : insAt rs r.item < k) (hk : k < rs.length) : outR rs r (k + 1) = outR rs r k ++ [rs.getD k default] := by
  have hj := insAt_le rs r.item
  have hg : (insR rs r).getD (k + 1) default = rs.getD k default := by unfold insR; rw [ins_getD hj, if_neg (by omega), if_neg (by omega)]; rfl
  unfold outR
  rw [if_neg (by omega), if_neg (by omega), take_snoc (d := default) (by rw [insR_len]; omega), hg]
theorem outR_at {rs : List Rw} {r : Rw} {k : Nat} (h : k = insAt rs r.item) (hk : k < rs.length) : outR rs r (k + 1) = outR rs r k ++ [r] ++ [rs.getD k default] := by
  have hj := insAt_le rs r.item
  have hg : (insR rs r).getD k default = r := by unfold insR; rw [ins_getD hj, if_neg (by omega), if_pos h]
  have hg2 : (insR rs r).getD (k + 1) default = rs.getD k default := by unfold insR; rw [ins_getD hj, if_neg (by omega), if_neg (by omega)]; rfl
  unfold outR
  rw [if_neg (by omega), if_pos (by omega), take_snoc (d := default) (by rw [insR_len]; omega), take_snoc (d := default) (by rw [insR_len]; omega), hg, hg2]
theorem outR_len {rs : List Rw} {r : Rw} {k : Nat} (hk : k ≤ rs.length) : (outR rs r k).length ≤ k + 1 := by
  unfold outR
  rw [List.length_take]
  split <;> omega
theorem outR_end {rs : List Rw} {r : Rw} : (insAt rs r.item = rs.length ∧ outR rs r rs.length ++ [r] = insR rs r) ∨ (insAt rs r.item < rs.length ∧ outR rs r rs.length = insR rs r) := by
  have hj := insAt_le rs r.item
  have hl := insR_len rs r
  by_cases h : insAt rs r.item = rs.length
  · refine .inl ⟨h, ?_⟩
    have hg : (insR rs r).getD rs.length default = r := by unfold insR; rw [ins_getD hj, if_neg (by omega), if_pos h.symm]
    unfold outR
    rw [if_pos (by omega)]
    have := take_snoc (d := default) (l := insR rs r) (k := rs.length) (by omega)
    rw [hg] at this
    rw [← this]
    exact List.take_of_length_le (by omega)
  · refine .inr ⟨by omega, ?_⟩
    unfold outR
    rw [if_neg (by omega)]
    exact List.take_of_length_le (by omega)
theorem ahead_lt {rs : List Rw} {it : Str} {k : Nat} (h : k < insAt rs it) : bytesLt (rs.getD k default).item it = true := by
  have hj := insAt_le rs it
  unfold insAt posR at h hj
  rcases idx_spec (notLt it) rs with ⟨g1, g2⟩ | ⟨j, hj', g1, g2, g3⟩
  · have := g2 k (by rw [g1] at h; simpa using h)
    simpa [notLt] using this
  · rw [g1, if_neg (by omega), Int.toNat_natCast] at h
    have := g3 k h
    simpa [notLt] using this
theorem at_ge {rs : List Rw} {it : Str} (h : insAt rs it < rs.length) : bytesLt (rs.getD (insAt rs it) default).item it = false := by
  unfold insAt posR at h ⊢
  rcases idx_spec (notLt it) rs with ⟨g1, g2⟩ | ⟨j, hj', g1, g2, g3⟩
  · rw [g1] at h; simp at h
  · rw [g1, if_neg (by omega), Int.toNat_natCast]
    simpa [notLt] using g2
theorem at_ne {rs : List Rw} {it : Str} {k : Nat} (h : knownR rs it = false) (hk : k < rs.length) (hj : k = insAt rs it) : (rs.getD k default).item ≠ it := fun e => by
  unfold insAt at hj
  unfold knownR posR at *
  rcases idx_spec (notLt it) rs with ⟨g1, g2⟩ | ⟨j, hj', g1, g2, g3⟩
  · rw [g1] at hj; simp at hj; omega
  · rw [g1, if_neg (by omega), Int.toNat_natCast] at hj
    rw [g1, Int.toNat_natCast] at h
    rw [hj] at e
    rw [e] at h
    simp at h
theorem bl_asymm {a b : Str} (h : bytesLt a b = true) : bytesLt b a = false := by
  cases hb : bytesLt b a
  · rfl
  · have := bl_trans h hb; rw [bl_irrefl] at this; cases this
/-- the row's name at a round's head -/
def nmR (j k : Nat) : Nat := if k = j then 3000 else 66
def rrL (l : List Fd) (d : Dc) (it : Str) (nw : Rw) (k : Nat) : List (Nat × PV) := [(0, flds l), (2, .str it), (4, .ptr 4 0), (6, .ptr 6 0), (8, .sl (.row (nmR (insAt d.rows it) k)) ((outR d.rows nw k).map row)), (9, .bool (decide (insAt d.rows it < k))), (10, .int .i64 (k : Int))]
def rrH (d : Dc) : List (Nat × List PV × Bool) := [(4, [.sl .no (d.head.map ent), .sl .no (d.rows.map row)], false), (6, [.sl .nil [], .sl .nil []], false)]
def rrR (d : Dc) (it : Str) (nw : Rw) (k : Nat) : List (Nat × Row) := [(nmR (insAt d.rows it) k, .live (outR d.rows nw k).length 2 53)]
theorem rr_told (l : List Fd) (d : Dc) (it : Str) (nw : Rw) (k : Nat) : toldB (rrL l d it nw k) (rrH d) (rrR d it nw k) := ⟨forall_cons rfl (forall_cons rfl (forall_cons rfl (forall_cons rfl (forall_cons (by simp [PV.ids, refInM, rrR]) (forall_cons rfl (forall_cons rfl forall_nil)))))), forall_cons rfl (forall_cons rfl forall_nil)⟩
set_option maxRecDepth 20000 in
set_option maxHeartbeats 16000000 in
theorem RRow_pure (l : List Fd) (d : Dc) (it : Str) (hl : l.length ≤ 100000) (hl' : ∀ f ∈ l, f.cases'.length ≤ 1000000) (h1 : d.head.length ≤ 100000) (h2 : d.rows.length ≤ 100000) (hf : Fine d) :
    PL.Pure Try.prog 30 [flds l, doc d, .str it] (.tup [doc (rowQ l d it).1, .int .i64 (rowQ l d it).2]) := by
  have hR := RRightD_pure l d (by rw [maxLen_eq]; omega) (fun f hf => by have := hl' f hf; rw [maxLen_eq]; omega) hf
  have hN := RName_pure it
  have hA := RowAt_pure d it (by rw [maxLen_eq]; omega)
  have hS := RScope_pure l 1 (by omega)
  have hB := Rblank_pure (scopeM l 1) (Nat.le_trans (List.length_filter_le _ _) hl)
  rw [← blanks_scope] at hB
  have hdef : doc default = .agg [.sl .no [], .sl .no []] := rfl
  cases hr : rightD l d
  · rw [hr] at hR
    have hq : rowQ l d it = (default, 5) := by simp [rowQ, hr]
    rw [hq]
    refine pov2 Try.func30 rfl Try.ntmps30 Try.results30 (docI_dids _ _) ?_
    simp only [go_sem, flds, doc]
    refine vc2 (hR) ?_
    simp only [go_sem]
    rfl
  · rw [hr] at hR
    cases hn : nameB it
    · rw [hn] at hN
      have hq : rowQ l d it = (default, 5) := by simp [rowQ, hn]
      rw [hq]
      refine pov2 Try.func30 rfl Try.ntmps30 Try.results30 (docI_dids _ _) ?_
      simp only [go_sem, flds, doc]
      refine vc2 (hR) ?_
      simp only [go_sem]
      refine vc1 (hN) ?_
      simp only [go_sem]
      rfl
    · rw [hn] at hN
      have hrise := rise_of_right hr
      rcases known_idx hrise it with ⟨hkn, k, hka, hp⟩ | ⟨hkn, hp⟩
      · have hq : rowQ l d it = (default, 7) := by simp [rowQ, hr, hn, hkn]
        rw [hq]
        rw [hp] at hA
        have i0 : (0 : Int) ≤ (k : Int) := by omega
        refine pov2 Try.func30 rfl Try.ntmps30 Try.results30 (docI_dids _ _) ?_
        simp only [go_sem, flds, doc]
        refine vc2 (hR) ?_
        simp only [go_sem]
        refine vc1 (hN) ?_
        simp only [go_sem, flds, doc]
        refine vc1 (hA) ?_
        simp only [go_sem, i0]
        rfl
      · rw [hp] at hA
        by_cases h400 : (400 : Int) ≤ (d.rows.length : Int)
        · have hq : rowQ l d it = (default, 14) := by
            unfold rowQ
            rw [if_neg (by rw [hr, hn]; simp), if_neg (by rw [hkn]; simp), if_pos h400]
          have h399 : (399 : Int) < (d.rows.length : Int) := by omega
          rw [hq]
          refine pov2 Try.func30 rfl Try.ntmps30 Try.results30 (docI_dids _ _) ?_
          simp only [go_sem, flds, doc]
          refine vc2 (hR) ?_
          simp only [go_sem]
          refine vc1 (hN) ?_
          simp only [go_sem, flds, doc]
          refine vc1 (hA) ?_
          simp only [go_sem, h399]
          rfl
        · have hq : rowQ l d it = (⟨d.head, insR d.rows ⟨it, blanksM l 1⟩⟩, 0) := by
            unfold rowQ
            rw [if_neg (by rw [hr, hn]; simp), if_neg (by rw [hkn]; simp), if_neg h400]
          have h399 : ¬ (399 : Int) < (d.rows.length : Int) := by omega
          rw [hq]
          generalize hnw : (⟨it, blanksM l 1⟩ : Rw) = nw
          have hni : nw.item = it := by rw [← hnw]
          refine pov2 Try.func30 rfl Try.ntmps30 Try.results30 (docI_dids _ _) ?_
          simp only [go_sem, flds, doc]
          refine vc2 (hR) ?_
          simp only [go_sem]
          refine vc1 (hN) ?_
          simp only [go_sem, flds, doc]
          refine vc1 (hA) ?_
          simp only [go_sem, h399]
          have hlm : d.rows.length ≤ maxLen := by rw [maxLen_eq]; omega
          have hjl := insAt_le d.rows it
          have h00 : outR d.rows nw 0 = [] := by unfold outR; rw [if_pos (Nat.zero_le _)]; rfl
          refine vLoopG (ι := { k : Nat // k ≤ d.rows.length }) (fun x => mkSt 81 (rrL l d it nw x.1) (rrH d) (rrR d it nw x.1)) (fun x => d.rows.length - x.1) ⟨0, Nat.zero_le _⟩ ?_ (fun x => ?_)
          · refine (Gh.moveRowS 8 31 (nmR (insAt d.rows it) 0) 0 2 53 [] rfl rfl (by unfold nmR; split <;> rfl)).trans (Gh.weak (Has.weak ?_) (Refs.mkSt (rr_told _ _ _ _ _)))
            simp only [rrL, rrH, rrR, h00]
            by_cases h0 : 0 = insAt d.rows it
            · simp only [nmR, if_pos h0, decide_eq_false (show ¬ insAt d.rows it < 0 by omega)]
              exact ⟨rfl, (forall_cons rfl (forall_cons rfl (forall_cons rfl (forall_cons rfl (forall_cons rfl (forall_cons rfl (forall_cons rfl (forall_nil)))))))), forall_cons ⟨rfl, rfl⟩ (forall_cons ⟨rfl, rfl⟩ forall_nil), forall_cons rfl forall_nil⟩
            · simp only [nmR, if_neg h0, decide_eq_false (show ¬ insAt d.rows it < 0 by omega)]
              exact ⟨rfl, (forall_cons rfl (forall_cons rfl (forall_cons rfl (forall_cons rfl (forall_cons rfl (forall_cons rfl (forall_cons rfl (forall_nil)))))))), forall_cons ⟨rfl, rfl⟩ (forall_cons ⟨rfl, rfl⟩ forall_nil), forall_cons rfl forall_nil⟩
          obtain ⟨k, hk⟩ := x
          simp only
          by_cases h : (k : Int) < (d.rows.length : Int)
          · have hka : k < d.rows.length := by omega
            have i1 : (0 : Int) ≤ (k : Int) := by omega
            have w1 := w64s hka hlm
            have hol := outR_len (rs := d.rows) (r := nw) (k := k) (by omega)
            have hsz := sized_row (outR d.rows nw k)
            have hat : Atoms [.agg [.str (d.rows.getD k default).item, .sl .no ((d.rows.getD k default).l.map ent)]] := atoms_row [d.rows.getD k default]
            have hs1 : Sized 2 [.agg [.str (d.rows.getD k default).item, .sl .no ((d.rows.getD k default).l.map ent)]] := sized_row [d.rows.getD k default]
            have hml : ((outR d.rows nw k).map row).length = (outR d.rows nw k).length := List.length_map _
            have hrm := room1 (show (outR d.rows nw k).length + 1 ≤ 1000000 by omega) (show 40 ≤ 1000 by omega)
            have hgo : ∀ (s' : St), Gh s' (mkSt 81 (rrL l d it nw (k + 1)) (rrH d) (rrR d it nw (k + 1))) → ∃ j : { k : Nat // k ≤ d.rows.length }, d.rows.length - j.1 < d.rows.length - k ∧ Gh s' (mkSt 81 (rrL l d it nw j.1) (rrH d) (rrR d it nw j.1)) := fun s' hg => ⟨⟨k + 1, by omega⟩, by show d.rows.length - (k + 1) < d.rows.length - k; omega, hg⟩
            rcases Nat.lt_trichotomy k (insAt d.rows it) with hj | hj | hj
            · have hsn := outR_lo (rs := d.rows) (r := nw) (k := k) (by rw [hni]; exact hj)
              have c1 := bl_asymm (ahead_lt hj)
              have c2 : decide (insAt d.rows it < k) = false := decide_eq_false (by omega)
              have c3 : decide (insAt d.rows it < k + 1) = false := decide_eq_false (by omega)
              have hn0 : nmR (insAt d.rows it) k = 66 := if_neg (by omega)
              simp only [go_sem, rrL, rrH, rrR, hn0, h, getD_row' hka, row, c1, c2, i1, hml, hsz, hat, hs1, hrm, w1]
              refine hgo _ ?_
              by_cases hj1 : k + 1 = insAt d.rows it
              · have hn1 : nmR (insAt d.rows it) (k + 1) = 3000 := if_pos hj1
                refine (Gh.moveRowS 8 66 3000 ((outR d.rows nw k).length + 1) 2 53 ((outR d.rows nw k).map row ++ [row (d.rows.getD k default)]) rfl rfl rfl).trans (Gh.weak (Has.weak ?_) (Refs.mkSt (rr_told _ _ _ _ _)))
                simp only [rrL, rrH, rrR, hsn, List.map_append, List.length_append, c3, hn1]
                exact ⟨rfl, (forall_cons rfl (forall_cons rfl (forall_cons rfl (forall_cons rfl (forall_cons rfl (forall_cons rfl (forall_cons rfl (forall_nil)))))))), forall_cons ⟨rfl, rfl⟩ (forall_cons ⟨rfl, rfl⟩ forall_nil), forall_cons rfl forall_nil⟩
              · have hn1 : nmR (insAt d.rows it) (k + 1) = 66 := if_neg hj1
                refine Gh.weak (Has.weak ?_) (Refs.mkSt (rr_told _ _ _ _ _))
                simp only [rrL, rrH, rrR, hsn, List.map_append, List.length_append, c3, hn1]
                exact ⟨rfl, (forall_cons rfl (forall_cons rfl (forall_cons rfl (forall_cons rfl (forall_cons rfl (forall_cons rfl (forall_cons rfl (forall_nil)))))))), forall_cons ⟨rfl, rfl⟩ (forall_cons ⟨rfl, rfl⟩ forall_nil), forall_cons rfl forall_nil⟩
            · have hsn := outR_at (rs := d.rows) (r := nw) (k := k) (by rw [hni]; exact hj) hka
              have c1 : bytesLt it (d.rows.getD k default).item = true := by
                have g := at_ge (rs := d.rows) (it := it) (by omega)
                rw [← hj] at g
                rcases bl_total it (d.rows.getD k default).item with h | h | h
                · exact h
                · exact absurd h.symm (at_ne hkn hka hj)
                · rw [g] at h; cases h
              have c2 : decide (insAt d.rows it < k) = false := decide_eq_false (by omega)
              have c3 : decide (insAt d.rows it < k + 1) = true := decide_eq_true (by omega)
              have hrm2 := room1 (show (outR d.rows nw k).length + 1 + 1 ≤ 1000000 by omega) (show 40 ≤ 1000 by omega)
              have hatn : Atoms [.agg [.str it, .sl .no ((blanksM l 1).map ent)]] := atoms_row [⟨it, blanksM l 1⟩]
              have hsn1 : Sized 2 [.agg [.str it, .sl .no ((blanksM l 1).map ent)]] := sized_row [⟨it, blanksM l 1⟩]
              have hsz2 : Sized 2 ((outR d.rows nw k).map row ++ [.agg [.str it, .sl .no ((blanksM l 1).map ent)]]) := hsz.append hsn1
              have hl2 : ((outR d.rows nw k).map row ++ [PV.agg [.str it, .sl .no ((blanksM l 1).map ent)]]).length = (outR d.rows nw k).length + 1 := by rw [List.length_append, hml]; rfl
              have hn0 : nmR (insAt d.rows it) k = 3000 := if_pos hj
              have hn1 : nmR (insAt d.rows it) (k + 1) = 66 := if_neg (by omega)
              simp only [go_sem, rrL, rrH, rrR, hn0, h, getD_row' hka, row, c1, c2, i1, flds]
              refine vc2 (hS) ?_
              simp only [go_sem]
              refine vc2 (hB) ?_
              simp only [go_sem, ents, h, getD_row' hka, row, i1, hml, hl2, hsz, hsz2, hat, hs1, hatn, hsn1, hrm, hrm2, w1]
              refine hgo _ (Gh.weak (Has.weak ?_) (Refs.mkSt (rr_told _ _ _ _ _)))
              subst hnw
              simp only [rrL, rrH, rrR, hsn, List.map_append, List.length_append, c3, hn1]
              exact ⟨rfl, (forall_cons rfl (forall_cons rfl (forall_cons rfl (forall_cons rfl (forall_cons rfl (forall_cons rfl (forall_cons rfl (forall_nil)))))))), forall_cons ⟨rfl, rfl⟩ (forall_cons ⟨rfl, rfl⟩ forall_nil), forall_cons rfl forall_nil⟩
            · have hsn := outR_hi (rs := d.rows) (r := nw) (k := k) (by rw [hni]; exact hj) hka
              have c2 : decide (insAt d.rows it < k) = true := decide_eq_true (by omega)
              have c3 : decide (insAt d.rows it < k + 1) = true := decide_eq_true (by omega)
              have hn0 : nmR (insAt d.rows it) k = 66 := if_neg (by omega)
              have hn1 : nmR (insAt d.rows it) (k + 1) = 66 := if_neg (by omega)
              simp only [go_sem, rrL, rrH, rrR, hn0, h, getD_row' hka, row, c2, i1, hml, hsz, hat, hs1, hrm, w1]
              refine hgo _ (Gh.weak (Has.weak ?_) (Refs.mkSt (rr_told _ _ _ _ _)))
              simp only [rrL, rrH, rrR, hsn, List.map_append, List.length_append, c3, hn1]
              exact ⟨rfl, (forall_cons rfl (forall_cons rfl (forall_cons rfl (forall_cons rfl (forall_cons rfl (forall_cons rfl (forall_cons rfl (forall_nil)))))))), forall_cons ⟨rfl, rfl⟩ (forall_cons ⟨rfl, rfl⟩ forall_nil), forall_cons rfl forall_nil⟩
          · obtain rfl : k = d.rows.length := by omega
            have hol := outR_len (rs := d.rows) (r := nw) (k := d.rows.length) (Nat.le_refl _)
            have hsz := sized_row (outR d.rows nw d.rows.length)
            have hml : ((outR d.rows nw d.rows.length).map row).length = (outR d.rows nw d.rows.length).length := List.length_map _
            have hrm := room1 (show (outR d.rows nw d.rows.length).length + 1 ≤ 1000000 by omega) (show 40 ≤ 1000 by omega)
            have hatn : Atoms [.agg [.str it, .sl .no ((blanksM l 1).map ent)]] := atoms_row [⟨it, blanksM l 1⟩]
            have hsn1 : Sized 2 [.agg [.str it, .sl .no ((blanksM l 1).map ent)]] := sized_row [⟨it, blanksM l 1⟩]
            rcases outR_end (rs := d.rows) (r := nw) with ⟨e1, e2⟩ | ⟨e1, e2⟩
            · rw [hni] at e1
              have c2 : decide (insAt d.rows it < d.rows.length) = false := decide_eq_false (by omega)
              have hn0 : nmR (insAt d.rows it) d.rows.length = 3000 := if_pos e1.symm
              simp only [go_sem, rrL, rrH, rrR, hn0, h, c2, flds]
              refine vc2 (hS) ?_
              simp only [go_sem]
              refine vc2 (hB) ?_
              simp only [go_sem, ents, hml, hsz, hatn, hsn1, hrm]
              rw [← e2]
              simp only [doc, List.map_append, ← hnw]
              rfl
            · rw [hni] at e1
              have c2 : decide (insAt d.rows it < d.rows.length) = true := decide_eq_true (by omega)
              have hn0 : nmR (insAt d.rows it) d.rows.length = 66 := if_neg (by omega)
              simp only [go_sem, rrL, rrH, rrR, hn0, h, c2]
              rw [← e2]
              rfl
end Go.Proofs.Ytmnibpgmcgdfpaa

set_option linter.unusedSimpArgs false
set_option linter.unusedVariables false
set_option linter.unusedSimpArgs false
set_option linter.unusedVariables false
namespace Go.Proofs.Ytmnibpgmcgdfpaa
open Go.PL Go.RowKit
/-! the reference's Set -/
theorem rD_rows {l : List Fd} {d : Dc} (h : rightD l d = true) : ∀ r ∈ d.rows, entriesB (scopeM l 1) r.l = true := by
  intro r hr
  simp only [rightD, Bool.and_eq_true, List.all_eq_true, List.mem_range] at h
  obtain ⟨i, hi, rfl⟩ := List.getElem_of_mem hr
  have h1 := h.2 i hi
  rw [rowOk, getD_lt hi, Bool.and_eq_true] at h1
  exact h1.2
theorem rD_head {l : List Fd} {d : Dc} (h : rightD l d = true) : entriesB (scopeM l 0) d.head = true := by
  simp only [rightD, headOk, Bool.and_eq_true] at h
  exact h.1.2.2
theorem getD_fld' {l : List Fd} {i : Nat} (h : i < l.length) : (l.map fld).getD i .any = fld (l.getD i default) := getD_map h
def setAt (d : Dc) (x : Int × Int × Int) (e : En) : Dc :=
  if x.1 < 0 then ⟨d.head.set x.2.1.toNat e, d.rows⟩ else ⟨d.head, d.rows.set x.1.toNat ⟨(d.rows.getD x.1.toNat default).item, (d.rows.getD x.1.toNat default).l.set x.2.1.toNat e⟩⟩
def setQ (l : List Fd) (d : Dc) (it : Str) (e : En) : Dc × Int :=
  if rightD l d = false then (default, 5) else
  if (seekM d it e.at').2.2 ≠ 0 then (default, (seekM d it e.at').2.2) else
  if fitsE (findF l e.at').1 e = false then (default, 11) else (setAt d (seekM d it e.at') e, 0)
theorem entries_at {L : List Fd} {es : List En} (h : entriesB L es = true) {k : Nat} (hk : k < es.length) : k < L.length ∧ (es.getD k default).at' = (L.getD k default).at' := by
  simp only [entriesB, Bool.and_eq_true, decide_eq_true_eq, List.all_eq_true, List.mem_range] at h
  have h1 := h.2 k (by omega)
  simp only [fitsE, Bool.and_eq_true, decide_eq_true_eq] at h1
  exact ⟨by omega, h1.1.2⟩
theorem field_at {l : List Fd} {sc : Int} {k : Nat} (hk : k < (scopeM l sc).length) {r : Rf} (h : ((scopeM l sc).getD k default).at' = r) : ∃ j : Nat, j < l.length ∧ idx (atF r) l = (j : Int) := by
  rcases idx_spec (atF r) l with ⟨_, h2⟩ | ⟨j, hj, h2, _⟩
  · exfalso
    have hm : (scopeM l sc).getD k default ∈ l := (List.mem_filter.1 (getD_mem' (d := default) hk)).1
    obtain ⟨i, hi, e⟩ := List.getElem_of_mem hm
    have := h2 i hi
    have h' : atF r ((scopeM l sc).getD k default) = true := decide_eq_true h
    rw [getD_lt hi, e, h'] at this
    cases this
  · exact ⟨j, hj, h2⟩
/-- where it lies -/
theorem seek_cases {l : List Fd} {d : Dc} {it : Str} {r : Rf} (hr : rightD l d = true) : (seekM d it r).2.2 ≠ 0 ∨
    (it = [] ∧ ∃ k j : Nat, k < d.head.length ∧ idx (atE r) d.head = (k : Int) ∧ seekM d it r = (-1, (k : Int), 0) ∧ j < l.length ∧ idx (atF r) l = (j : Int)) ∨
    (it ≠ [] ∧ ∃ i k j : Nat, i < d.rows.length ∧ idx (atR it) d.rows = (i : Int) ∧ (d.rows.getD i default).item = it ∧ k < (d.rows.getD i default).l.length ∧ idx (atE r) (d.rows.getD i default).l = (k : Int) ∧ seekM d it r = ((i : Int), (k : Int), 0) ∧ j < l.length ∧ idx (atF r) l = (j : Int)) := by
  unfold seekM
  by_cases hi : it = []
  · rw [if_pos hi]
    rcases idx_spec (atE r) d.head with ⟨h1, _⟩ | ⟨k, hk, h1, h2, _⟩
    · rw [h1]; exact .inl (by simp)
    · refine .inr (.inl ⟨hi, k, ?_⟩)
      obtain ⟨g1, g2⟩ := entries_at (rD_head hr) hk
      obtain ⟨j, hj, h3⟩ := field_at g1 (r := r) (by rw [← g2]; simpa [atE] using h2)
      rw [h1, if_neg (by omega)]
      exact ⟨j, hk, rfl, rfl, hj, h3⟩
  · rw [if_neg hi]
    rcases idx_spec (atR it) d.rows with ⟨h1, _⟩ | ⟨i, hii, h1, h2, _⟩
    · rw [h1]; exact .inl (by simp)
    · rw [h1, if_neg (by omega)]
      simp only [Int.toNat_natCast]
      rcases idx_spec (atE r) (d.rows.getD i default).l with ⟨h3, _⟩ | ⟨k, hk, h3, h4, _⟩
      · rw [h3]; exact .inl (by simp)
      · refine .inr (.inr ⟨hi, i, k, ?_⟩)
        obtain ⟨g1, g2⟩ := entries_at (rD_rows hr _ (getD_mem' (d := default) hii)) hk
        obtain ⟨j, hj, h5⟩ := field_at g1 (r := r) (by rw [← g2]; simpa [atE] using h4)
        rw [h3, if_neg (by omega)]
        exact ⟨j, hii, rfl, by simpa [atR] using h2, hk, rfl, rfl, hj, h5⟩
theorem find_code (d : Dc) (it : Str) (r : Rf) : (findM d it r).2 = (seekM d it r).2.2 := by
  unfold findM seekM
  by_cases hi : it = []
  · rw [if_pos hi, if_pos hi]; split <;> rfl
  · rw [if_neg hi, if_neg hi]
    split
    · rfl
    · split <;> rfl
set_option maxRecDepth 20000 in
set_option maxHeartbeats 16000000 in
theorem RSet_pure (l : List Fd) (d : Dc) (it : Str) (e : En) (hl : l.length ≤ 100000) (hl' : ∀ f ∈ l, f.cases'.length ≤ 1000000) (h1 : d.head.length ≤ 100000) (h2 : d.rows.length ≤ 100000) (h3 : ∀ r ∈ d.rows, r.l.length ≤ 100000) (hf : Fine d) (he : e.l.length ≤ 1000000) :
    PL.Pure Try.prog 32 [flds l, doc d, .str it, ent e] (.tup [doc (setQ l d it e).1, .int .i64 (setQ l d it e).2]) := by
  have hR := RRightD_pure l d (by rw [maxLen_eq]; omega) (fun f hf => by have := hl' f hf; rw [maxLen_eq]; omega) hf
  have hF := RFind_pure d it e.at' hf
  have hA := RAt_pure l e.at' (by rw [maxLen_eq]; omega)
  have hdef : doc default = .agg [.sl .no [], .sl .no []] := rfl
  cases hr : rightD l d
  · rw [hr] at hR
    have hq : setQ l d it e = (default, 5) := by simp [setQ, hr]
    rw [hq]
    refine pov2 Try.func32 rfl Try.ntmps32 Try.results32 (docI_dids _ _) ?_
    simp only [go_sem, flds, doc, ent]
    refine vc2 (hR) ?_
    simp only [go_sem]
    rfl
  · rw [hr] at hR
    have hfc := find_code d it e.at'
    rcases seek_cases (it := it) (r := e.at') hr with hs | ⟨hi, k, j, hk, s1, s2, hj, s3⟩ | ⟨hi, i, k, j, hii, s0, s0', hk, s1, s2, hj, s3⟩
    · have hq : setQ l d it e = (default, (seekM d it e.at').2.2) := by
        unfold setQ
        rw [if_neg (by rw [hr]; simp), if_pos hs]
      have hs' : ((findM d it e.at').2 != 0) = true := by rw [hfc]; simpa using hs
      rw [hq, ← hfc]
      unfold entc at hF
      generalize findM d it e.at' = x at *
      refine pov2 Try.func32 rfl Try.ntmps32 Try.results32 (docI_dids _ _) ?_
      simp only [go_sem, flds, doc, ent]
      refine vc2 (hR) ?_
      simp only [go_sem]
      refine vc1 (hF) ?_
      simp only [go_sem, ent, hs']
      rfl
    all_goals
      have hs' : ((findM d it e.at').2 != 0) = false := by rw [hfc, s2]; rfl
      have hjF : findF l e.at' = (l.getD j default, 0) := by
        unfold findF
        rw [s3, if_neg (by omega), Int.toNat_natCast]
      have hA' : PL.Pure Try.prog 77 [flds l, ref e.at'] (.int .i64 (j : Int)) := by rw [← s3]; exact hA
      have hfit := RFitsE_pure (l.getD j default) e (by have := hl' _ (getD_mem' (d := default) hj); rw [maxLen_eq]; omega) (by rw [maxLen_eq]; omega)
      have j0 : (0 : Int) ≤ (j : Int) := by omega
      have jz : (j : Int) < (l.length : Int) := by omega
      unfold entc at hF
      cases hfe : fitsE (l.getD j default) e
    · rw [hfe] at hfit
      have hq : setQ l d it e = (default, 11) := by
        unfold setQ
        rw [if_neg (by rw [hr]; simp), if_neg (by rw [s2]; simp), hjF, if_pos hfe]
      rw [hq]
      generalize findM d it e.at' = x at *
      refine pov2 Try.func32 rfl Try.ntmps32 Try.results32 (docI_dids _ _) ?_
      simp only [go_sem, flds, doc, ent]
      refine vc2 (hR) ?_
      simp only [go_sem]
      refine vc1 (hF) ?_
      simp only [go_sem, ent, hs']
      refine vDq ?_
      simp only [go_sem]
      refine vc2 (hA') ?_
      simp only [go_sem, j0, jz, getD_fld' hj, fld]
      refine vc2 (hfit) ?_
      simp only [go_sem]
      rfl
    · rw [hfe] at hfit
      have hq : setQ l d it e = (⟨d.head.set k e, d.rows⟩, 0) := by
        unfold setQ
        rw [if_neg (by rw [hr]; simp), if_neg (by rw [s2]; simp), hjF, if_neg (by rw [hfe]; simp)]
        unfold setAt
        rw [s2, if_pos (by simp)]
        rfl
      have hi' := beq_nil hi
      have hW := RWith_pure d.head e k h1 hk s1
      rw [hq]
      generalize findM d it e.at' = x at *
      refine pov2 Try.func32 rfl Try.ntmps32 Try.results32 (docI_dids _ _) ?_
      simp only [go_sem, flds, doc, ent]
      refine vc2 (hR) ?_
      simp only [go_sem]
      refine vc1 (hF) ?_
      simp only [go_sem, ent, hs']
      refine vDq ?_
      simp only [go_sem]
      refine vc2 (hA') ?_
      simp only [go_sem, j0, jz, getD_fld' hj, fld]
      refine vc2 (hfit) ?_
      simp only [go_sem, hi']
      refine vDq ?_
      simp only [go_sem]
      refine vc1 (hW) ?_
      simp only [go_sem, ents]
      rfl
    · rw [hfe] at hfit
      have hq : setQ l d it e = (default, 11) := by
        unfold setQ
        rw [if_neg (by rw [hr]; simp), if_neg (by rw [s2]; simp), hjF, if_pos hfe]
      rw [hq]
      generalize findM d it e.at' = x at *
      refine pov2 Try.func32 rfl Try.ntmps32 Try.results32 (docI_dids _ _) ?_
      simp only [go_sem, flds, doc, ent]
      refine vc2 (hR) ?_
      simp only [go_sem]
      refine vc1 (hF) ?_
      simp only [go_sem, ent, hs']
      refine vDq ?_
      simp only [go_sem]
      refine vc2 (hA') ?_
      simp only [go_sem, j0, jz, getD_fld' hj, fld]
      refine vc2 (hfit) ?_
      simp only [go_sem]
      rfl
    · rw [hfe] at hfit
      have hq : setQ l d it e = (⟨d.head, d.rows.set i ⟨it, (d.rows.getD i default).l.set k e⟩⟩, 0) := by
        unfold setQ
        rw [if_neg (by rw [hr]; simp), if_neg (by rw [s2]; simp), hjF, if_neg (by rw [hfe]; simp)]
        unfold setAt
        rw [s2, if_neg (by simp), ← s0']
        simp only [Int.toNat_natCast]
      have hi' := beq_nil' hi
      have hW := RWith_pure (d.rows.getD i default).l e k (h3 _ (getD_mem' hii)) hk s1
      have hRA := RowAt_pure d it (by rw [maxLen_eq]; omega)
      have hRA' : PL.Pure Try.prog 51 [doc d, .str it] (.int .i64 (i : Int)) := by rw [← s0]; exact hRA
      have hcl : ∀ l : List Rw, ∀ p ∈ l.map row, p.ids = [] := fun l => ids_mapV row_ids l
      have hrm := room_small (show d.rows.length ≤ 100000000000 by omega) (show 40 ≤ 1000 by omega)
      have i0 : (0 : Int) ≤ (i : Int) := by omega
      have iz : (i : Int) < (d.rows.length : Int) := by omega
      have hset : (d.rows.map row).set i (row ⟨it, (d.rows.getD i default).l.set k e⟩) = (d.rows.set i ⟨it, (d.rows.getD i default).l.set k e⟩).map row := set_mapV
      rw [hq]
      generalize findM d it e.at' = x at *
      refine PL.Pure.of_p [51, 54] Try.func32 (by decide) rfl Try.ntmps32 Try.results32 (by simp) (docI_dids _ _) ?_
      simp only [go_sem, flds, doc, ent]
      refine vc2 (hR) ?_
      simp only [go_sem]
      refine vc1 (hF) ?_
      simp only [go_sem, ent, hs']
      refine vDq ?_
      simp only [go_sem]
      refine vc2 (hA') ?_
      simp only [go_sem, j0, jz, getD_fld' hj, fld]
      refine vc2 (hfit) ?_
      simp only [go_sem, hi']
      refine ⟨fun p hp => by obtain ⟨x, _, rfl⟩ := List.mem_map.1 hp; exact ⟨rfl, rfl⟩, hcl _, fun p hp => by rw [hcl _ p hp]; simp, hrm, ?_⟩
      refine vc1 (hRA') ?_
      simp only [go_sem]
      refine vSplit 12 (by kernel_rfl) (by kernel_rfl) fun l1 hl1 => ?_
      simp only [List.take] at hl1
      subst hl1
      simp only [go_sem, i0, iz, getD_row' hii, row]
      refine vc1 (hW) ?_
      simp only [go_sem, ents]
      refine vTail 12 (by kernel_rfl) fun l2 hl2 => ?_
      simp only [List.drop] at hl2
      subst hl2
      simp only [row, ents] at hset
      simp only [go_sem, i0, iz, getD_row' hii, row, hset]
      exact ⟨_, rfl, Pub.tup2 (Pub.agg2w (.clean rfl) (Pub.vec0 (by simp) rfl (by simp) (hcl _))) (.clean rfl)⟩
end Go.Proofs.Ytmnibpgmcgdfpaa

set_option linter.unusedSimpArgs false
set_option linter.unusedVariables false
set_option linter.unusedSimpArgs false
set_option linter.unusedVariables false
namespace Go.PL
section
variable {s : St} {L : List (Nat × PV)} {b b' d d2 k k2 sz sz2 n : Nat} {e e2 : TypeId} {cs cs' es es2 : List PV}
theorem hasX_vv2b (h0 : s.n = n) (hL : ∀ x ∈ L, s.fr x.1 = x.2) (hb : s.m.h b = some cs) (hz : s.m.z b = false) (hb' : s.m.h b' = some cs') (hz' : s.m.z b' = false) (hq : s.m.q d = some (.vec k sz e)) (hv : s.m.v d = some es) (hq2 : s.m.q d2 = some (.vec k2 sz2 e2)) (hv2 : s.m.v d2 = some es2) : HasX n L [(b, cs, false), (b', cs', false)] [(d, .vec k sz e), (d2, .vec k2 sz2 e2)] [] [] [(d, es), (d2, es2)] [] [] [] s :=
  ⟨⟨h0, hL, by simp [hb, hz, hb', hz'], by simp [hq, hq2]⟩, by simp, by simp, by simp [hv, hv2], by simp, by simp, by simp⟩
theorem wholeX_vv2b (hL : ∀ x ∈ L, x.2.ids.all (refInM [(b, cs, false), (b', cs', false)] [(d, .vec k sz e), (d2, .vec k2 sz2 e2)]) = true) (hc : (PV.idsL cs).all (refInM [(b, cs, false), (b', cs', false)] [(d, .vec k sz e), (d2, .vec k2 sz2 e2)]) = true) (hc' : (PV.idsL cs').all (refInM [(b, cs, false), (b', cs', false)] [(d, .vec k sz e), (d2, .vec k2 sz2 e2)]) = true) (he : (PV.idsL es).all (refInM [(b, cs, false), (b', cs', false)] [(d, .vec k sz e), (d2, .vec k2 sz2 e2)]) = true) (he2 : PV.idsL es2 = []) : WholeX L [(b, cs, false), (b', cs', false)] [(d, .vec k sz e), (d2, .vec k2 sz2 e2)] [(d, es), (d2, es2)] [] [] [] :=
  ⟨⟨hL, by simp only [List.all_eq_true] at hc hc'; simp; exact ⟨hc, hc'⟩⟩, by simp only [List.all_eq_true] at he; simp [he2]; exact he, by simp, by simp, by simp, by simp⟩
end
end Go.PL
namespace Go.Proofs.Ytmnibpgmcgdfpaa
open Go.PL Go.RowKit
def rowK (r : Rw) : PV := .agg [.str r.item, .vsl 500 r.l.length 5]
def rowsK (rws : List Rw) (k : Nat) : List PV := (rws.map row).set k (rowK (rws.getD k default))
theorem rowsK_mem {rws : List Rw} {k : Nat} {p : PV} (h : p ∈ rowsK rws k) : p.ids = [] ∨ p = rowK (rws.getD k default) := by
  rcases List.mem_or_eq_of_mem_set h with h | h
  · obtain ⟨r, _, rfl⟩ := List.mem_map.1 h; exact .inl (row_ids r)
  · exact .inr h
theorem rowK_ids (r : Rw) : (rowK r).ids = [.r 500] := by simp [rowK, PV.ids, PV.idsL]
theorem rowsK_len (rws : List Rw) (k : Nat) : (rowsK rws k).length = rws.length := by simp [rowsK]
theorem rowsK_lo {rws : List Rw} {k x : Nat} (h : x ≤ k) : (rowsK rws k).take x = (rws.take x).map row := by
  unfold rowsK
  rw [List.take_set_of_le h, List.map_take]
theorem rowsK_snoc {rws : List Rw} {k x : Nat} (hx : x < rws.length) : (rowsK rws k).take (x + 1) = (rowsK rws k).take x ++ [if x = k then rowK (rws.getD x default) else row (rws.getD x default)] := by
  rw [take_snoc (d := .any) (by rw [rowsK_len]; exact hx)]
  congr 2
  unfold rowsK
  rw [List.getD_eq_getElem?_getD, List.getElem?_set]
  by_cases h : x = k
  · subst h; rw [if_pos rfl, if_pos rfl, if_pos (by simpa using hx)]; rfl
  · rw [if_neg (Ne.symm h), if_neg h, ← List.getD_eq_getElem?_getD, getD_row' hx]
abbrev ownM (n m : Nat) (es hs : List PV) : MemL := ⟨[], [(26, .vec n 2 53), (500, .vec m 5 27)], [(26, es), (500, hs)]⟩
theorem ownM_ok (rws : List Rw) (k n m : Nat) (l : List En) : (ownM n m (rowsK rws k) (l.map ent)).Ok :=
  ⟨by simp, by simp, by simp, by simp, by simp, fun y hy c hc i hi => by
    simp only [List.mem_cons, List.not_mem_nil, or_false] at hy
    rcases hy with rfl | rfl
    · rcases rowsK_mem hc with h | rfl
      · rw [h] at hi; cases hi
      · rw [rowK_ids] at hi
        simp only [List.mem_singleton] at hi
        subst hi
        exact ⟨_, List.mem_cons_of_mem _ (List.mem_singleton.2 rfl), rfl⟩
    · obtain ⟨e, _, rfl⟩ := List.mem_map.1 hc
      rw [ent_ids'] at hi; cases hi⟩
theorem ent_didsL (l : List En) : PV.didsL (l.map ent) = [] := by
  induction l with
  | nil => rfl
  | cons e l ih => simp only [List.map_cons, PV.didsL, ent_dids, ih, List.append_nil]
set_option maxRecDepth 20000 in
set_option maxHeartbeats 16000000 in
/-- its own copy: the rows a vec, one row's entries a vec -/
theorem OwnK_eff (d : Dc) (kk : Nat) (hkk : kk < d.rows.length) (h1 : d.head.length ≤ 100000) (h2 : d.rows.length ≤ 100000) (h3 : ∀ e ∈ d.head, e.l.length ≤ 1000000) (h4 : ∀ r ∈ d.rows, r.l.length ≤ 100000 ∧ ∀ e ∈ r.l, e.l.length ≤ 1000000) :
    Eff Try.prog 18 [doc d] noV (.agg [ents d.head, .vsl 26 d.rows.length 2]) (ownM d.rows.length (d.rows.getD kk default).l.length (rowsK d.rows kk) ((d.rows.getD kk default).l.map ent)) := by
  obtain ⟨hd, rws⟩ := d
  simp only at h1 h2 h3 h4 hkk
  have hcl : ∀ l : List Rw, ∀ p ∈ l.map row, p.ids = [] := fun l => ids_mapV row_ids l
  have hm : rws.length ≤ maxLen := by rw [maxLen_eq]; omega
  have hE := ownEntries_pure hd h1 h3
  generalize hlk : (rws.getD kk default).l = lk
  refine Eff.of_v [26] Try.func18 (by decide) rfl Try.ntmps18 Try.results18 (by simp) noV_ok (ownM_ok _ _ _ _ _) (by simp [doc, ents, PV.ids, PV.idsL]) (by simp [ents, PV.ids, PV.idsL, MemL.has]) (by simp) (by simp) fun ph pq => ?_
  simp only [go_sem, doc]
  refine vc1 (hE) ?_
  simp only [go_sem, ents]
  refine awp_gh (Gh.nilVecB (b := 3) (j := 1) (d := 26) (sz := 2) (e := 53) rfl rfl (by simp) rfl rfl) ?_
  refine vLoopX (ι := { k : Nat // k ≤ rws.length }) 30 (fun x => [(2, .ptr 2 0), (3, .ptr 3 0), (11, .sl .no (rws.map row)), (12, .int .i64 (rws.length : Int)), (13, .int .i64 (x.1 : Int))]) (fun x => [(2, [.sl .nil [], .sl .nil []], false), (3, [.sl .no (hd.map ent), .vsl 26 x.1 2], false)]) (fun x => if x.1 ≤ kk then [(26, .vec x.1 2 53)] else [(26, .vec x.1 2 53), (500, .vec lk.length 5 27)]) (fun _ => []) (fun _ => []) (fun x => if x.1 ≤ kk then [(26, (rowsK rws kk).take x.1)] else [(26, (rowsK rws kk).take x.1), (500, lk.map ent)]) (fun _ => []) [] [] [26] (fun x => rws.length - x.1) ⟨0, Nat.zero_le _⟩
    (by simp only [Nat.zero_le, if_true]; exact hasX_v2b rfl (forall_cons rfl (forall_cons rfl (forall_cons rfl (forall_cons rfl (forall_cons rfl (forall_nil)))))) rfl rfl rfl rfl rfl rfl) (fun x => ?_) (fun x => ?_)
  · obtain ⟨k, hk⟩ := x
    by_cases hkx : k ≤ kk
    · simp only [if_pos hkx]
      exact wholeX_v2b (by simp [PV.ids, PV.idsL, refInM]) (by simp [PV.ids, PV.idsL, refInM]) (by simp [PV.ids, PV.idsL, refInM]) (by rw [rowsK_lo hkx]; exact idsL_mapV row_ids _)
    · simp only [if_neg hkx]
      refine wholeX_vv2b (by simp [PV.ids, PV.idsL, refInM]) (by simp [PV.ids, PV.idsL, refInM]) (by simp [PV.ids, PV.idsL, refInM]) ?_ (idsL_mapV ent_ids' _)
      rw [List.all_eq_true]
      intro i hi
      obtain ⟨p, hp, hi⟩ := PV.mem_idsL.1 hi
      rcases rowsK_mem (List.mem_of_mem_take hp) with h | rfl
      · rw [h] at hi; cases hi
      · rw [rowK_ids] at hi
        simp only [List.mem_singleton] at hi
        subst hi
        simp [refInM]
  obtain ⟨k, hk⟩ := x
  simp only
  by_cases h : (k : Int) < (rws.length : Int)
  · have hka : k < rws.length := by omega
    have w1 := w64s hka hm
    have i1 : (0 : Int) ≤ (k : Int) := by omega
    have rk := h4 _ (getD_mem' (d := default) hka)
    have hO := ownEntries_pure (rws.getD k default).l rk.1 rk.2
    have hsn := rowsK_snoc (k := kk) hka
    have hln : ((rowsK rws kk).take k).length = k := by rw [List.length_take, rowsK_len]; omega
    have hrm := room1 (show k + 1 ≤ 1000000 by omega) (show 40 ≤ 1000 by omega)
    rcases Nat.lt_trichotomy k kk with hlt | heq | hgt
    · rw [if_neg (by omega)] at hsn
      simp only [if_pos (show k ≤ kk by omega)]
      simp only [go_sem, h, getD_row' hka, row, i1]
      refine vSplit 9 (by kernel_rfl) (by kernel_rfl) fun l1 hl1 => ?_
      simp only [List.take] at hl1
      subst hl1
      simp only [go_sem]
      refine vc1 (hO) ?_
      simp only [go_sem, ents]
      refine vTail 9 (by kernel_rfl) fun l2 hl2 => ?_
      simp only [List.drop] at hl2
      subst hl2
      simp only [go_sem, ents, w1, hln, hrm]
      refine ⟨fun p hp => by rw [List.mem_singleton.1 hp]; exact ⟨rfl, rfl⟩, fun p hp => by rw [List.mem_singleton.1 hp]; exact row_ids _, fun p hp => ?_, ⟨k + 1, by omega⟩, by show rws.length - (k + 1) < rws.length - k; omega, ?_⟩
      · rcases List.mem_append.1 hp with hp | hp
        · rw [rowsK_lo (by omega)] at hp; rw [hcl _ p hp]; simp
        · rw [List.mem_singleton.1 hp, show (PV.agg [PV.str (rws.getD k default).item, PV.sl Tok.no (List.map ent (rws.getD k default).l)]).ids = [] from row_ids _]; simp
      · simp only [if_pos (show k + 1 ≤ kk by omega)]
        exact hasX_v2b rfl (forall_cons rfl (forall_cons rfl (forall_cons rfl (forall_cons rfl (forall_cons rfl (forall_nil)))))) rfl rfl rfl rfl rfl (by simp only; rw [hsn]; rfl)
    · subst heq
      simp only [if_pos (Nat.le_refl _)]
      rw [if_pos rfl] at hsn
      have hV := OwnEntries_eff (rws.getD k default).l rk.1 rk.2
      rw [hlk] at hV
      simp only [go_sem, h, getD_row' hka, row, i1, hlk]
      refine vSplitE 6 9 (by kernel_rfl) (by kernel_rfl) fun l1 hl1 => ?_
      simp only [List.take] at hl1
      subst hl1
      simp only [go_sem]
      refine vCh_vn 500 hV (ent_didsL _) (by simp [ents, PV.ids]) rfl rfl rfl rfl (show (23 : Nat) < 30 by omega) rfl rfl (by simp only [go_sem, ents]) (by simp [PV.ren, PV.dids]) ?_
      refine vCh_walk rfl rfl rfl fun l2 hl2 => ?_
      subst hl2
      simp only [go_sem, PV.ren]
      refine vCh_lit (ei := ⟨53, 2, 40⟩) rfl rfl rfl rfl (show (25 : Nat) < 30 by omega) (by kernel_rfl) rfl rfl (by decide) (by simp only [go_sem, partsV]; simp)  ?_
      refine vCh_end ?_
      refine vTail 9 (by kernel_rfl) fun l2 hl2 => ?_
      simp only [List.drop] at hl2
      subst hl2
      simp only [go_sem, w1, hln, hrm]
      have hrk : rowK (rws.getD k default) = .agg [.str (rws.getD k default).item, .vsl 500 lk.length 5] := by unfold rowK; rw [hlk]
      refine ⟨fun p hp => by rw [List.mem_singleton.1 hp]; exact ⟨rfl, rfl⟩, ⟨⟨_, rfl⟩, by decide⟩, fun p hp => ?_, ⟨k + 1, by omega⟩, by show rws.length - (k + 1) < rws.length - k; omega, ?_⟩
      · rcases List.mem_append.1 hp with hp | hp
        · rw [rowsK_lo (Nat.le_refl _)] at hp; rw [hcl _ p hp]; simp
        · rw [List.mem_singleton.1 hp, ← hrk, rowK_ids]; simp
      · simp only [if_neg (show ¬ k + 1 ≤ k by omega)]
        exact hasX_vv2b rfl (forall_cons rfl (forall_cons rfl (forall_cons rfl (forall_cons rfl (forall_cons rfl (forall_nil)))))) rfl rfl rfl rfl rfl (by simp only; rw [hsn, hrk]; rfl) rfl rfl
    · rw [if_neg (by omega)] at hsn
      simp only [if_neg (show ¬ k ≤ kk by omega)]
      simp only [go_sem, h, getD_row' hka, row, i1]
      refine vSplit 9 (by kernel_rfl) (by kernel_rfl) fun l1 hl1 => ?_
      simp only [List.take] at hl1
      subst hl1
      simp only [go_sem]
      refine vc1 (hO) ?_
      simp only [go_sem, ents]
      refine vTail 9 (by kernel_rfl) fun l2 hl2 => ?_
      simp only [List.drop] at hl2
      subst hl2
      simp only [go_sem, ents, w1, hln, hrm]
      refine ⟨fun p hp => by rw [List.mem_singleton.1 hp]; exact ⟨rfl, rfl⟩, fun p hp => by rw [List.mem_singleton.1 hp]; exact row_ids _, fun p hp => ?_, ⟨k + 1, by omega⟩, by show rws.length - (k + 1) < rws.length - k; omega, ?_⟩
      · rcases List.mem_append.1 hp with hp | hp
        · rcases rowsK_mem (List.mem_of_mem_take hp) with h | rfl
          · rw [h]; simp
          · rw [rowK_ids]; simp
        · rw [List.mem_singleton.1 hp, show (PV.agg [PV.str (rws.getD k default).item, PV.sl Tok.no (List.map ent (rws.getD k default).l)]).ids = [] from row_ids _]; simp
      · simp only [if_neg (show ¬ k + 1 ≤ kk by omega)]
        exact hasX_vv2b rfl (forall_cons rfl (forall_cons rfl (forall_cons rfl (forall_cons rfl (forall_cons rfl (forall_nil)))))) rfl rfl rfl rfl rfl (by simp only; rw [hsn]; rfl) rfl rfl
  · obtain rfl : k = rws.length := by omega
    simp only [if_neg (show ¬ rws.length ≤ kk by omega)]
    have htk : (rowsK rws kk).take rws.length = rowsK rws kk := List.take_of_length_le (by rw [rowsK_len]; exact Nat.le_refl _)
    simp only [go_sem, h, htk]
    refine ⟨⟨.agg [ents hd, .vsl 26 rws.length 2], by simp only [go_sem, vRet0, ents], .keep _ (by intro i hi; simp [ents, PV.ids, PV.idsL] at hi; subst hi; exact ⟨_, List.mem_cons_self .., rfl⟩)⟩, by simp, fun x hx => ?_, fun x hx => ?_, by simp, by simp⟩
    · simp only [List.mem_cons, List.not_mem_nil, or_false] at hx
      rcases hx with rfl | rfl <;> rfl
    · simp only [List.mem_cons, List.not_mem_nil, or_false] at hx
      rcases hx with rfl | rfl
      · refine ⟨_, rfl, rfl, fun i hi => .keep _ fun j hj => ?_⟩
        rcases rowsK_mem (getD_mem (d := .any) hi) with h | h
        · rw [h] at hj; cases hj
        · rw [h, rowK_ids] at hj
          simp only [List.mem_singleton] at hj
          subst hj
          exact ⟨_, List.mem_cons_of_mem _ (List.mem_singleton.2 rfl), rfl⟩
      · exact ⟨_, rfl, rfl, fun i hi => .clean (by
          obtain ⟨e, _, he⟩ := List.mem_map.1 (getD_mem (d := .any) hi)
          rw [← he]; exact ent_ids' e)⟩
end Go.Proofs.Ytmnibpgmcgdfpaa

set_option linter.unusedSimpArgs false
set_option linter.unusedVariables false
set_option linter.unusedSimpArgs false
set_option linter.unusedVariables false
namespace Go.Proofs.Ytmnibpgmcgdfpaa
open Go.PL Go.RowKit
theorem ownMH_ok (rws : List Rw) (n m : Nat) (l : List En) : (ownM n m (rws.map row) (l.map ent)).Ok :=
  ⟨by simp, by simp, by simp, by simp, by simp, fun y hy c hc i hi => by
    simp only [List.mem_cons, List.not_mem_nil, or_false] at hy
    rcases hy with rfl | rfl
    · obtain ⟨r, _, rfl⟩ := List.mem_map.1 hc
      rw [row_ids] at hi; cases hi
    · obtain ⟨e, _, rfl⟩ := List.mem_map.1 hc
      rw [ent_ids'] at hi; cases hi⟩
set_option maxRecDepth 20000 in
set_option maxHeartbeats 16000000 in
/-- its own copy: the head and the rows vecs -/
theorem OwnH_eff (d : Dc) (h1 : d.head.length ≤ 100000) (h2 : d.rows.length ≤ 100000) (h3 : ∀ e ∈ d.head, e.l.length ≤ 1000000) (h4 : ∀ r ∈ d.rows, r.l.length ≤ 100000 ∧ ∀ e ∈ r.l, e.l.length ≤ 1000000) :
    Eff Try.prog 18 [doc d] noV (.agg [.vsl 500 d.head.length 5, .vsl 26 d.rows.length 2]) (ownM d.rows.length d.head.length (d.rows.map row) (d.head.map ent)) := by
  obtain ⟨hd, rws⟩ := d
  simp only at h1 h2 h3 h4
  have hcl : ∀ l : List Rw, ∀ p ∈ l.map row, p.ids = [] := fun l => ids_mapV row_ids l
  have hce : ∀ l : List En, ∀ p ∈ l.map ent, p.ids = [] := fun l => ids_mapV ent_ids' l
  have hm : rws.length ≤ maxLen := by rw [maxLen_eq]; omega
  have hV := OwnEntries_eff hd h1 h3
  refine Eff.of_v [26] Try.func18 (by decide) rfl Try.ntmps18 Try.results18 (by simp) noV_ok (ownMH_ok _ _ _ _) (by simp [doc, ents, PV.ids, PV.idsL]) (by simp [PV.ids, PV.idsL, MemL.has]) (by simp) (by simp) fun ph pq => ?_
  simp only [go_sem, doc]
  refine vCall_vn 500 hV (hce _) (by simp [PV.ids, ents]) rfl (by simp only [go_sem, ents]) ?_
  simp only [go_sem, PV.ren, ents]
  refine awp_gh (Gh.nilVecB (b := 3) (j := 1) (d := 26) (sz := 2) (e := 53) rfl rfl (by simp) rfl rfl) ?_
  refine vLoopX (ι := { k : Nat // k ≤ rws.length }) 30 (fun x => [(2, .ptr 2 0), (3, .ptr 3 0), (11, .sl .no (rws.map row)), (12, .int .i64 (rws.length : Int)), (13, .int .i64 (x.1 : Int))]) (fun x => [(2, [.sl .nil [], .sl .nil []], false), (3, [.vsl 500 hd.length 5, .vsl 26 x.1 2], false)]) (fun x => [(26, .vec x.1 2 53), (500, .vec hd.length 5 27)]) (fun _ => []) (fun _ => []) (fun x => [(26, (rws.take x.1).map row), (500, hd.map ent)]) (fun _ => []) [] [] [26] (fun x => rws.length - x.1) ⟨0, Nat.zero_le _⟩
    (hasX_vv2b rfl (forall_cons rfl (forall_cons rfl (forall_cons rfl (forall_cons rfl (forall_cons rfl (forall_nil)))))) rfl rfl rfl rfl rfl rfl rfl rfl) (fun x => wholeX_vv2b (by simp [PV.ids, PV.idsL, refInM]) (by simp [PV.ids, PV.idsL, refInM]) (by simp [PV.ids, PV.idsL, refInM]) (by rw [idsL_mapV row_ids _]; rfl) (idsL_mapV ent_ids' _)) (fun x => ?_)
  obtain ⟨k, hk⟩ := x
  simp only
  by_cases h : (k : Int) < (rws.length : Int)
  · have hka : k < rws.length := by omega
    have w1 := w64s hka hm
    have i1 : (0 : Int) ≤ (k : Int) := by omega
    have rk := h4 _ (getD_mem' (d := default) hka)
    have hO := ownEntries_pure (rws.getD k default).l rk.1 rk.2
    have hsn : (rws.take (k + 1)).map row = (rws.take k).map row ++ [row (rws.getD k default)] := by rw [take_snoc (d := default) hka, List.map_append]; rfl
    have hln : ((rws.take k).map row).length = k := by simp; omega
    have hrm := room1 (show k + 1 ≤ 1000000 by omega) (show 40 ≤ 1000 by omega)
    simp only [go_sem, h, getD_row' hka, row, i1]
    refine vSplit 9 (by kernel_rfl) (by kernel_rfl) fun l1 hl1 => ?_
    simp only [List.take] at hl1
    subst hl1
    simp only [go_sem]
    refine vc1 (hO) ?_
    simp only [go_sem, ents]
    refine vTail 9 (by kernel_rfl) fun l2 hl2 => ?_
    simp only [List.drop] at hl2
    subst hl2
    simp only [go_sem, ents, w1, hln, hrm]
    refine ⟨fun p hp => by rw [List.mem_singleton.1 hp]; exact ⟨rfl, rfl⟩, fun p hp => by rw [List.mem_singleton.1 hp]; exact row_ids _, fun p hp => ?_, ⟨k + 1, by omega⟩, by show rws.length - (k + 1) < rws.length - k; omega, hasX_vv2b rfl (forall_cons rfl (forall_cons rfl (forall_cons rfl (forall_cons rfl (forall_cons rfl (forall_nil)))))) rfl rfl rfl rfl rfl (by simp only; rw [hsn]; rfl) rfl rfl⟩
    rcases List.mem_append.1 hp with hp | hp
    · rw [hcl _ p hp]; simp
    · rw [List.mem_singleton.1 hp, show (PV.agg [PV.str (rws.getD k default).item, PV.sl Tok.no (List.map ent (rws.getD k default).l)]).ids = [] from row_ids _]; simp
  · obtain rfl : k = rws.length := by omega
    simp only [go_sem, h, List.take_length]
    refine ⟨⟨.agg [.vsl 500 hd.length 5, .vsl 26 rws.length 2], by simp only [go_sem, vRet0], .keep _ (by
      intro i hi
      simp [PV.ids, PV.idsL] at hi
      rcases hi with rfl | rfl
      · exact ⟨_, List.mem_cons_of_mem _ (List.mem_singleton.2 rfl), rfl⟩
      · exact ⟨_, List.mem_cons_self .., rfl⟩)⟩, by simp, fun x hx => ?_, fun x hx => ?_, by simp, by simp⟩
    · simp only [List.mem_cons, List.not_mem_nil, or_false] at hx
      rcases hx with rfl | rfl <;> rfl
    · simp only [List.mem_cons, List.not_mem_nil, or_false] at hx
      rcases hx with rfl | rfl
      · exact ⟨_, rfl, rfl, fun i hi => .clean (hcl _ _ (getD_mem (d := .any) hi))⟩
      · exact ⟨_, rfl, rfl, fun i hi => .clean (hce _ _ (getD_mem (d := .any) hi))⟩
end Go.Proofs.Ytmnibpgmcgdfpaa

set_option linter.unusedSimpArgs false
set_option linter.unusedVariables false
set_option linter.unusedSimpArgs false
set_option linter.unusedVariables false
namespace Go.Proofs.Ytmnibpgmcgdfpaa
open Go.PL
structure FineB (c : Cg) : Prop where
  w : c.was.l.length ≤ 1000000
  n : c.now.l.length ≤ 1000000
  l : c.l.length ≤ 100000
  e : ∀ e ∈ c.l, e.l.length ≤ 1000000
end Go.Proofs.Ytmnibpgmcgdfpaa
