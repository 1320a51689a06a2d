/- Contracts of functions and laws of this seat, each for every input that it names: lemmas of the proof. -/
import Derived.Test.YtnadlkjmdimjkaaGreatXCz
import Derived.Test.YtnadlkjmdimjkaaGreatXBx
set_option linter.unusedSimpArgs false
set_option linter.unusedVariables false
set_option linter.unusedSimpArgs false
set_option linter.unusedVariables false
namespace Go.Proofs.YtnadlkjmdimjkaaGreat
open Go.PL
theorem atoms_row (l : List Rw) : Atoms (l.map row) := fun e he => by
  obtain ⟨t, _, rfl⟩ := List.mem_map.1 he
  rfl
theorem row_dids (r : Rw) : (row r).dids = [] := by simp only [row, PV.dids, PV.didsL, didsL_ent, List.append_nil]
theorem didsL_row (l : List Rw) : PV.didsL (l.map row) = [] := by
  induction l with
  | nil => rfl
  | cons t l ih => simp only [List.map_cons, PV.didsL, ih, row_dids, List.append_nil]
theorem doc_dids (d : Dc) : (doc d).dids = [] := by simp only [doc, PV.dids, PV.didsL, didsL_ent, didsL_row, List.append_nil]
/-- rows gathered in a field of a block: nil at first -/
def gatC (i : Nat) (l : List Rw) : Nat → PV
  | 0 => .sl .nil []
  | k + 1 => .sl (.row i) ((l.take (k + 1)).map row)
def gatR (i : Nat) : Nat → List (Nat × Row)
  | 0 => []
  | k + 1 => [(i, .live (k + 1) 2 130)]
set_option maxRecDepth 20000 in
set_option maxHeartbeats 8000000 in
theorem DOwn_pure (d : Dc) (h1 : d.head.length ≤ 100000) (h2 : d.rows.length ≤ 100000) (h3 : ∀ e ∈ d.head, e.l.length ≤ 1000000) (h4 : ∀ r ∈ d.rows, r.l.length ≤ 100000 ∧ ∀ e ∈ r.l, e.l.length ≤ 1000000) : PL.Pure Tryz.prog 77 [doc d] (doc d) := by
  obtain ⟨hd, rws⟩ := d
  simp only at h1 h2 h3 h4
  have hm : rws.length ≤ maxLen := by rw [maxLen_eq]; omega
  have hE := ownEntries_pure hd h1 h3
  refine PL.Pure.of_v Tryz.func77 (by decide) rfl Tryz.ntmps77 Tryz.results77 (by simp) (doc_dids _) ?_
  simp only [go_sem, doc]
  refine vCall_of (hE) ?_ ?_ ?_; iterate 2 simp only [go_sem, ents]
  simp only [go_sem, ents]
  refine vLoopM (ι := { k : Nat // k ≤ rws.length }) 30 (fun x => [(2, .ptr 2 0), (3, .ptr 3 0), (11, .sl .no (rws.map row)), (12, .int .i64 (rws.length : Int)), (13, .int .i64 (x.1 : Int))]) (fun x => [(2, [.sl .nil [], .sl .nil []], false), (3, [.sl .no (hd.map ent), gatC 26 rws x.1], false)]) (fun x => gatR 26 x.1) (fun x => rws.length - x.1) ⟨0, Nat.zero_le _⟩
    ⟨rfl, (forall_cons rfl (forall_cons rfl (forall_cons rfl (forall_cons rfl (forall_cons rfl (forall_nil)))))), forall_cons ⟨rfl, rfl⟩ (forall_cons ⟨rfl, rfl⟩ forall_nil), forall_nil⟩ (fun x => ?_) (fun x => ?_)
  · obtain ⟨k, hk⟩ := x
    cases k with
    | zero => exact ⟨(forall_cons rfl (forall_cons rfl (forall_cons rfl (forall_cons rfl (forall_cons rfl (forall_nil)))))), forall_cons rfl (forall_cons rfl forall_nil)⟩
    | succ k => exact ⟨(forall_cons rfl (forall_cons rfl (forall_cons rfl (forall_cons rfl (forall_cons rfl (forall_nil)))))), forall_cons rfl (forall_cons (by simp [gatC, gatR, PV.ids, PV.idsL, refInM]) forall_nil)⟩
  obtain ⟨k, hk⟩ := x
  simp only
  by_cases h : (k : Int) < (rws.length : Int)
  · have hka : k < rws.length := by omega
    have w1 := w64s hka hm
    have i1 : (0 : Int) ≤ (k : Int) := by omega
    have rk := h4 _ (getD_mem' (d := default) hka)
    have hO := ownEntries_pure (rws.getD k default).l rk.1 rk.2
    have hsn : (rws.take (k + 1)).map row = (rws.take k).map row ++ [row (rws.getD k default)] := by rw [take_snoc (d := default) hka, List.map_append]; rfl
    have hsz := sized_row (rws.take k)
    have hr0 := room1 (show 1 ≤ 1000000 by omega) (show 40 ≤ 1000 by omega)
    have hat := atoms_row [rws.getD k default]
    have hln : ((rws.take k).map row).length = k := by simp; omega
    cases k with
    | zero =>
      have h' : (0 : Int) < (rws.length : Int) := by simpa using h
      have g0 := getD_row' hka
      simp only [go_sem, gatC, gatR, h', g0, row, i1]
      refine vDrawQ (by kernel_rfl) (by kernel_rfl) ?_
      simp only [go_sem]
      refine vCall_of (hO) ?_ ?_ ?_; iterate 2 simp only [go_sem, ents]
      have w0 : IntKind.i64.wrap 1 = 1 := w64 (by omega)
      simp only [go_sem, ents, w1, w0]
      refine ⟨hr0, ⟨⟨0 + 1, by omega⟩, by show rws.length - (0 + 1) < rws.length - 0; omega, ⟨rfl, (forall_cons rfl (forall_cons rfl (forall_cons rfl (forall_cons rfl (forall_cons rfl (forall_nil)))))), forall_cons ⟨rfl, rfl⟩ (forall_cons ⟨?_, rfl⟩ forall_nil), forall_cons rfl forall_nil⟩⟩⟩
      show some [PV.sl .no _, PV.sl (.row 26) _] = some [PV.sl .no _, PV.sl (.row 26) _]
      rw [hsn]
      rfl
    | succ k =>
      have hl3 : (rws.take (k + 1)).length = k + 1 := by rw [List.length_take]; omega
      have hr := room1 (show k + 1 + 1 ≤ 1000000 by omega) (show 40 ≤ 1000 by omega)
      simp only [go_sem, gatC, gatR, h, getD_row' hka, row, i1]
      refine vDrawQ (by kernel_rfl) (by kernel_rfl) ?_
      simp only [go_sem]
      refine vCall_of (hO) ?_ ?_ ?_; iterate 2 simp only [go_sem, ents]
      simp only [go_sem, ents, w1]
      refine ⟨⟨hl3.symm, sized_row _, by rw [hl3]; exact hr⟩, ⟨⟨k + 1 + 1, by omega⟩, by show rws.length - (k + 1 + 1) < rws.length - (k + 1); omega, ⟨rfl, (forall_cons rfl (forall_cons rfl (forall_cons rfl (forall_cons rfl (forall_cons rfl (forall_nil)))))), forall_cons ⟨rfl, rfl⟩ (forall_cons ⟨?_, rfl⟩ forall_nil), forall_cons ?_ forall_nil⟩⟩⟩
      · show some [PV.sl .no _, PV.sl (.row 26) _] = some [PV.sl .no _, PV.sl (.row 26) _]
        rw [hsn]
        rfl
      · show some _ = some _
        rw [hl3]
  · obtain rfl : k = rws.length := by omega
    cases rws with
    | nil =>
      have h' : ¬ (0 : Int) < 0 := by omega
      simp only [go_sem, gatC, gatR, h', List.length_nil]
      rfl
    | cons r rs =>
      have ht : (r :: rs).take (rs.length + 1) = r :: rs := List.take_length (l := r :: rs)
      have h' : ¬ ((rs.length + 1 : Nat) : Int) < ((rs.length + 1 : Nat) : Int) := by omega
      simp only [go_sem, gatC, gatR, h', List.length_cons, ht]
      rw [List.take_length]
      rfl
end Go.Proofs.YtnadlkjmdimjkaaGreat

set_option linter.unusedSimpArgs false
set_option linter.unusedVariables false
set_option linter.unusedSimpArgs false
set_option linter.unusedVariables false
namespace Go.Proofs.YtnadlkjmdimjkaaGreat
open Go.PL
def isAt (r : Rf) (e : En) : Bool := decide (e.at' = r)
def entM (es : List En) (r : Rf) : Option En := es.find? (isAt r)
def eptc (x : Option En) : PV := .tup [ent (x.getD default), .bool x.isSome]
theorem eptc_dids (x : Option En) : (eptc x).dids = [] := by simp only [eptc, PV.dids, PV.didsL, ent_dids, List.append_nil]
set_option maxRecDepth 20000 in
set_option maxHeartbeats 8000000 in
theorem entry_pure (es : List En) (r : Rf) (hl : es.length ≤ maxLen) (hl' : ∀ e ∈ es, e.l.length ≤ 1000000) : PL.Pure Tryz.prog 190 [ents es, ref r] (eptc (entM es r)) := by
  refine PL.Pure.of_v Tryz.func190 (by decide) rfl Tryz.ntmps190 Tryz.results190 (by simp) (eptc_dids _) ?_
  simp only [go_sem, ents, ref]
  refine vLoopM (ι := { x : Nat // x ≤ (es).length ∧ (∀ j, j < x → isAt r (es.getD j default) = false) }) 25 (fun x => [(3, .ptr 3 0), (4, .ptr 4 0), (8, ents es), (9, .int .i64 (es.length : Int)), (10, .int .i64 (x.1 : Int))]) (fun x => [(3, [.int .i64 r.sc, .str r.gr, .str r.nm], false), (4, [.int .i64 0, .str [], .str [], .int .i64 0, .sl .nil []], false)]) (fun x => []) (fun x => (es).length - x.1) ⟨0, Nat.zero_le _, fun j hj => absurd hj (Nat.not_lt_zero j)⟩ ⟨rfl, (forall_cons rfl (forall_cons rfl (forall_cons rfl (forall_cons rfl (forall_cons rfl forall_nil))))), (forall_cons ⟨rfl, rfl⟩ (forall_cons ⟨rfl, rfl⟩ forall_nil)), forall_nil⟩ (fun x => ⟨(forall_cons rfl (forall_cons rfl (forall_cons rfl (forall_cons rfl (forall_cons rfl forall_nil))))), (forall_cons rfl (forall_cons rfl forall_nil))⟩) (fun x => ?_); obtain ⟨k, hk, hI⟩ := x; simp only at hk hI ⊢
  by_cases h : (k : Int) < (es.length : Int)
  · (have hka : k < (es).length := by omega); (have w1 := w64s hka (hl)); (have i1 : (0 : Int) ≤ (k : Int) := by omega)
    have hel := hl' _ (getD_mem' (d := default) hka)
    have hr := room1 hel (show 16 ≤ 1000 by omega)
    cases hq : isAt r (es.getD k default)
    · have hq' : decide ((es.getD k default).at' = r) = false := hq
      simp only [go_sem, ents, h, getD_ent' hka, ent, i1, ref_fold, hq', w1]
      exact ⟨⟨k + 1, by (try simp only); omega, below_succ (p := fun j => isAt r (es.getD j default) = false) hI hq⟩, by show (es).length - (k + 1) < (es).length - k; omega, ⟨rfl, (forall_cons rfl (forall_cons rfl (forall_cons rfl (forall_cons rfl (forall_cons rfl forall_nil))))), (forall_cons ⟨rfl, rfl⟩ (forall_cons ⟨rfl, rfl⟩ forall_nil)), forall_nil⟩⟩
    · have hq' : decide ((es.getD k default).at' = r) = true := hq
      have hf : entM es r = some (es.getD k default) := find_found hka hI hq
      simp only [go_sem, ents, h, getD_ent' hka, ent, i1, ref_fold, hq', sized_str, atoms_str, hr, hf, eptc, Option.getD_some, Option.isSome_some]
  · have hf : entM es r = none := find_none (d := default) (fun j hj => hI j (by omega))
    simp only [go_sem, h, hf, eptc, Option.getD_none, Option.isSome_none]
    rfl
def mergI (u p f : Int) : Int × Int := if fitsI u = true ∧ fitsI p = true then (if (joinI u p f).2 = 0 then ((joinI u p f).1, 0) else (0, 3)) else (0, 3)
set_option maxHeartbeats 4000000 in
theorem pmerged_pure (u p f : Int) : PL.Pure Tryz.prog 228 [.int .i64 u, .int .i64 p, .int .i64 f] (intc (mergI u p f)) := by
  have hO := Of_pure u p
  unfold mergI
  by_cases hf : fitsI u = true ∧ fitsI p = true
  · rw [if_pos hf] at hO ⊢
    have hJ := Join_pure' u p f (fitsI_iff.1 hf.1) (fitsI_iff.1 hf.2)
    generalize joinI u p f = j at *
    obtain ⟨v, c⟩ := j
    by_cases hc : c = 0
    · have hc' : (c != 0) = false := by rw [hc]; rfl
      subst hc
      refine PL.Pure.of_v Tryz.func228 (by decide) rfl Tryz.ntmps228 Tryz.results228 (by simp) (rfl) ?_
      simp only [go_sem]
      refine vCall_of (hO) ?_ ?_ ?_; iterate 2 simp only [go_sem]
      simp only [go_sem]
      refine vCall_of (hJ) ?_ ?_ ?_; iterate 2 simp only [go_sem]
      simp only [go_sem, intc, if_true]
    · have hc' : (c != 0) = true := bne_iff_ne.2 hc
      refine PL.Pure.of_v Tryz.func228 (by decide) rfl Tryz.ntmps228 Tryz.results228 (by simp) (rfl) ?_
      simp only [go_sem]
      refine vCall_of (hO) ?_ ?_ ?_; iterate 2 simp only [go_sem]
      simp only [go_sem]
      refine vCall_of (hJ) ?_ ?_ ?_; iterate 2 simp only [go_sem]
      simp only [go_sem, intc, hc', if_neg hc]
  · rw [if_neg hf] at hO ⊢
    refine PL.Pure.of_v Tryz.func228 (by decide) rfl Tryz.ntmps228 Tryz.results228 (by simp) (rfl) ?_
    simp only [go_sem]
    refine vCall_of (hO) ?_ ?_ ?_; iterate 2 simp only [go_sem]
    simp only [go_sem, intc]
end Go.Proofs.YtnadlkjmdimjkaaGreat

set_option linter.unusedSimpArgs false
set_option linter.unusedVariables false
set_option linter.unusedSimpArgs false
set_option linter.unusedVariables false
namespace Go.Proofs.YtnadlkjmdimjkaaGreat
open Go.PL
def fromM (x : Ln) (f : Fd) (e : En) : En :=
  if x.kind = 6 then ⟨f.at', e.n, (valueM f).l⟩
  else if x.kind = 7 then ⟨f.at', 0, if 0 < (e.l.length : Int) ∧ e.l.getD 0 [] ≠ x.ot then [e.l.getD 0 []] else []⟩
  else if x.kind = 10 then ⟨f.at', 0, if 0 < (e.l.length : Int) then [e.l.getD (e.l.length - 1) []] else (valueM f).l⟩
  else if x.kind = 8 then ⟨f.at', 0, if 0 < (e.l.length : Int) then [(caseM x.fo (e.l.getD 0 [])).1] else (valueM f).l⟩
  else if x.kind = 3 then valueM f
  else ⟨f.at', e.n, e.l⟩
def gotM (x : Ln) (f : Fd) (i : Int) (es : List En) : En × Int :=
  if x.kind = 2 ∨ (x.kind = 6 ∧ 0 < i) then (valueM f, 0) else
  match entM es ((goesR x).getD 0 default) with
  | none => (default, 5)
  | some e =>
    if x.kind = 9 then
      match entM es ((goesR x).getD 1 default) with
      | none => (default, 5)
      | some e2 => if (mergI e.n e2.n x.fac).2 = 0 then (⟨f.at', (mergI e.n e2.n x.fac).1, (valueM f).l⟩, 0) else (default, (mergI e.n e2.n x.fac).2)
    else (fromM x f e, 0)
theorem value_n (f : Fd) : (valueM f).n = 0 := rfl
theorem value_at (f : Fd) : (valueM f).at' = f.at' := rfl
set_option maxRecDepth 20000 in
set_option maxHeartbeats 32000000 in
theorem arrived_pure (x : Ln) (f : Fd) (i : Int) (es : List En) (hx : OkLn x) (hr : rightLn x = true) (hl : es.length ≤ maxLen) (hl' : ∀ e ∈ es, e.l.length ≤ 1000000) : PL.Pure Tryz.prog 189 [lns x, fld f, .int .i64 i, ents es] (entc (gotM x f i es)) := by
  have hV := Value_pure f
  have hG := Goes_pure x hx
  have hgo : goesM x = goesR x := by simp [goesM, hr]
  rw [hgo] at hG
  have hk := (rightLn_kind hr).1
  have hE := fun r => entry_pure es r hl hl'
  have hfo : x.fo.length ≤ maxLen := by have := hx.f; rw [maxLen_eq]; omega
  have hv1 := value_at f
  have hv2 := value_n f
  unfold gotM
  have hmem : ∀ r e, entM es r = some e → e.l.length ≤ 1000000 := fun r e h => hl' e (List.mem_of_find?_eq_some h)
  obtain ⟨kind, at', nm, ot, fac, fd, fo, ba⟩ := x
  simp only at hk hfo ⊢
  clear hgo hr hx hl'
  generalize hvm : valueM f = v at *
  obtain ⟨vat, vn, vl⟩ := v
  simp only at hv1 hv2 ⊢
  subst hv1 hv2
  have hkind : kind = 1 ∨ kind = 2 ∨ kind = 3 ∨ kind = 4 ∨ kind = 5 ∨ kind = 6 ∨ kind = 7 ∨ kind = 8 ∨ kind = 9 ∨ kind = 10 := by omega
  rcases hkind with rfl | rfl | rfl | rfl | rfl | rfl | rfl | rfl | rfl | rfl
  ·
    have hg : goesR ⟨1, at', nm, ot, fac, fd, fo, ba⟩ = [at'] := by simp [goesR]
    rw [hg] at hG ⊢
    rw [if_neg (fun h => by rcases h with h | ⟨h, _⟩ <;> exact absurd h (by decide))]
    have hE0 := hE at'
    simp only [List.getD_cons_zero, List.getD_cons_succ]
    cases hq : entM es at' with
    | none =>
      rw [hq] at hE0
      refine PL.Pure.of_v Tryz.func189 (by decide) rfl Tryz.ntmps189 Tryz.results189 (by simp) (entc_dids _) ?_
      simp only [go_sem, lns, fld]
      refine vCall_of (hV) ?_ ?_ ?_; iterate 2 simp only [go_sem, fld]
      simp only [go_sem, ent, lns]
      refine vCall_of (hG) ?_ ?_ ?_; iterate 2 simp only [go_sem, lns]
      simp only [go_sem, refs, ref, List.map_cons, List.map_nil]
      refine vCall_of (hE0) ?_ ?_ ?_; iterate 2 simp only [go_sem, ents, ref]
      simp only [go_sem, eptc, Option.getD_none, Option.isSome_none, entc, ent]
      rfl
    | some e =>
      rw [hq] at hE0
      have hel := hmem _ e hq
      refine PL.Pure.of_v Tryz.func189 (by decide) rfl Tryz.ntmps189 Tryz.results189 (by simp) (entc_dids _) ?_
      simp only [go_sem, lns, fld]
      refine vCall_of (hV) ?_ ?_ ?_; iterate 2 simp only [go_sem, fld]
      simp only [go_sem, ent, lns]
      refine vCall_of (hG) ?_ ?_ ?_; iterate 2 simp only [go_sem, lns]
      simp only [go_sem, refs, ref, List.map_cons, List.map_nil]
      refine vCall_of (hE0) ?_ ?_ ?_; iterate 2 simp only [go_sem, ents, ref]
      simp only [go_sem, eptc, Option.getD_some, Option.isSome_some, ent]
      refine vDrawS [(12, 10)] (by kernel_rfl) (by kernel_rfl) (by exact rfl) ?_
      simp only [go_sem, entc, ent, fromM, hvm]
  ·
    have hg : goesR ⟨2, at', nm, ot, fac, fd, fo, ba⟩ = [] := by simp [goesR]
    rw [hg] at hG ⊢
    rw [if_pos (.inl rfl)]
    refine PL.Pure.of_v Tryz.func189 (by decide) rfl Tryz.ntmps189 Tryz.results189 (by simp) (entc_dids _) ?_
    simp only [go_sem, lns, fld]
    refine vCall_of (hV) ?_ ?_ ?_; iterate 2 simp only [go_sem, fld]
    simp only [go_sem, ent, lns]
    refine vCall_of (hG) ?_ ?_ ?_; iterate 2 simp only [go_sem, lns]
    simp only [go_sem, refs, ref, List.map_cons, List.map_nil]
    simp only [go_sem, entc, ent]
  ·
    have hg : goesR ⟨3, at', nm, ot, fac, fd, fo, ba⟩ = [fd.at'] := by simp [goesR]
    rw [hg] at hG ⊢
    rw [if_neg (fun h => by rcases h with h | ⟨h, _⟩ <;> exact absurd h (by decide))]
    have hE0 := hE fd.at'
    simp only [List.getD_cons_zero, List.getD_cons_succ]
    cases hq : entM es fd.at' with
    | none =>
      rw [hq] at hE0
      refine PL.Pure.of_v Tryz.func189 (by decide) rfl Tryz.ntmps189 Tryz.results189 (by simp) (entc_dids _) ?_
      simp only [go_sem, lns, fld]
      refine vCall_of (hV) ?_ ?_ ?_; iterate 2 simp only [go_sem, fld]
      simp only [go_sem, ent, lns]
      refine vCall_of (hG) ?_ ?_ ?_; iterate 2 simp only [go_sem, lns]
      simp only [go_sem, refs, ref, List.map_cons, List.map_nil]
      refine vCall_of (hE0) ?_ ?_ ?_; iterate 2 simp only [go_sem, ents, ref]
      simp only [go_sem, eptc, Option.getD_none, Option.isSome_none, entc, ent]
      rfl
    | some e =>
      rw [hq] at hE0
      have hel := hmem _ e hq
      refine PL.Pure.of_v Tryz.func189 (by decide) rfl Tryz.ntmps189 Tryz.results189 (by simp) (entc_dids _) ?_
      simp only [go_sem, lns, fld]
      refine vCall_of (hV) ?_ ?_ ?_; iterate 2 simp only [go_sem, fld]
      simp only [go_sem, ent, lns]
      refine vCall_of (hG) ?_ ?_ ?_; iterate 2 simp only [go_sem, lns]
      simp only [go_sem, refs, ref, List.map_cons, List.map_nil]
      refine vCall_of (hE0) ?_ ?_ ?_; iterate 2 simp only [go_sem, ents, ref]
      simp only [go_sem, eptc, Option.getD_some, Option.isSome_some, ent, entc, fromM, hvm]
  ·
    have hg : goesR ⟨4, at', nm, ot, fac, fd, fo, ba⟩ = [at'] := by simp [goesR]
    rw [hg] at hG ⊢
    rw [if_neg (fun h => by rcases h with h | ⟨h, _⟩ <;> exact absurd h (by decide))]
    have hE0 := hE at'
    simp only [List.getD_cons_zero, List.getD_cons_succ]
    cases hq : entM es at' with
    | none =>
      rw [hq] at hE0
      refine PL.Pure.of_v Tryz.func189 (by decide) rfl Tryz.ntmps189 Tryz.results189 (by simp) (entc_dids _) ?_
      simp only [go_sem, lns, fld]
      refine vCall_of (hV) ?_ ?_ ?_; iterate 2 simp only [go_sem, fld]
      simp only [go_sem, ent, lns]
      refine vCall_of (hG) ?_ ?_ ?_; iterate 2 simp only [go_sem, lns]
      simp only [go_sem, refs, ref, List.map_cons, List.map_nil]
      refine vCall_of (hE0) ?_ ?_ ?_; iterate 2 simp only [go_sem, ents, ref]
      simp only [go_sem, eptc, Option.getD_none, Option.isSome_none, entc, ent]
      rfl
    | some e =>
      rw [hq] at hE0
      have hel := hmem _ e hq
      refine PL.Pure.of_v Tryz.func189 (by decide) rfl Tryz.ntmps189 Tryz.results189 (by simp) (entc_dids _) ?_
      simp only [go_sem, lns, fld]
      refine vCall_of (hV) ?_ ?_ ?_; iterate 2 simp only [go_sem, fld]
      simp only [go_sem, ent, lns]
      refine vCall_of (hG) ?_ ?_ ?_; iterate 2 simp only [go_sem, lns]
      simp only [go_sem, refs, ref, List.map_cons, List.map_nil]
      refine vCall_of (hE0) ?_ ?_ ?_; iterate 2 simp only [go_sem, ents, ref]
      simp only [go_sem, eptc, Option.getD_some, Option.isSome_some, ent]
      refine vDrawS [(12, 10)] (by kernel_rfl) (by kernel_rfl) (by exact rfl) ?_
      simp only [go_sem, entc, ent, fromM, hvm]
  ·
    have hg : goesR ⟨5, at', nm, ot, fac, fd, fo, ba⟩ = [at'] := by simp [goesR]
    rw [hg] at hG ⊢
    rw [if_neg (fun h => by rcases h with h | ⟨h, _⟩ <;> exact absurd h (by decide))]
    have hE0 := hE at'
    simp only [List.getD_cons_zero, List.getD_cons_succ]
    cases hq : entM es at' with
    | none =>
      rw [hq] at hE0
      refine PL.Pure.of_v Tryz.func189 (by decide) rfl Tryz.ntmps189 Tryz.results189 (by simp) (entc_dids _) ?_
      simp only [go_sem, lns, fld]
      refine vCall_of (hV) ?_ ?_ ?_; iterate 2 simp only [go_sem, fld]
      simp only [go_sem, ent, lns]
      refine vCall_of (hG) ?_ ?_ ?_; iterate 2 simp only [go_sem, lns]
      simp only [go_sem, refs, ref, List.map_cons, List.map_nil]
      refine vCall_of (hE0) ?_ ?_ ?_; iterate 2 simp only [go_sem, ents, ref]
      simp only [go_sem, eptc, Option.getD_none, Option.isSome_none, entc, ent]
      rfl
    | some e =>
      rw [hq] at hE0
      have hel := hmem _ e hq
      refine PL.Pure.of_v Tryz.func189 (by decide) rfl Tryz.ntmps189 Tryz.results189 (by simp) (entc_dids _) ?_
      simp only [go_sem, lns, fld]
      refine vCall_of (hV) ?_ ?_ ?_; iterate 2 simp only [go_sem, fld]
      simp only [go_sem, ent, lns]
      refine vCall_of (hG) ?_ ?_ ?_; iterate 2 simp only [go_sem, lns]
      simp only [go_sem, refs, ref, List.map_cons, List.map_nil]
      refine vCall_of (hE0) ?_ ?_ ?_; iterate 2 simp only [go_sem, ents, ref]
      simp only [go_sem, eptc, Option.getD_some, Option.isSome_some, ent]
      refine vDrawS [(12, 10)] (by kernel_rfl) (by kernel_rfl) (by exact rfl) ?_
      simp only [go_sem, entc, ent, fromM, hvm]
  ·
    have hg : goesR ⟨6, at', nm, ot, fac, fd, fo, ba⟩ = [at'] := by simp [goesR]
    rw [hg] at hG ⊢
    by_cases hi : 0 < i
    · rw [if_pos (.inr ⟨rfl, hi⟩)]
      refine PL.Pure.of_v Tryz.func189 (by decide) rfl Tryz.ntmps189 Tryz.results189 (by simp) (entc_dids _) ?_
      simp only [go_sem, lns, fld]
      refine vCall_of (hV) ?_ ?_ ?_; iterate 2 simp only [go_sem, fld]
      simp only [go_sem, ent, lns]
      refine vCall_of (hG) ?_ ?_ ?_; iterate 2 simp only [go_sem, lns]
      simp only [go_sem, refs, ref, List.map_cons, List.map_nil]
      simp only [go_sem, hi, entc, ent]
    · rw [if_neg (fun h => hi (h.elim (fun g => absurd g (by decide)) (·.2)))]
      have hE0 := hE at'
      simp only [List.getD_cons_zero, List.getD_cons_succ]
      cases hq : entM es at' with
      | none =>
        rw [hq] at hE0
        refine PL.Pure.of_v Tryz.func189 (by decide) rfl Tryz.ntmps189 Tryz.results189 (by simp) (entc_dids _) ?_
        simp only [go_sem, lns, fld]
        refine vCall_of (hV) ?_ ?_ ?_; iterate 2 simp only [go_sem, fld]
        simp only [go_sem, ent, lns]
        refine vCall_of (hG) ?_ ?_ ?_; iterate 2 simp only [go_sem, lns]
        simp only [go_sem, hi, refs, ref, List.map_cons, List.map_nil]
        refine vCall_of (hE0) ?_ ?_ ?_; iterate 2 simp only [go_sem, ents, ref]
        simp only [go_sem, eptc, Option.getD_none, Option.isSome_none, entc, ent]
        rfl
      | some e =>
        rw [hq] at hE0
        have hel := hmem _ e hq
        refine PL.Pure.of_v Tryz.func189 (by decide) rfl Tryz.ntmps189 Tryz.results189 (by simp) (entc_dids _) ?_
        simp only [go_sem, lns, fld]
        refine vCall_of (hV) ?_ ?_ ?_; iterate 2 simp only [go_sem, fld]
        simp only [go_sem, ent, lns]
        refine vCall_of (hG) ?_ ?_ ?_; iterate 2 simp only [go_sem, lns]
        simp only [go_sem, hi, refs, ref, List.map_cons, List.map_nil]
        refine vCall_of (hE0) ?_ ?_ ?_; iterate 2 simp only [go_sem, ents, ref]
        simp only [go_sem, eptc, Option.getD_some, Option.isSome_some, ent, entc, fromM, hvm]
  ·
    have hg : goesR ⟨7, at', nm, ot, fac, fd, fo, ba⟩ = [at'] := by simp [goesR]
    rw [hg] at hG ⊢
    rw [if_neg (fun h => by rcases h with h | ⟨h, _⟩ <;> exact absurd h (by decide))]
    have hE0 := hE at'
    simp only [List.getD_cons_zero, List.getD_cons_succ]
    cases hq : entM es at' with
    | none =>
      rw [hq] at hE0
      refine PL.Pure.of_v Tryz.func189 (by decide) rfl Tryz.ntmps189 Tryz.results189 (by simp) (entc_dids _) ?_
      simp only [go_sem, lns, fld]
      refine vCall_of (hV) ?_ ?_ ?_; iterate 2 simp only [go_sem, fld]
      simp only [go_sem, ent, lns]
      refine vCall_of (hG) ?_ ?_ ?_; iterate 2 simp only [go_sem, lns]
      simp only [go_sem, refs, ref, List.map_cons, List.map_nil]
      refine vCall_of (hE0) ?_ ?_ ?_; iterate 2 simp only [go_sem, ents, ref]
      simp only [go_sem, eptc, Option.getD_none, Option.isSome_none, entc, ent]
      rfl
    | some e =>
      rw [hq] at hE0
      have hel := hmem _ e hq
      by_cases h0 : 0 < (e.l.length : Int)
      · have h00 : 0 < e.l.length := by omega
        have gs := getD_str h00
        cases hb : (e.l.getD 0 [] == ot)
        · have hc : ¬ e.l.getD 0 [] = ot := by simpa using hb
          refine PL.Pure.of_v Tryz.func189 (by decide) rfl Tryz.ntmps189 Tryz.results189 (by simp) (entc_dids _) ?_
          simp only [go_sem, lns, fld]
          refine vCall_of (hV) ?_ ?_ ?_; iterate 2 simp only [go_sem, fld]
          simp only [go_sem, ent, lns]
          refine vCall_of (hG) ?_ ?_ ?_; iterate 2 simp only [go_sem, lns]
          simp only [go_sem, refs, ref, List.map_cons, List.map_nil]
          refine vCall_of (hE0) ?_ ?_ ?_; iterate 2 simp only [go_sem, ents, ref]
          simp only [go_sem, eptc, Option.getD_some, Option.isSome_some, ent]
          refine vDrawQ (by kernel_rfl) (by kernel_rfl) ?_
          simp only [go_sem, h0, gs, List.length_map, hb, Bool.not_true, Bool.not_false]
          have hcut : PL.cut (e.l.map PV.str) 0 1 = [.str (e.l.getD 0 [])] := by rcases hl : e.l with _ | ⟨a, t⟩ <;> simp_all [PL.cut]
          have h1 : (1 : Int) ≤ (e.l.length : Int) := by omega
          simp only [go_sem, h1, hcut, sized_str, entc, ent, fromM, hvm, h0, hc, List.map_cons, List.map_nil]
        · have hc :  e.l.getD 0 [] = ot := by simpa using hb
          refine PL.Pure.of_v Tryz.func189 (by decide) rfl Tryz.ntmps189 Tryz.results189 (by simp) (entc_dids _) ?_
          simp only [go_sem, lns, fld]
          refine vCall_of (hV) ?_ ?_ ?_; iterate 2 simp only [go_sem, fld]
          simp only [go_sem, ent, lns]
          refine vCall_of (hG) ?_ ?_ ?_; iterate 2 simp only [go_sem, lns]
          simp only [go_sem, refs, ref, List.map_cons, List.map_nil]
          refine vCall_of (hE0) ?_ ?_ ?_; iterate 2 simp only [go_sem, ents, ref]
          simp only [go_sem, eptc, Option.getD_some, Option.isSome_some, ent]
          refine vDrawQ (by kernel_rfl) (by kernel_rfl) ?_
          simp only [go_sem, h0, gs, List.length_map, hb, Bool.not_true, Bool.not_false]
          simp only [go_sem, entc, ent, fromM, hvm, h0, hc, List.map_nil]
          rfl
      · refine PL.Pure.of_v Tryz.func189 (by decide) rfl Tryz.ntmps189 Tryz.results189 (by simp) (entc_dids _) ?_
        simp only [go_sem, lns, fld]
        refine vCall_of (hV) ?_ ?_ ?_; iterate 2 simp only [go_sem, fld]
        simp only [go_sem, ent, lns]
        refine vCall_of (hG) ?_ ?_ ?_; iterate 2 simp only [go_sem, lns]
        simp only [go_sem, refs, ref, List.map_cons, List.map_nil]
        refine vCall_of (hE0) ?_ ?_ ?_; iterate 2 simp only [go_sem, ents, ref]
        simp only [go_sem, eptc, Option.getD_some, Option.isSome_some, ent]
        refine vDrawQ (by kernel_rfl) (by kernel_rfl) ?_
        simp only [go_sem, h0, List.length_map, entc, ent, fromM, hvm, List.map_nil]
        rfl
  ·
    have hg : goesR ⟨8, at', nm, ot, fac, fd, fo, ba⟩ = [at'] := by simp [goesR]
    rw [hg] at hG ⊢
    rw [if_neg (fun h => by rcases h with h | ⟨h, _⟩ <;> exact absurd h (by decide))]
    have hE0 := hE at'
    simp only [List.getD_cons_zero, List.getD_cons_succ]
    cases hq : entM es at' with
    | none =>
      rw [hq] at hE0
      refine PL.Pure.of_v Tryz.func189 (by decide) rfl Tryz.ntmps189 Tryz.results189 (by simp) (entc_dids _) ?_
      simp only [go_sem, lns, fld]
      refine vCall_of (hV) ?_ ?_ ?_; iterate 2 simp only [go_sem, fld]
      simp only [go_sem, ent, lns]
      refine vCall_of (hG) ?_ ?_ ?_; iterate 2 simp only [go_sem, lns]
      simp only [go_sem, refs, ref, List.map_cons, List.map_nil]
      refine vCall_of (hE0) ?_ ?_ ?_; iterate 2 simp only [go_sem, ents, ref]
      simp only [go_sem, eptc, Option.getD_none, Option.isSome_none, entc, ent]
      rfl
    | some e =>
      rw [hq] at hE0
      have hel := hmem _ e hq
      by_cases h0 : 0 < (e.l.length : Int)
      · have h00 : 0 < e.l.length := by omega
        have gs := getD_str h00
        have hC := Case_pure fo (e.l.getD 0 []) hfo
        refine PL.Pure.of_v Tryz.func189 (by decide) rfl Tryz.ntmps189 Tryz.results189 (by simp) (entc_dids _) ?_
        simp only [go_sem, lns, fld]
        refine vCall_of (hV) ?_ ?_ ?_; iterate 2 simp only [go_sem, fld]
        simp only [go_sem, ent, lns]
        refine vCall_of (hG) ?_ ?_ ?_; iterate 2 simp only [go_sem, lns]
        simp only [go_sem, refs, ref, List.map_cons, List.map_nil]
        refine vCall_of (hE0) ?_ ?_ ?_; iterate 2 simp only [go_sem, ents, ref]
        simp only [go_sem, eptc, Option.getD_some, Option.isSome_some, ent, h0, List.length_map]
        refine vDrawQ (by kernel_rfl) (by kernel_rfl) ?_
        simp only [go_sem, h0, gs, List.length_map]
        refine vCall_of (hC) ?_ ?_ ?_; iterate 2 simp only [go_sem, prs]
        simp only [go_sem, strb, entc, ent, fromM, hvm, h0, List.map_cons, List.map_nil]
      · refine PL.Pure.of_v Tryz.func189 (by decide) rfl Tryz.ntmps189 Tryz.results189 (by simp) (entc_dids _) ?_
        simp only [go_sem, lns, fld]
        refine vCall_of (hV) ?_ ?_ ?_; iterate 2 simp only [go_sem, fld]
        simp only [go_sem, ent, lns]
        refine vCall_of (hG) ?_ ?_ ?_; iterate 2 simp only [go_sem, lns]
        simp only [go_sem, refs, ref, List.map_cons, List.map_nil]
        refine vCall_of (hE0) ?_ ?_ ?_; iterate 2 simp only [go_sem, ents, ref]
        simp only [go_sem, eptc, Option.getD_some, Option.isSome_some, ent, h0, List.length_map, entc, fromM, hvm]
  ·
    have hg : goesR ⟨9, at', nm, ot, fac, fd, fo, ba⟩ = [named at' nm, named at' ot] := by simp [goesR]
    rw [hg] at hG ⊢
    rw [if_neg (fun h => by rcases h with h | ⟨h, _⟩ <;> exact absurd h (by decide))]
    have hE0 := hE (named at' nm)
    simp only [List.getD_cons_zero, List.getD_cons_succ]
    cases hq : entM es (named at' nm) with
    | none =>
      rw [hq] at hE0
      refine PL.Pure.of_v Tryz.func189 (by decide) rfl Tryz.ntmps189 Tryz.results189 (by simp) (entc_dids _) ?_
      simp only [go_sem, lns, fld]
      refine vCall_of (hV) ?_ ?_ ?_; iterate 2 simp only [go_sem, fld]
      simp only [go_sem, ent, lns]
      refine vCall_of (hG) ?_ ?_ ?_; iterate 2 simp only [go_sem, lns]
      simp only [go_sem, refs, ref, List.map_cons, List.map_nil]
      refine vCall_of (hE0) ?_ ?_ ?_; iterate 2 simp only [go_sem, ents, ref]
      simp only [go_sem, eptc, Option.getD_none, Option.isSome_none, entc, ent]
      rfl
    | some e =>
      rw [hq] at hE0
      have hel := hmem _ e hq
      have hE1 := hE (named at' ot)
      cases hq1 : entM es (named at' ot) with
      | none =>
        rw [hq1] at hE1
        refine PL.Pure.of_v Tryz.func189 (by decide) rfl Tryz.ntmps189 Tryz.results189 (by simp) (entc_dids _) ?_
        simp only [go_sem, lns, fld]
        refine vCall_of (hV) ?_ ?_ ?_; iterate 2 simp only [go_sem, fld]
        simp only [go_sem, ent, lns]
        refine vCall_of (hG) ?_ ?_ ?_; iterate 2 simp only [go_sem, lns]
        simp only [go_sem, refs, ref, List.map_cons, List.map_nil]
        refine vCall_of (hE0) ?_ ?_ ?_; iterate 2 simp only [go_sem, ents, ref]
        simp only [go_sem, eptc, Option.getD_some, Option.isSome_some, ent]
        refine vCall_of (hE1) ?_ ?_ ?_; iterate 2 simp only [go_sem, ents, ref]
        simp only [go_sem, eptc, Option.getD_none, Option.isSome_none, entc, ent]
        rfl
      | some e2 =>
        rw [hq1] at hE1
        have hM := pmerged_pure e.n e2.n fac
        simp only [if_true]
        generalize mergI e.n e2.n fac = mg at *
        obtain ⟨mv, mc⟩ := mg
        simp only at hM ⊢
        by_cases hc : mc = 0
        · subst hc
          refine PL.Pure.of_v Tryz.func189 (by decide) rfl Tryz.ntmps189 Tryz.results189 (by simp) (entc_dids _) ?_
          simp only [go_sem, lns, fld]
          refine vCall_of (hV) ?_ ?_ ?_; iterate 2 simp only [go_sem, fld]
          simp only [go_sem, ent, lns]
          refine vCall_of (hG) ?_ ?_ ?_; iterate 2 simp only [go_sem, lns]
          simp only [go_sem, refs, ref, List.map_cons, List.map_nil]
          refine vCall_of (hE0) ?_ ?_ ?_; iterate 2 simp only [go_sem, ents, ref]
          simp only [go_sem, eptc, Option.getD_some, Option.isSome_some, ent]
          refine vCall_of (hE1) ?_ ?_ ?_; iterate 2 simp only [go_sem, ents, ref]
          simp only [go_sem, eptc, Option.getD_some, Option.isSome_some, ent]
          refine vCall_of (hM) ?_ ?_ ?_; iterate 2 simp only [go_sem]
          simp only [go_sem, intc, entc, ent]
        · have hc' : (mc != 0) = true := bne_iff_ne.2 hc
          rw [if_neg hc]
          refine PL.Pure.of_v Tryz.func189 (by decide) rfl Tryz.ntmps189 Tryz.results189 (by simp) (entc_dids _) ?_
          simp only [go_sem, lns, fld]
          refine vCall_of (hV) ?_ ?_ ?_; iterate 2 simp only [go_sem, fld]
          simp only [go_sem, ent, lns]
          refine vCall_of (hG) ?_ ?_ ?_; iterate 2 simp only [go_sem, lns]
          simp only [go_sem, refs, ref, List.map_cons, List.map_nil]
          refine vCall_of (hE0) ?_ ?_ ?_; iterate 2 simp only [go_sem, ents, ref]
          simp only [go_sem, eptc, Option.getD_some, Option.isSome_some, ent]
          refine vCall_of (hE1) ?_ ?_ ?_; iterate 2 simp only [go_sem, ents, ref]
          simp only [go_sem, eptc, Option.getD_some, Option.isSome_some, ent]
          refine vCall_of (hM) ?_ ?_ ?_; iterate 2 simp only [go_sem]
          simp only [go_sem, intc, hc', entc, ent]
          rfl
  ·
    have hg : goesR ⟨10, at', nm, ot, fac, fd, fo, ba⟩ = [at'] := by simp [goesR]
    rw [hg] at hG ⊢
    rw [if_neg (fun h => by rcases h with h | ⟨h, _⟩ <;> exact absurd h (by decide))]
    have hE0 := hE at'
    simp only [List.getD_cons_zero, List.getD_cons_succ]
    cases hq : entM es at' with
    | none =>
      rw [hq] at hE0
      refine PL.Pure.of_v Tryz.func189 (by decide) rfl Tryz.ntmps189 Tryz.results189 (by simp) (entc_dids _) ?_
      simp only [go_sem, lns, fld]
      refine vCall_of (hV) ?_ ?_ ?_; iterate 2 simp only [go_sem, fld]
      simp only [go_sem, ent, lns]
      refine vCall_of (hG) ?_ ?_ ?_; iterate 2 simp only [go_sem, lns]
      simp only [go_sem, refs, ref, List.map_cons, List.map_nil]
      refine vCall_of (hE0) ?_ ?_ ?_; iterate 2 simp only [go_sem, ents, ref]
      simp only [go_sem, eptc, Option.getD_none, Option.isSome_none, entc, ent]
      rfl
    | some e =>
      rw [hq] at hE0
      have hel := hmem _ e hq
      by_cases h0 : 0 < (e.l.length : Int)
      · have h00 : 0 < e.l.length := by omega
        have w1 : IntKind.i64.wrap ((e.l.length : Int) - 1) = ((e.l.length - 1 : Nat) : Int) := by rw [w64 (by omega)]; omega
        have gs := getD_str (show e.l.length - 1 < e.l.length by omega)
        have j1 : (0 : Int) ≤ ((e.l.length - 1 : Nat) : Int) := by omega
        have j2 : ((e.l.length - 1 : Nat) : Int) < (e.l.length : Int) := by omega
        refine PL.Pure.of_v Tryz.func189 (by decide) rfl Tryz.ntmps189 Tryz.results189 (by simp) (entc_dids _) ?_
        simp only [go_sem, lns, fld]
        refine vCall_of (hV) ?_ ?_ ?_; iterate 2 simp only [go_sem, fld]
        simp only [go_sem, ent, lns]
        refine vCall_of (hG) ?_ ?_ ?_; iterate 2 simp only [go_sem, lns]
        simp only [go_sem, refs, ref, List.map_cons, List.map_nil]
        refine vCall_of (hE0) ?_ ?_ ?_; iterate 2 simp only [go_sem, ents, ref]
        simp only [go_sem, eptc, Option.getD_some, Option.isSome_some, ent, h0, List.length_map, w1, j1, j2, gs, entc, fromM, hvm, List.map_cons, List.map_nil]
      · refine PL.Pure.of_v Tryz.func189 (by decide) rfl Tryz.ntmps189 Tryz.results189 (by simp) (entc_dids _) ?_
        simp only [go_sem, lns, fld]
        refine vCall_of (hV) ?_ ?_ ?_; iterate 2 simp only [go_sem, fld]
        simp only [go_sem, ent, lns]
        refine vCall_of (hG) ?_ ?_ ?_; iterate 2 simp only [go_sem, lns]
        simp only [go_sem, refs, ref, List.map_cons, List.map_nil]
        refine vCall_of (hE0) ?_ ?_ ?_; iterate 2 simp only [go_sem, ents, ref]
        simp only [go_sem, eptc, Option.getD_some, Option.isSome_some, ent, h0, List.length_map, entc, fromM, hvm]
end Go.Proofs.YtnadlkjmdimjkaaGreat

set_option linter.unusedSimpArgs false
set_option linter.unusedVariables false
set_option linter.unusedSimpArgs false
set_option linter.unusedVariables false
namespace Go.Proofs.YtnadlkjmdimjkaaGreat
open Go.PL
/-- joined by the reference's road -/
theorem merg_ref {u p f : Int} (hf : 2 ≤ f ∧ f ≤ 1000) (hu : Lim u) (hp : Lim p) : IntKind.i64.wrap (p * f) = p * f ∧ IntKind.i64.wrap (u + IntKind.i64.wrap (p * f)) = u + p * f ∧ mergI u p f = if fitsI (p * f) = true ∧ fitsI (u + p * f) = true then (u + p * f, 0) else (0, 3) := by
  have m := mostOf_spec (w := f) (by omega)
  unfold Lim at hu hp
  have b1 : -4503599627370496000 ≤ p * f ∧ p * f ≤ 4503599627370496000 := by
    have p1 : p * f ≤ 4503599627370496 * f := Int.mul_le_mul_of_nonneg_right hp.2 (by omega)
    have p2 : (-4503599627370496) * f ≤ p * f := Int.mul_le_mul_of_nonneg_right hp.1 (by omega)
    omega
  have c : f * p = p * f := Int.mul_comm _ _
  have w1 : IntKind.i64.wrap (p * f) = p * f := wrap_id (by omega)
  have w2 : IntKind.i64.wrap (u + IntKind.i64.wrap (p * f)) = u + p * f := by rw [w1]; exact wrap_id (by omega)
  refine ⟨w1, w2, ?_⟩
  have hj : joinI u p f = if p < - mostOf f ∨ mostOf f < p then (0, 3) else if fitsI (u + p * f) = true then (u + p * f, 0) else (0, 3) := by
    unfold joinI
    rw [if_neg (fun h => h hf), c, w2]
  unfold mergI
  rw [if_pos ⟨fitsI_iff.2 hu, fitsI_iff.2 hp⟩, hj]
  by_cases h1 : p < - mostOf f ∨ mostOf f < p
  · have hn : ¬ fitsI (p * f) = true := fun h => by
      rw [fitsI_iff] at h
      unfold Lim at h
      rcases h1 with h1 | h1
      · have p1 : p * f ≤ (- mostOf f - 1) * f := Int.mul_le_mul_of_nonneg_right (by omega) (by omega)
        have e1 : (- mostOf f - 1) * f = - ((mostOf f + 1) * f) := by rw [← Int.neg_mul]; congr 1; omega
        omega
      · have p1 : (mostOf f + 1) * f ≤ p * f := Int.mul_le_mul_of_nonneg_right (by omega) (by omega)
        omega
    rw [if_pos h1]
    simp [hn]
  · have hy : fitsI (p * f) = true := by
      rw [fitsI_iff]
      unfold Lim
      have p1 : p * f ≤ mostOf f * f := Int.mul_le_mul_of_nonneg_right (by omega) (by omega)
      have p2 : (- mostOf f) * f ≤ p * f := Int.mul_le_mul_of_nonneg_right (by omega) (by omega)
      have e1 : (- mostOf f) * f = - (mostOf f * f) := Int.neg_mul _ _
      omega
    rw [if_neg h1]
    by_cases h2 : fitsI (u + p * f) = true
    · simp [hy, h2]
    · simp [h2]
structure GotOk (x : Ln) (f : Fd) (i : Int) (es : List En) : Prop where
  h3 : x.kind ≠ 3
  hi : 0 ≤ i ∧ i ≤ 1
  e1 : x.kind ≠ 2 → ∃ e, entM es ((goesR x).getD 0 default) = some e ∧ ((x.kind = 7 ∨ x.kind = 8) → 0 < e.l.length) ∧ (x.kind = 9 → Lim e.n)
  e2 : x.kind = 9 → (∃ e, entM es ((goesR x).getD 1 default) = some e ∧ Lim e.n) ∧ 2 ≤ x.fac ∧ x.fac ≤ 1000
  v1 : x.kind = 6 ∨ x.kind = 9 → (valueM f).l = []
  v10 : x.kind = 10 → (valueM f).l = [x.ot]
end Go.Proofs.YtnadlkjmdimjkaaGreat
