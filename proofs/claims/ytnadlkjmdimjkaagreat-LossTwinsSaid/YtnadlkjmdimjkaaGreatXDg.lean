/- Contracts of functions and laws of this seat, each for every input that it names: lemmas of the proof. -/
import Derived.Test.YtnadlkjmdimjkaaGreatXDc
import Derived.Test.YtnadlkjmdimjkaaGreatXBx
import Derived.Test.YtnadlkjmdimjkaaGreatXCt
set_option linter.unusedSimpArgs false
set_option linter.unusedVariables false
set_option linter.unusedSimpArgs false
set_option linter.unusedVariables false
namespace Go.Proofs.YtnadlkjmdimjkaaGreat
open Go.PL
def lnC (x : Ln) : List PV := [.int .i64 x.kind, .int .i64 x.at'.sc, .str x.at'.gr, .str x.at'.nm, .str x.nm, .str x.ot, .int .i64 x.fac, .int .i64 x.fd.at'.sc, .str x.fd.at'.gr, .str x.fd.at'.nm, .int .i64 x.fd.kind, .str x.fd.df, .sl .no (x.fd.cases'.map .str), .int .i64 x.fd.worth, .sl .no (x.fo.map pr), .sl .no (x.ba.map pr)]
def oneM (x : Ln) (es : List En) (f : Fd) : En × Int :=
  if placeI (comesR x) f.at' < 0 then (match entM es f.at' with | none => (default, 5) | some e => (e, 0)) else gotM x f (placeI (comesR x) f.at') es
def badOne (x : Ln) (es : List En) (f : Fd) : Bool := (oneM x es f).2 != 0
def projE (x : Ln) (fs : List Fd) (es : List En) : List En × Int :=
  match fs.find? (badOne x es) with
  | some f => ([], (oneM x es f).2)
  | none => (fs.map fun f => (oneM x es f).1, 0)
def entsc (y : List En × Int) : PV := .tup [ents y.1, .int .i64 y.2]
theorem entsc_dids (y : List En × Int) : (entsc y).dids = [] := by simp only [entsc, PV.dids, PV.didsL, ents_dids, List.append_nil]
set_option maxRecDepth 20000 in
set_option maxHeartbeats 32000000 in
theorem entries_pure (fs : List Fd) (x : Ln) (es : List En) (hx : OkLn x) (hr : rightLn x = true) (hf : fs.length ≤ 100000) (hl : es.length ≤ maxLen) (hl' : ∀ e ∈ es, e.l.length ≤ 1000000) : PL.Pure Tryz.prog 135 [flds fs, lns x, ents es] (entsc (projE x fs es)) := by
  have hm : fs.length ≤ maxLen := by rw [maxLen_eq]; omega
  have hC := Comes_pure x hx
  have hco : comesM x = comesR x := by simp [comesM, hr]
  rw [hco] at hC
  have hcl := comesR_len x
  have hr0 := room1 (show fs.length ≤ 1000000 by omega) (show 72 ≤ 1000 by omega)
  refine PL.Pure.of_v Tryz.func135 (by decide) rfl Tryz.ntmps135 Tryz.results135 (by simp) (entsc_dids _) ?_
  simp only [go_sem, flds, lns, ents]
  refine vCall_of (hC) ?_ ?_ ?_; iterate 2 simp only [go_sem, lns]
  simp only [go_sem, flds, List.length_map, hr0, hm]
  refine ⟨by omega, ?_⟩
  refine awp_moveRow 9 21 48 0 5 128 [] rfl rfl rfl ?_
  refine vLoopM (ι := { y : Nat × Bool // y.1 ≤ fs.length ∧ ∀ j, j < y.1 → badOne x es (fs.getD j default) = false }) 64 (fun y => [(2, ents es), (4, .ptr 4 0), (8, refs (comesR x)), (9, .sl (.row (cond y.1.2 48 61)) (((fs.take y.1.1).map fun f => (oneM x es f).1).map ent)), (22, flds fs), (23, .int .i64 (fs.length : Int)), (24, .int .i64 (y.1.1 : Int))]) (fun y => [(4, lnC x, false)]) (fun y => [(cond y.1.2 48 61, .live y.1.1 5 128)]) (fun y => fs.length - y.1.1) ⟨(0, true), Nat.zero_le _, fun j hj => absurd hj (Nat.not_lt_zero j)⟩
    ⟨rfl, (forall_cons rfl (forall_cons rfl (forall_cons rfl (forall_cons rfl (forall_cons rfl (forall_cons rfl (forall_cons rfl (forall_nil)))))))), forall_cons ⟨rfl, rfl⟩ forall_nil, (forall_cons rfl (forall_nil))⟩ (fun y => ⟨forall_cons rfl (forall_cons rfl (forall_cons rfl (forall_cons (by simp [PV.ids, refInM]) (forall_cons rfl (forall_cons rfl (forall_cons rfl (forall_nil))))))), forall_cons rfl forall_nil⟩) (fun y => ?_)
  obtain ⟨⟨k, rb⟩, hk, hI⟩ := y
  simp only at hk hI ⊢
  by_cases h : (k : Int) < (fs.length : Int)
  · have hka : k < fs.length := by omega
    have w1 := w64s hka hm
    have i1 : (0 : Int) ≤ (k : Int) := by omega
    have hlen : ((fs.take k).map fun f => (oneM x es f).1).length = k := by simp; omega
    have hrm := room1 (show k + 1 ≤ 1000000 by omega) (show 72 ≤ 1000 by omega)
    have hP : PL.Pure Tryz.prog 161 [refs (comesR x), ref (fs.getD k default).at'] (.int .i64 (placeI (comesR x) (fs.getD k default).at')) := IdxRef_pure (comesR x) (fs.getD k default).at' (by rw [maxLen_eq]; omega)
    have hA := arrived_pure x (fs.getD k default) (placeI (comesR x) (fs.getD k default).at') es hx hr hl hl'
    have hE := entry_pure es (fs.getD k default).at' hl hl'
    have hdef : oneM x es (fs.getD k default) = if placeI (comesR x) (fs.getD k default).at' < 0 then (match entM es (fs.getD k default).at' with | none => (default, 5) | some e => (e, 0)) else gotM x (fs.getD k default) (placeI (comesR x) (fs.getD k default).at') es := rfl
    have gk := getD_fld hka
    have hsn : ((fs.take (k + 1)).map fun f => (oneM x es f).1).map ent = ((fs.take k).map fun f => (oneM x es f).1).map ent ++ [ent (oneM x es (fs.getD k default)).1] := by
      rw [take_snoc (d := default) hka, List.map_append, List.map_append]; rfl
    by_cases hp : placeI (comesR x) (fs.getD k default).at' < 0
    · have hp' : ¬ (0 : Int) ≤ placeI (comesR x) (fs.getD k default).at' := by omega
      rw [if_pos hp] at hdef
      generalize placeI (comesR x) (fs.getD k default).at' = at' at *
      cases hq : entM es (fs.getD k default).at' with
      | none =>
        rw [hq] at hE hdef
        simp only at hdef
        have hb : badOne x es (fs.getD k default) = true := by unfold badOne; rw [hdef]; rfl
        have hres : projE x fs es = ([], 5) := by unfold projE; rw [find_found hka hI hb]; simp only [hdef]
        cases rb
        all_goals
          simp only [cond_true, cond_false]
          simp only [go_sem, flds, h, gk, fld, i1, refs]
          refine vCall_of (hP) ?_ ?_ ?_; iterate 2 simp only [go_sem, refs, ref]
          simp only [go_sem, hp', ents]
          refine vCall_of (hE) ?_ ?_ ?_; iterate 2 simp only [go_sem, ents, ref]
          simp only [go_sem, eptc, Option.getD_none, Option.isSome_none, ent_default, hres, entsc, ents, List.map_nil]
      | some e =>
        rw [hq] at hE hdef
        simp only at hdef
        have hb : badOne x es (fs.getD k default) = false := by unfold badOne; rw [hdef]; rfl
        cases rb
        all_goals
          simp only [cond_true, cond_false]
          simp only [go_sem, flds, h, gk, fld, i1, refs]
          refine vCall_of (hP) ?_ ?_ ?_; iterate 2 simp only [go_sem, refs, ref]
          simp only [go_sem, hp', ents]
          refine vCall_of (hE) ?_ ?_ ?_; iterate 2 simp only [go_sem, ents, ref]
          simp only [go_sem, eptc, Option.getD_some, Option.isSome_some, ent, List.length_map, hlen, hrm, sized_ent, w1]
          refine ⟨⟨(k + 1, false), by show k + 1 ≤ fs.length; omega, below_succ (p := fun j => badOne x es (fs.getD j default) = false) hI hb⟩, by show fs.length - (k + 1) < fs.length - k; omega, ⟨rfl, forall_cons rfl (forall_cons rfl (forall_cons rfl (forall_cons ?_ (forall_cons rfl (forall_cons rfl (forall_cons rfl (forall_nil))))))), forall_cons ⟨rfl, rfl⟩ forall_nil, (forall_cons rfl (forall_nil))⟩⟩
          show PV.sl (.row 61) _ = PV.sl (.row 61) _
          rw [hsn, hdef]
          rfl
    · have hp' : (0 : Int) ≤ placeI (comesR x) (fs.getD k default).at' := by omega
      rw [if_neg hp] at hdef
      generalize placeI (comesR x) (fs.getD k default).at' = at' at *
      rw [← hdef] at hA
      cases hb : badOne x es (fs.getD k default)
      · have hc : (oneM x es (fs.getD k default)).2 = 0 := by unfold badOne at hb; simpa using hb
        generalize oneM x es (fs.getD k default) = y at *
        obtain ⟨y1, y2⟩ := y
        simp only at hc hA hsn
        subst hc
        cases rb
        all_goals
          simp only [cond_true, cond_false]
          simp only [go_sem, flds, h, gk, fld, i1, refs]
          refine vCall_of (hP) ?_ ?_ ?_; iterate 2 simp only [go_sem, refs, ref]
          simp only [go_sem, hp', ents, lnC]
          refine vCall_of (hA) ?_ ?_ ?_; iterate 2 simp only [go_sem, lns, fld, ents]
          simp only [go_sem, entc, ent, List.length_map, hlen, hrm, sized_ent, w1]
          refine ⟨⟨(k + 1, true), by show k + 1 ≤ fs.length; omega, below_succ (p := fun j => badOne x es (fs.getD j default) = false) hI hb⟩, by show fs.length - (k + 1) < fs.length - k; omega, ⟨rfl, forall_cons rfl (forall_cons rfl (forall_cons rfl (forall_cons ?_ (forall_cons rfl (forall_cons rfl (forall_cons rfl (forall_nil))))))), forall_cons ⟨rfl, rfl⟩ forall_nil, (forall_cons rfl (forall_nil))⟩⟩
          show PV.sl (.row 48) _ = PV.sl (.row 48) _
          rw [hsn]
          rfl
      · have hc : ((oneM x es (fs.getD k default)).2 != 0) = true := hb
        have hres : projE x fs es = ([], (oneM x es (fs.getD k default)).2) := by unfold projE; rw [find_found hka hI hb]
        generalize oneM x es (fs.getD k default) = y at *
        obtain ⟨y1, y2⟩ := y
        simp only at hc hA hres
        cases rb
        all_goals
          simp only [cond_true, cond_false]
          simp only [go_sem, flds, h, gk, fld, i1, refs]
          refine vCall_of (hP) ?_ ?_ ?_; iterate 2 simp only [go_sem, refs, ref]
          simp only [go_sem, hp', ents, lnC]
          refine vCall_of (hA) ?_ ?_ ?_; iterate 2 simp only [go_sem, lns, fld, ents]
          simp only [go_sem, entc, ent, hc, hres, entsc, ents, List.map_nil]
  · obtain rfl : k = fs.length := by omega
    have hres : projE x fs es = (fs.map fun f => (oneM x es f).1, 0) := by unfold projE; rw [find_none (d := default) (fun j hj => hI j hj)]
    rw [List.take_length]
    cases rb
    all_goals
      simp only [cond_true, cond_false]
      simp only [go_sem, h, hres, entsc, ents]
/-- what the reference's road asks of a field -/
def OneOk (x : Ln) (es : List En) (f : Fd) : Prop := if placeI (comesR x) f.at' < 0 then (∃ e, entM es f.at' = some e) else GotOk x f (placeI (comesR x) f.at') es
end Go.Proofs.YtnadlkjmdimjkaaGreat

set_option linter.unusedSimpArgs false
set_option linter.unusedVariables false
set_option linter.unusedSimpArgs false
set_option linter.unusedVariables false
namespace Go.Proofs.YtnadlkjmdimjkaaGreat
open Go.PL
structure OkDc (d : Dc) : Prop where
  h : d.head.length ≤ 100000
  r : d.rows.length ≤ 100000
  e : ∀ e ∈ d.head, e.l.length ≤ 1000000
  s : ∀ r ∈ d.rows, r.l.length ≤ 100000 ∧ ∀ e ∈ r.l, e.l.length ≤ 1000000
theorem OkDc.fine {d : Dc} (h : OkDc d) : Fine d := by
  have e := maxLen_eq
  refine ⟨by have := h.h; omega, by have := h.r; omega, fun x hx => by have := h.e x hx; omega, fun r hr => ⟨by have := (h.s r hr).1; omega, fun x hx => by have := (h.s r hr).2 x hx; omega⟩⟩
def badRow (x : Ln) (fs : List Fd) (r : Rw) : Bool := (projE x fs r.l).2 != 0
def newRow (x : Ln) (fs : List Fd) (r : Rw) : Rw := ⟨r.item, (projE x fs r.l).1⟩
def overP (l : List Fd) (x : Ln) (d : Dc) : Dc × Int :=
  if (applyM l x).2 ≠ 0 then (default, (applyM l x).2) else if rightD l d = false then (default, 5) else
  if (projE x (scopeM (applyM l x).1 0) d.head).2 ≠ 0 then (default, (projE x (scopeM (applyM l x).1 0) d.head).2) else
  match d.rows.find? (badRow x (scopeM (applyM l x).1 1)) with
  | some r => (default, (projE x (scopeM (applyM l x).1 1) r.l).2)
  | none => (⟨(projE x (scopeM (applyM l x).1 0) d.head).1, d.rows.map (newRow x (scopeM (applyM l x).1 1))⟩, 0)
def docc (y : Dc × Int) : PV := .tup [doc y.1, .int .i64 y.2]
theorem docc_dids (y : Dc × Int) : (docc y).dids = [] := by simp only [docc, PV.dids, PV.didsL, doc_dids, List.append_nil]
theorem apply_right {l : List Fd} {x : Ln} (h : (applyM l x).2 = 0) : rightL l = true ∧ rightLn x = true := by
  unfold applyM at h
  split at h
  · cases h
  · rename_i hn
    simp only [not_or, Bool.not_eq_false] at hn
    exact hn
theorem doc_default : doc default = .agg [.sl .no [], .sl .no []] := rfl
set_option maxRecDepth 20000 in
set_option maxHeartbeats 32000000 in
theorem POver_pure (l : List Fd) (x : Ln) (d : Dc) (hl : OkFs l) (hx : OkLn x) (hd : OkDc d) : PL.Pure Tryz.prog 73 [flds l, lns x, doc d] (docc (overP l x d)) := by
  have hA := Apply_pure l x hl hx
  have hR := DRight_pure l d (by have := hl.n; rw [maxLen_eq]; omega) hl.c hd.fine
  have okM := okApply hl hx
  unfold overP
  by_cases hc : (applyM l x).2 = 0
  · obtain ⟨rl, rx⟩ := apply_right hc
    rw [if_neg (fun h => h hc)]
    generalize applyM l x = ap at *
    obtain ⟨m, c⟩ := ap
    simp only at hc okM ⊢
    subst hc
    cases hrd : rightD l d
    · rw [hrd] at hR
      rw [if_pos rfl]
      refine PL.Pure.of_v Tryz.func73 (by decide) rfl Tryz.ntmps73 Tryz.results73 (by simp) (docc_dids _) ?_
      simp only [go_sem, flds, lns, doc]
      refine vCall_of (hA) ?_ ?_ ?_; iterate 2 simp only [go_sem, flds, lns]
      simp only [go_sem, fldsc, flds]
      refine vCall_of (hR) ?_ ?_ ?_; iterate 2 simp only [go_sem, flds, doc]
      simp only [go_sem, docc, doc]
      rfl
    · rw [hrd] at hR
      rw [if_neg (by decide)]
      have hs0 : (scopeM m 0).length ≤ 100000 := Nat.le_trans (List.length_filter_le _ _) (by have := okM.n; omega)
      have hs1 : (scopeM m 1).length ≤ 100000 := Nat.le_trans (List.length_filter_le _ _) (by have := okM.n; omega)
      have hS0 := Scope_pure m 0 (by have := okM.n; omega) okM.c
      have hS1 := Scope_pure m 1 (by have := okM.n; omega) okM.c
      have hE0 := entries_pure (scopeM m 0) x d.head hx rx hs0 (by have := hd.h; rw [maxLen_eq]; omega) hd.e
      generalize scopeM m 0 = m0 at *
      generalize scopeM m 1 = m1 at *
      generalize hpe : projE x m0 d.head = pe at *
      obtain ⟨es0, c0⟩ := pe
      simp only
      by_cases hc0 : c0 = 0
      · subst hc0
        rw [if_neg (fun h => h rfl)]
        obtain ⟨hd0, rws⟩ := d
        simp only at hpe hE0
        have hrm : rws.length ≤ maxLen := by have := hd.r; rw [maxLen_eq]; simp only at this; omega
        have hok := hd.s
        simp only at hok
        have hrl : rws.length ≤ 100000 := hd.r
        refine PL.Pure.of_v Tryz.func73 (by decide) rfl Tryz.ntmps73 Tryz.results73 (by simp) (docc_dids _) ?_
        simp only [go_sem, flds, lns, doc]
        refine vCall_of (hA) ?_ ?_ ?_; iterate 2 simp only [go_sem, flds, lns]
        simp only [go_sem, fldsc, flds]
        refine vCall_of (hR) ?_ ?_ ?_; iterate 2 simp only [go_sem, flds, doc]
        simp only [go_sem]
        refine vDrawS [(4, 10), (5, 10)] (by kernel_rfl) (by kernel_rfl) (by exact rfl) ?_
        simp only [go_sem, flds]
        refine vCall_of (hS0) ?_ ?_ ?_; iterate 2 simp only [go_sem, flds]
        simp only [go_sem, flds, lnC]
        refine vCall_of (hE0) ?_ ?_ ?_; iterate 2 simp only [go_sem, flds, lns, ents]
        simp only [go_sem, entsc, ents, flds]
        refine vCall_of (hS1) ?_ ?_ ?_; iterate 2 simp only [go_sem, flds]
        simp only [go_sem, flds]
        refine vLoopM (ι := { k : Nat // k ≤ rws.length ∧ ∀ j, j < k → badRow x m1 (rws.getD j default) = false }) 77 (fun y => [(4, .ptr 4 0), (6, .ptr 6 0), (10, .ptr 10 0), (11, flds m1), (48, .sl .no (rws.map row)), (49, .int .i64 (rws.length : Int)), (50, .int .i64 (y.1 : Int))]) (fun y => [(4, lnC x, false), (6, [.sl .nil [], .sl .nil []], false), (10, [.sl .no (es0.map ent), gatC 73 (rws.map (newRow x m1)) y.1], false)]) (fun y => gatR 73 y.1) (fun y => rws.length - y.1) ⟨0, Nat.zero_le _, fun j hj => absurd hj (Nat.not_lt_zero j)⟩
          ⟨rfl, (forall_cons rfl (forall_cons rfl (forall_cons rfl (forall_cons rfl (forall_cons rfl (forall_cons rfl (forall_cons rfl (forall_nil)))))))), forall_cons ⟨rfl, rfl⟩ (forall_cons ⟨rfl, rfl⟩ (forall_cons ⟨rfl, rfl⟩ forall_nil)), forall_nil⟩ (fun y => ?_) (fun y => ?_)
        · obtain ⟨k, hk⟩ := y
          cases k with
          | zero => exact ⟨(forall_cons rfl (forall_cons rfl (forall_cons rfl (forall_cons rfl (forall_cons rfl (forall_cons rfl (forall_cons rfl (forall_nil)))))))), forall_cons rfl (forall_cons rfl (forall_cons rfl forall_nil))⟩
          | succ k => exact ⟨(forall_cons rfl (forall_cons rfl (forall_cons rfl (forall_cons rfl (forall_cons rfl (forall_cons rfl (forall_cons rfl (forall_nil)))))))), forall_cons rfl (forall_cons rfl (forall_cons (by simp [gatC, gatR, PV.ids, PV.idsL, refInM]) forall_nil))⟩
        obtain ⟨k, hk, hI⟩ := y
        simp only at hI ⊢
        have hnl : (rws.map (newRow x m1)).length = rws.length := List.length_map _
        by_cases h : (k : Int) < (rws.length : Int)
        · have hka : k < rws.length := by omega
          have w1 := w64s hka hrm
          have i1 : (0 : Int) ≤ (k : Int) := by omega
          have rk := hok _ (getD_mem' (d := default) hka)
          have hE1 := entries_pure m1 x (rws.getD k default).l hx rx hs1 (by have := rk.1; rw [maxLen_eq]; omega) rk.2
          have gk := getD_row' hka
          have hkb : k < (rws.map (newRow x m1)).length := by omega
          have hgn : (rws.map (newRow x m1)).getD k default = newRow x m1 (rws.getD k default) := by
            rw [getD_lt hkb, getD_lt hka]; simp
          have hsn : ((rws.map (newRow x m1)).take (k + 1)).map row = ((rws.map (newRow x m1)).take k).map row ++ [row (newRow x m1 (rws.getD k default))] := by
            rw [take_snoc (d := default) hkb, List.map_append, hgn]; rfl
          have hr0 := room1 (show 1 ≤ 1000000 by omega) (show 40 ≤ 1000 by omega)
          have hl3 : ((rws.map (newRow x m1)).take k).length = k := by rw [List.length_take]; omega
          cases hb : badRow x m1 (rws.getD k default)
          · have hb2 : (projE x m1 (rws.getD k default).l).2 = 0 := by unfold badRow at hb; simpa using hb
            have hnr : newRow x m1 (rws.getD k default) = ⟨(rws.getD k default).item, (projE x m1 (rws.getD k default).l).1⟩ := rfl
            generalize projE x m1 (rws.getD k default).l = py at *
            obtain ⟨es1, c1⟩ := py
            simp only at hb2 hnr hE1
            subst hb2
            cases k with
            | zero =>
              have h' : (0 : Int) < (rws.length : Int) := by simpa using h
              have w0 : IntKind.i64.wrap 1 = 1 := w64 (by omega)
              simp only [go_sem, gatC, gatR, h', gk, row, i1, lnC, flds]
              refine vCall_of (hE1) ?_ ?_ ?_; iterate 2 simp only [go_sem, flds, lns, ents]
              simp only [go_sem, entsc, ents, w1, w0]
              refine ⟨hr0, ⟨⟨0 + 1, by omega, below_succ (p := fun j => badRow x m1 (rws.getD j default) = false) hI hb⟩, by show rws.length - (0 + 1) < rws.length - 0; omega, ⟨rfl, (forall_cons rfl (forall_cons rfl (forall_cons rfl (forall_cons rfl (forall_cons rfl (forall_cons rfl (forall_cons rfl (forall_nil)))))))), forall_cons ⟨rfl, rfl⟩ (forall_cons ⟨rfl, rfl⟩ (forall_cons ⟨?_, rfl⟩ forall_nil)), forall_cons rfl forall_nil⟩⟩⟩
              show some [PV.sl .no _, PV.sl (.row 73) _] = some [PV.sl .no _, PV.sl (.row 73) _]
              rw [hsn, hnr]
              rfl
            | succ k =>
              have hr := room1 (show k + 1 + 1 ≤ 1000000 by omega) (show 40 ≤ 1000 by omega)
              simp only [go_sem, gatC, gatR, h, gk, row, i1, lnC, flds]
              refine vCall_of (hE1) ?_ ?_ ?_; iterate 2 simp only [go_sem, flds, lns, ents]
              simp only [go_sem, entsc, ents, w1]
              refine ⟨⟨hl3.symm, sized_row _, by rw [hl3]; exact hr⟩, ⟨⟨k + 1 + 1, by omega, below_succ (p := fun j => badRow x m1 (rws.getD j default) = false) hI hb⟩, by show rws.length - (k + 1 + 1) < rws.length - (k + 1); omega, ⟨rfl, (forall_cons rfl (forall_cons rfl (forall_cons rfl (forall_cons rfl (forall_cons rfl (forall_cons rfl (forall_cons rfl (forall_nil)))))))), forall_cons ⟨rfl, rfl⟩ (forall_cons ⟨rfl, rfl⟩ (forall_cons ⟨?_, rfl⟩ forall_nil)), forall_cons ?_ forall_nil⟩⟩⟩
              · show some [PV.sl .no _, PV.sl (.row 73) _] = some [PV.sl .no _, PV.sl (.row 73) _]
                rw [hsn, hnr]
                rfl
              · show some _ = some _
                rw [hl3]
          · have hb2 : (projE x m1 (rws.getD k default).l).2 ≠ 0 := by unfold badRow at hb; simpa using hb
            have hfd : rws.find? (badRow x m1) = some (rws.getD k default) := find_found hka hI hb
            rw [hfd]
            obtain ⟨⟨es1, c1⟩, hpy⟩ : ∃ y, projE x m1 (rws.getD k default).l = y := ⟨_, rfl⟩
            rw [hpy] at hb2 hE1
            simp only at hb2
            have hb3 : (c1 != 0) = true := bne_iff_ne.2 hb2
            have hb4 : (c1 == 0) = false := beq_eq_false_iff_ne.2 hb2
            cases k with
            | zero =>
              have h' : (0 : Int) < (rws.length : Int) := by simpa using h
              simp only [go_sem, gatC, gatR, h', gk, row, i1, lnC, flds]
              refine vCall_of (hE1) ?_ ?_ ?_; iterate 2 simp only [go_sem, flds, lns, ents]
              simp only [go_sem, entsc, ents, hb3, hpy, docc, doc_default]
            | succ k =>
              simp only [go_sem, gatC, gatR, h, gk, row, i1, lnC, flds]
              refine vCall_of (hE1) ?_ ?_ ?_; iterate 2 simp only [go_sem, flds, lns, ents]
              simp only [go_sem, entsc, ents, hb3, hpy, docc, doc_default]
        · obtain rfl : k = rws.length := by omega
          have hfd : rws.find? (badRow x m1) = none := find_none (d := default) (fun j hj => hI j hj)
          rw [hfd]
          cases rws with
          | nil =>
            have h' : ¬ (0 : Int) < 0 := by omega
            simp only [go_sem, gatC, gatR, h', List.length_nil, docc, doc]
          | cons r rs =>
            have h' : ¬ ((rs.length + 1 : Nat) : Int) < ((rs.length + 1 : Nat) : Int) := by omega
            have ht : ((r :: rs).map (newRow x m1)).take (rs.length + 1) = (r :: rs).map (newRow x m1) := List.take_of_length_le (by simp)
            simp only [go_sem, gatC, gatR, h', List.length_cons, ht, docc, doc]
            rw [List.take_of_length_le (by simp)]
      · rw [if_pos hc0]
        have hc0' : (c0 != 0) = true := bne_iff_ne.2 hc0
        have hc0b : (c0 == 0) = false := beq_eq_false_iff_ne.2 hc0
        refine PL.Pure.of_v Tryz.func73 (by decide) rfl Tryz.ntmps73 Tryz.results73 (by simp) (docc_dids _) ?_
        simp only [go_sem, flds, lns, doc]
        refine vCall_of (hA) ?_ ?_ ?_; iterate 2 simp only [go_sem, flds, lns]
        simp only [go_sem, fldsc, flds]
        refine vCall_of (hR) ?_ ?_ ?_; iterate 2 simp only [go_sem, flds, doc]
        simp only [go_sem]
        refine vDrawS [(4, 10), (5, 10)] (by kernel_rfl) (by kernel_rfl) (by exact rfl) ?_
        simp only [go_sem, flds]
        refine vCall_of (hS0) ?_ ?_ ?_; iterate 2 simp only [go_sem, flds]
        simp only [go_sem, flds, lnC]
        refine vCall_of (hE0) ?_ ?_ ?_; iterate 2 simp only [go_sem, flds, lns, ents]
        simp only [go_sem, entsc, ents, hc0', docc, doc_default]
  · rw [if_pos hc]
    have hc' : ((applyM l x).2 != 0) = true := bne_iff_ne.2 hc
    generalize applyM l x = ap at *
    obtain ⟨m, c⟩ := ap
    simp only at hc hc' ⊢
    refine PL.Pure.of_v Tryz.func73 (by decide) rfl Tryz.ntmps73 Tryz.results73 (by simp) (docc_dids _) ?_
    simp only [go_sem, flds, lns, doc]
    refine vCall_of (hA) ?_ ?_ ?_; iterate 2 simp only [go_sem, flds, lns]
    simp only [go_sem, fldsc, hc', docc, doc_default]
end Go.Proofs.YtnadlkjmdimjkaaGreat

set_option linter.unusedSimpArgs false
set_option linter.unusedVariables false
set_option linter.unusedSimpArgs false
set_option linter.unusedVariables false
namespace Go.Proofs.YtnadlkjmdimjkaaGreat
open Go.PL
end Go.Proofs.YtnadlkjmdimjkaaGreat

set_option linter.unusedSimpArgs false
set_option linter.unusedVariables false
set_option linter.unusedSimpArgs false
set_option linter.unusedVariables false
namespace Go.Proofs.YtnadlkjmdimjkaaGreat
open Go.PL
theorem uniq_place {l : List Fd} (h : rightL l = true) {f g : Fd} (hf : f ∈ l) (hg : g ∈ l) (e : f.at' = g.at') : f = g := by
  have hr := (right_iff.1 h).2.1
  have h1 := find_mem hr hf
  have h2 := find_mem hr hg
  rw [e, h2] at h1
  exact (Prod.mk.inj h1).1.symm
theorem ent_of {L : List Fd} {es : List En} (h : entriesB L es = true) (hu : ∀ f ∈ L, ∀ g ∈ L, f.at' = g.at' → f = g) {g : Fd} (hg : g ∈ L) : ∃ e, entM es g.at' = some e ∧ fitsE g e = true := by
  simp only [entriesB, Bool.and_eq_true, decide_eq_true_eq, List.all_eq_true, List.mem_range] at h
  obtain ⟨hlen, hall⟩ := h
  have hat : ∀ i, i < L.length → (es.getD i default).at' = (L.getD i default).at' := fun i hi => by
    have := hall i hi
    simp only [fitsE, Bool.and_eq_true, decide_eq_true_eq] at this
    exact this.1.2
  obtain ⟨i, hi, rfl⟩ := List.getElem_of_mem hg
  have hgi : L.getD i default = L[i] := getD_lt hi
  cases hf : entM es L[i].at' with
  | none =>
    exfalso
    unfold entM at hf
    have := List.find?_eq_none.1 hf (es.getD i default) (getD_mem (by omega))
    apply this
    simp only [isAt, decide_eq_true_eq]
    rw [hat i hi, hgi]
  | some e =>
    refine ⟨e, rfl, ?_⟩
    have he := List.mem_of_find?_eq_some hf
    have hp := List.find?_some hf
    simp only [isAt, decide_eq_true_eq] at hp
    obtain ⟨j, hj, rfl⟩ := List.getElem_of_mem he
    have hjL : j < L.length := by omega
    have hej : es.getD j default = es[j] := getD_lt hj
    have := hat j hjL
    rw [hej, hp] at this
    have hLj := hu _ (getD_mem (d := default) hjL) _ hg this.symm
    have hfit := hall j hjL
    rw [hej, hLj] at hfit
    exact hfit
theorem fits_right {f : Fd} {e : En} (h : fitsE f e = true) : rightF f = true ∧ e.at' = f.at' := by
  simp only [fitsE, Bool.and_eq_true, decide_eq_true_eq] at h
  exact h.1
theorem fits_n {f : Fd} {e : En} (h : fitsE f e = true) (k : f.kind = 1) : Lim e.n ∧ e.l = [] := by
  simp only [fitsE, k, if_true, fitsN, Bool.and_eq_true, decide_eq_true_eq, beq_iff_eq] at h
  refine ⟨⟨by omega, by omega⟩, List.eq_nil_of_length_eq_zero (by omega)⟩
theorem fits_t {f : Fd} {e : En} (h : fitsE f e = true) (k : f.kind ≠ 1) : e.n = 0 ∧ (f.kind ≠ 4 → e.l.length = 1) ∧ (f.kind = 4 → e.l.length ≤ 400) ∧ ∀ s ∈ e.l, fitsF f s = true := by
  simp only [fitsE, k, if_false, cntOk, fitsT, Bool.and_eq_true, decide_eq_true_eq, List.all_eq_true] at h
  obtain ⟨_, h1, h2, h3⟩ := h
  refine ⟨h3, fun h4 => ?_, fun h4 => ?_, h2⟩
  · rw [if_neg h4] at h1; simp at h1; omega
  · rw [if_pos h4] at h1; simp at h1; omega
theorem mk_n {f : Fd} {n : Int} (hr : rightF f = true) (k : f.kind = 1) (hn : Lim n) : fitsE f ⟨f.at', n, []⟩ = true := by
  unfold Lim at hn
  simp only [fitsE, hr, k, if_true, fitsN, Bool.and_eq_true, decide_eq_true_eq, true_and, List.length_nil]
  exact ⟨by omega, by omega, rfl⟩
theorem mk_t {f : Fd} {l : List Str} (hr : rightF f = true) (k : f.kind ≠ 1) (hl : if f.kind = 4 then l.length ≤ 400 else l.length = 1) (hs : ∀ s ∈ l, fitsF f s = true) : fitsE f ⟨f.at', 0, l⟩ = true := by
  simp only [fitsE, hr, k, if_false, cntOk, fitsT, Bool.and_eq_true, decide_eq_true_eq, List.all_eq_true, true_and, and_true]
  refine ⟨?_, hs⟩
  by_cases h4 : f.kind = 4
  · rw [if_pos h4] at hl ⊢; simp; omega
  · rw [if_neg h4] at hl ⊢; simp; omega
theorem fitsF_text {f : Fd} (hr : rightF f = true) (k1 : f.kind ≠ 1) (k3 : f.kind ≠ 3) {s : Str} : fitsF f s = true ↔ s.length < 41 := by
  simp only [fitsF, hr, k1, k3, if_false, decide_false, Bool.not_false, Bool.and_self, Bool.true_and, decide_eq_true_eq]
  omega
/-- what a new field starts with, fits -/
theorem value_fits {f : Fd} (hr : rightF f = true) : fitsE f (valueM f) = true := by
  by_cases k1 : f.kind = 1
  · have : valueM f = ⟨f.at', 0, []⟩ := by simp [valueM, k1]
    rw [this]; exact mk_n hr k1 ⟨by omega, by omega⟩
  · by_cases k4 : f.kind = 4
    · have : valueM f = ⟨f.at', 0, []⟩ := by simp [valueM, k4]
      rw [this]; exact mk_t hr k1 (by rw [if_pos k4]; simp) (by simp)
    · have : valueM f = ⟨f.at', 0, [f.df]⟩ := by simp [valueM, k1, k4]
      rw [this]
      refine mk_t hr k1 (by rw [if_neg k4]; rfl) fun s hs => ?_
      rw [List.mem_singleton.1 hs]
      have h := hr
      simp only [rightF, k1, if_false, Bool.and_eq_true] at h
      obtain ⟨_, _, h⟩ := h
      by_cases k3 : f.kind = 3
      · rw [if_pos k3] at h
        simp only [tail3, Bool.and_eq_true] at h
        simp only [fitsF, hr, k1, k3, if_true]
        simpa using h.2.2
      · rw [if_neg k3] at h
        rw [fitsF_text hr k1 k3]
        simp only [tail2, Bool.and_eq_true, Bool.or_eq_true, decide_eq_true_eq] at h
        rcases h.2 with h | h
        · have := h.2; omega
        · exact absurd h.1 k4
theorem moved_fits {g f : Fd} {e : En} (hg : fitsE g e = true) (hr : rightF f = true) (hk : f.kind = g.kind) (hc : f.cases' = g.cases') : fitsE f ⟨f.at', e.n, e.l⟩ = true := by
  have gr := (fits_right hg).1
  by_cases k1 : g.kind = 1
  · obtain ⟨h1, h2⟩ := fits_n hg k1
    rw [h2]; exact mk_n hr (by omega) h1
  · obtain ⟨h1, h2, h3, h4⟩ := fits_t hg k1
    rw [h1]
    refine mk_t hr (by omega) ?_ fun s hs => ?_
    · by_cases k4 : g.kind = 4
      · rw [if_pos (by omega)]; exact h3 k4
      · rw [if_neg (by omega)]; exact h2 k4
    · have := h4 s hs
      simp only [fitsF, hk, hc, hr, gr] at this ⊢
      exact this
theorem came {l m : List Fd} {x : Ln} (ha : applyM l x = (m, 0)) {f : Fd} (hf : f ∈ m) :
    (placeI (comesR x) f.at' < 0 ∧ f ∈ l) ∨ ∃ i : Nat, placeI (comesR x) f.at' = (i : Int) ∧ i ≤ 1 ∧ ∃ cs, arrM l x = (cs, true) ∧ i < cs.length ∧ cs.getD i default = f := by
  obtain ⟨hl, hx, cs, l1, e1, e2, e3⟩ := apply_fwd ha
  obtain ⟨a1, a2, a3, a4, a5⟩ := go_fwd hl e2
  obtain ⟨b1, b2, b3, b4, b5⟩ := come_fwd a1 e3
  have hk := (rightLn_kind hx).1
  have hpl := arr_places hk e1
  have hcl := comesR_len x
  by_cases hp : placeI (comesR x) f.at' < 0
  · left
    refine ⟨hp, ?_⟩
    rcases (b2 f).1 hf with h | h
    · exact ((a2 f).1 h).1
    · exact absurd (by rw [← hpl]; exact List.mem_map.2 ⟨f, h, rfl⟩) (placeI_neg hp)
  · right
    obtain ⟨i, h1, h2, h3⟩ := placeI_pos hp
    have hlen : cs.length = (comesR x).length := by rw [← hpl, List.length_map]
    refine ⟨i, h1, by omega, cs, e1, by omega, ?_⟩
    have hi : i < cs.length := by omega
    have hat : (cs.getD i default).at' = f.at' := by
      have e0 : (cs.map (·.at')).getD i default = (cs.getD i default).at' := by
        rw [getD_lt (l := cs.map (·.at')) (by simpa using hi), getD_lt hi]; simp
      rw [← e0, hpl, h3]
    exact uniq_place b1 ((b2 _).2 (.inr (getD_mem hi))) hf hat
end Go.Proofs.YtnadlkjmdimjkaaGreat
