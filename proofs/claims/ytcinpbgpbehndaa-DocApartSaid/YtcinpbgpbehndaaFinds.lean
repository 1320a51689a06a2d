/- For every document, item and place the law DocFinds returns true and changes nothing. No condition. -/
import Derived.Test.YtcinpbgpbehndaaDh
import Derived.Test.YtcinpbgpbehndaaRows
import Derived.ProofKit
set_option linter.unusedSimpArgs false
set_option linter.unusedVariables false
set_option linter.unusedSimpArgs false
set_option linter.unusedVariables false
namespace Go.Proofs.Ytcinpbgpbehndaa
open Go.PL
theorem entH_small {e : En} (h : entH e = false) : e.l.length ≤ 410 := by
  simp only [entH, Bool.or_eq_false_iff, decide_eq_false_iff_not] at h
  omega
theorem heavyEs_small {l : List En} (h : heavyEs l = false) : l.length ≤ 40 ∧ ∀ e ∈ l, e.l.length ≤ 410 := by
  simp only [heavyEs, Bool.or_eq_false_iff, decide_eq_false_iff_not, List.any_eq_false] at h
  exact ⟨by omega, fun e he => entH_small (by simpa using h.2 e he)⟩
theorem heavy_small {d : Dc} (h : heavyD d = false) : Small d := by
  simp only [heavyD, Bool.or_eq_false_iff, List.any_eq_false] at h
  refine ⟨fun e he => ?_, fun r hr e he => ?_⟩
  · have := (heavyEs_small h.2.1).2 e he; omega
  · have h1 : rowH r = false := by simpa using h.2.2 r hr
    simp only [rowH, Bool.or_eq_false_iff] at h1
    have := (heavyEs_small h1.2).2 e he; omega
theorem find_len {d : Dc} (hs : Small d) (it : Str) (r : Rf) : (findM d it r).1.l.length ≤ 1000000 := by
  have dl : (default : En).l.length ≤ 1000000 := by decide
  have gd : ∀ (l : List En) (i : Nat), (∀ e ∈ l, e.l.length ≤ 1000000) → (l.getD i default).l.length ≤ 1000000 := fun l i h => by
    by_cases hi : i < l.length
    · exact h _ (getD_mem' hi)
    · rw [List.getD_eq_getElem?_getD, List.getElem?_eq_none (by omega)]; exact dl
  have gr : ∀ i, ∀ e ∈ (d.rows.getD i default).l, e.l.length ≤ 1000000 := fun i => by
    by_cases hi : i < d.rows.length
    · exact hs.2 _ (getD_mem' hi)
    · rw [List.getD_eq_getElem?_getD, List.getElem?_eq_none (by omega)]
      intro e he
      cases he
  unfold findM
  repeat' split
  all_goals first | exact dl | exact gd _ _ hs.1 | exact gd _ _ (gr _)
set_option maxRecDepth 20000 in
set_option maxHeartbeats 4000000 in
theorem DocFinds_pure (d : Dc) (it : Str) (r : Rf) (hf : Fine d) : PL.Pure Try.prog 4 [doc d, .str it, ref r] (.bool true) := by
  have hH := Heavy_pure d hf
  cases hh : heavyD d
  · have hs := heavy_small hh
    rw [hh] at hH
    have c1 := Find_pure d it r hf hs
    have c2 := RFind_pure d it r hf
    have hl := find_len hs it r
    generalize findM d it r = x at *
    obtain ⟨e, c⟩ := x
    simp only at hl
    have hl' : e.l.length ≤ maxLen := by rw [maxLen_eq]; omega
    have c3 := SameEntries_pure [e] [e] (by rw [maxLen_eq]; simp) (by rw [maxLen_eq]; simp) (by simpa using hl') (by simpa using hl')
    rw [decide_eq_true rfl] at c3
    refine PL.Pure.of_v Try.func4 (by decide) rfl Try.ntmps4 Try.results4 (by simp) rfl ?_
    simp only [go_sem, reduceIte, Nat.reduceEqDiff, reduceCtorEq, Nat.reduceLT, Nat.reduceAdd, Nat.reduceSub, Nat.reduceMul, Nat.reduceLeDiff, Int.reduceLT, Int.reduceLE, Int.reduceToNat, Int.reduceEq, Int.reduceAdd, Int.reduceSub, Int.reduceNeg, Int.reduceBNe, Int.reduceBEq, doc, ref]
    refine vCall_of (Awake_pure) ?_ ?_ ?_; (focus simp only [go_sem, reduceIte, Nat.reduceEqDiff, reduceCtorEq, Nat.reduceLT, Nat.reduceAdd, Nat.reduceSub, Nat.reduceMul, Nat.reduceLeDiff, Int.reduceLT, Int.reduceLE, Int.reduceToNat, Int.reduceEq, Int.reduceAdd, Int.reduceSub, Int.reduceNeg, Int.reduceBNe, Int.reduceBEq]); (focus simp only [go_sem, reduceIte, Nat.reduceEqDiff, reduceCtorEq, Nat.reduceLT, Nat.reduceAdd, Nat.reduceSub, Nat.reduceMul, Nat.reduceLeDiff, Int.reduceLT, Int.reduceLE, Int.reduceToNat, Int.reduceEq, Int.reduceAdd, Int.reduceSub, Int.reduceNeg, Int.reduceBNe, Int.reduceBEq])
    simp only [go_sem, reduceIte, Nat.reduceEqDiff, reduceCtorEq, Nat.reduceLT, Nat.reduceAdd, Nat.reduceSub, Nat.reduceMul, Nat.reduceLeDiff, Int.reduceLT, Int.reduceLE, Int.reduceToNat, Int.reduceEq, Int.reduceAdd, Int.reduceSub, Int.reduceNeg, Int.reduceBNe, Int.reduceBEq]
    refine vCall_of (hH) ?_ ?_ ?_; (focus simp only [go_sem, reduceIte, Nat.reduceEqDiff, reduceCtorEq, Nat.reduceLT, Nat.reduceAdd, Nat.reduceSub, Nat.reduceMul, Nat.reduceLeDiff, Int.reduceLT, Int.reduceLE, Int.reduceToNat, Int.reduceEq, Int.reduceAdd, Int.reduceSub, Int.reduceNeg, Int.reduceBNe, Int.reduceBEq, doc]); (focus simp only [go_sem, reduceIte, Nat.reduceEqDiff, reduceCtorEq, Nat.reduceLT, Nat.reduceAdd, Nat.reduceSub, Nat.reduceMul, Nat.reduceLeDiff, Int.reduceLT, Int.reduceLE, Int.reduceToNat, Int.reduceEq, Int.reduceAdd, Int.reduceSub, Int.reduceNeg, Int.reduceBNe, Int.reduceBEq, doc])
    simp only [go_sem, reduceIte, Nat.reduceEqDiff, reduceCtorEq, Nat.reduceLT, Nat.reduceAdd, Nat.reduceSub, Nat.reduceMul, Nat.reduceLeDiff, Int.reduceLT, Int.reduceLE, Int.reduceToNat, Int.reduceEq, Int.reduceAdd, Int.reduceSub, Int.reduceNeg, Int.reduceBNe, Int.reduceBEq]
    refine vCall_of (c1) ?_ ?_ ?_; (focus simp only [go_sem, reduceIte, Nat.reduceEqDiff, reduceCtorEq, Nat.reduceLT, Nat.reduceAdd, Nat.reduceSub, Nat.reduceMul, Nat.reduceLeDiff, Int.reduceLT, Int.reduceLE, Int.reduceToNat, Int.reduceEq, Int.reduceAdd, Int.reduceSub, Int.reduceNeg, Int.reduceBNe, Int.reduceBEq, doc, ref]); (focus simp only [go_sem, reduceIte, Nat.reduceEqDiff, reduceCtorEq, Nat.reduceLT, Nat.reduceAdd, Nat.reduceSub, Nat.reduceMul, Nat.reduceLeDiff, Int.reduceLT, Int.reduceLE, Int.reduceToNat, Int.reduceEq, Int.reduceAdd, Int.reduceSub, Int.reduceNeg, Int.reduceBNe, Int.reduceBEq, doc, ref])
    simp only [go_sem, reduceIte, Nat.reduceEqDiff, reduceCtorEq, Nat.reduceLT, Nat.reduceAdd, Nat.reduceSub, Nat.reduceMul, Nat.reduceLeDiff, Int.reduceLT, Int.reduceLE, Int.reduceToNat, Int.reduceEq, Int.reduceAdd, Int.reduceSub, Int.reduceNeg, Int.reduceBNe, Int.reduceBEq, entc, ent]
    refine vCall_of (c2) ?_ ?_ ?_; (focus simp only [go_sem, reduceIte, Nat.reduceEqDiff, reduceCtorEq, Nat.reduceLT, Nat.reduceAdd, Nat.reduceSub, Nat.reduceMul, Nat.reduceLeDiff, Int.reduceLT, Int.reduceLE, Int.reduceToNat, Int.reduceEq, Int.reduceAdd, Int.reduceSub, Int.reduceNeg, Int.reduceBNe, Int.reduceBEq, doc, ref]); (focus simp only [go_sem, reduceIte, Nat.reduceEqDiff, reduceCtorEq, Nat.reduceLT, Nat.reduceAdd, Nat.reduceSub, Nat.reduceMul, Nat.reduceLeDiff, Int.reduceLT, Int.reduceLE, Int.reduceToNat, Int.reduceEq, Int.reduceAdd, Int.reduceSub, Int.reduceNeg, Int.reduceBNe, Int.reduceBEq, doc, ref])
    simp only [go_sem, reduceIte, Nat.reduceEqDiff, reduceCtorEq, Nat.reduceLT, Nat.reduceAdd, Nat.reduceSub, Nat.reduceMul, Nat.reduceLeDiff, Int.reduceLT, Int.reduceLE, Int.reduceToNat, Int.reduceEq, Int.reduceAdd, Int.reduceSub, Int.reduceNeg, Int.reduceBNe, Int.reduceBEq, entc, ent]
    refine vCall_of (c3) ?_ ?_ ?_; (focus simp only [go_sem, reduceIte, Nat.reduceEqDiff, reduceCtorEq, Nat.reduceLT, Nat.reduceAdd, Nat.reduceSub, Nat.reduceMul, Nat.reduceLeDiff, Int.reduceLT, Int.reduceLE, Int.reduceToNat, Int.reduceEq, Int.reduceAdd, Int.reduceSub, Int.reduceNeg, Int.reduceBNe, Int.reduceBEq, ents, ent]); (focus simp only [go_sem, reduceIte, Nat.reduceEqDiff, reduceCtorEq, Nat.reduceLT, Nat.reduceAdd, Nat.reduceSub, Nat.reduceMul, Nat.reduceLeDiff, Int.reduceLT, Int.reduceLE, Int.reduceToNat, Int.reduceEq, Int.reduceAdd, Int.reduceSub, Int.reduceNeg, Int.reduceBNe, Int.reduceBEq, ents, ent])
    simp only [go_sem, reduceIte, Nat.reduceEqDiff, reduceCtorEq, Nat.reduceLT, Nat.reduceAdd, Nat.reduceSub, Nat.reduceMul, Nat.reduceLeDiff, Int.reduceLT, Int.reduceLE, Int.reduceToNat, Int.reduceEq, Int.reduceAdd, Int.reduceSub, Int.reduceNeg, Int.reduceBNe, Int.reduceBEq]
  · rw [hh] at hH
    refine PL.Pure.of_v Try.func4 (by decide) rfl Try.ntmps4 Try.results4 (by simp) rfl ?_
    simp only [go_sem, reduceIte, Nat.reduceEqDiff, reduceCtorEq, Nat.reduceLT, Nat.reduceAdd, Nat.reduceSub, Nat.reduceMul, Nat.reduceLeDiff, Int.reduceLT, Int.reduceLE, Int.reduceToNat, Int.reduceEq, Int.reduceAdd, Int.reduceSub, Int.reduceNeg, Int.reduceBNe, Int.reduceBEq, doc, ref]
    refine vCall_of (Awake_pure) ?_ ?_ ?_; (focus simp only [go_sem, reduceIte, Nat.reduceEqDiff, reduceCtorEq, Nat.reduceLT, Nat.reduceAdd, Nat.reduceSub, Nat.reduceMul, Nat.reduceLeDiff, Int.reduceLT, Int.reduceLE, Int.reduceToNat, Int.reduceEq, Int.reduceAdd, Int.reduceSub, Int.reduceNeg, Int.reduceBNe, Int.reduceBEq]); (focus simp only [go_sem, reduceIte, Nat.reduceEqDiff, reduceCtorEq, Nat.reduceLT, Nat.reduceAdd, Nat.reduceSub, Nat.reduceMul, Nat.reduceLeDiff, Int.reduceLT, Int.reduceLE, Int.reduceToNat, Int.reduceEq, Int.reduceAdd, Int.reduceSub, Int.reduceNeg, Int.reduceBNe, Int.reduceBEq])
    simp only [go_sem, reduceIte, Nat.reduceEqDiff, reduceCtorEq, Nat.reduceLT, Nat.reduceAdd, Nat.reduceSub, Nat.reduceMul, Nat.reduceLeDiff, Int.reduceLT, Int.reduceLE, Int.reduceToNat, Int.reduceEq, Int.reduceAdd, Int.reduceSub, Int.reduceNeg, Int.reduceBNe, Int.reduceBEq]
    refine vCall_of (hH) ?_ ?_ ?_; (focus simp only [go_sem, reduceIte, Nat.reduceEqDiff, reduceCtorEq, Nat.reduceLT, Nat.reduceAdd, Nat.reduceSub, Nat.reduceMul, Nat.reduceLeDiff, Int.reduceLT, Int.reduceLE, Int.reduceToNat, Int.reduceEq, Int.reduceAdd, Int.reduceSub, Int.reduceNeg, Int.reduceBNe, Int.reduceBEq, doc]); (focus simp only [go_sem, reduceIte, Nat.reduceEqDiff, reduceCtorEq, Nat.reduceLT, Nat.reduceAdd, Nat.reduceSub, Nat.reduceMul, Nat.reduceLeDiff, Int.reduceLT, Int.reduceLE, Int.reduceToNat, Int.reduceEq, Int.reduceAdd, Int.reduceSub, Int.reduceNeg, Int.reduceBNe, Int.reduceBEq, doc])
    simp only [go_sem, reduceIte, Nat.reduceEqDiff, reduceCtorEq, Nat.reduceLT, Nat.reduceAdd, Nat.reduceSub, Nat.reduceMul, Nat.reduceLeDiff, Int.reduceLT, Int.reduceLE, Int.reduceToNat, Int.reduceEq, Int.reduceAdd, Int.reduceSub, Int.reduceNeg, Int.reduceBNe, Int.reduceBEq]
open Go.ChangeShapes Go.WideShapes Go.ChangeAt Go.RowKit
theorem Try.own : ownKnob Try.prog.godebug = Option.none := by kernel_rfl
theorem Try.laidOut : laidOutB Try.prog = true := by kernel_rfl
theorem Try.lays : layAll Try.prog = true := by kernel_rfl
theorem odd32 : oddB Try.prog 32 = false := by kernel_rfl
theorem odd23 : oddB Try.prog 23 = false := by kernel_rfl
theorem odd24 : oddB Try.prog 24 = false := by kernel_rfl
theorem pt_strs {cs : List PV} (h : PT Try.prog 32 cs) : ∃ l : List Str, cs = [.sl .no (l.map .str)] ∧ l.length ≤ maxLen := by
  obtain ⟨l, rfl, h1, h2⟩ := h.slice_inv odd32 Try.underlying32
  obtain ⟨xs, rfl, _⟩ := all_told (enc := PV.str) (Q := fun _ => True) (fun p hp => by
    obtain ⟨s, rfl, _⟩ := (h2 p hp).string Try.underlying9
    exact ⟨s, rfl, trivial⟩)
  exact ⟨xs, rfl, by simpa using h1⟩
theorem pt_ref {cs : List PV} (h : PT Try.prog 37 cs) : ∃ r : Rf, cs = [.int .i64 r.sc, .str r.gr, .str r.nm] := by
  have h1 : PTs Try.prog [3, 9, 9] cs := h.struct_inv Try.underlying37
  obtain ⟨a, b, rfl, h2, h3⟩ := h1.cons_inv
  obtain ⟨c, d, rfl, h4, h5⟩ := h3.cons_inv
  obtain ⟨e, f, rfl, h6, h7⟩ := h5.cons_inv
  obtain ⟨x, rfl, _⟩ := h2.int_inv Try.underlying3
  obtain ⟨y, rfl, _⟩ := h4.string_inv Try.underlying9
  obtain ⟨z, rfl, _⟩ := h6.string_inv Try.underlying9
  rw [h7.nil_inv]
  exact ⟨⟨x, y, z⟩, rfl⟩
theorem pa_ent {p : PV} (h : PA Try.prog 39 p) : ∃ e : En, p = ent e ∧ e.l.length ≤ maxLen := by
  obtain ⟨cs, rfl, h1⟩ := PA.agg tagg_39 h
  have h1 : PTs Try.prog [37, 2, 32] cs := h1.struct_inv Try.underlying39
  obtain ⟨a, b, rfl, h2, h3⟩ := h1.cons_inv
  obtain ⟨c, d, rfl, h4, h5⟩ := h3.cons_inv
  obtain ⟨e, f, rfl, h6, h7⟩ := h5.cons_inv
  obtain ⟨r, rfl⟩ := pt_ref h2
  obtain ⟨n, rfl, _⟩ := h4.int_inv Try.underlying2
  obtain ⟨l, rfl, hl⟩ := pt_strs h6
  rw [h7.nil_inv]
  exact ⟨⟨r, n, l⟩, rfl, hl⟩
theorem pt_ents {cs : List PV} (h : PT Try.prog 23 cs) : ∃ l : List En, cs = [.sl .no (l.map ent)] ∧ l.length ≤ maxLen ∧ ∀ e ∈ l, e.l.length ≤ maxLen := by
  obtain ⟨l, rfl, h1, h2⟩ := h.slice_inv odd23 Try.underlying23
  obtain ⟨xs, rfl, h3⟩ := all_told (fun p hp => pa_ent (h2 p hp))
  exact ⟨xs, rfl, by simpa using h1, h3⟩
theorem pa_row {p : PV} (h : PA Try.prog 57 p) : ∃ r : Rw, p = row r ∧ r.l.length ≤ maxLen ∧ ∀ e ∈ r.l, e.l.length ≤ maxLen := by
  obtain ⟨cs, rfl, h1⟩ := PA.agg tagg_57 h
  have h1 : PTs Try.prog [9, 23] cs := h1.struct_inv Try.underlying57
  obtain ⟨a, b, rfl, h2, h3⟩ := h1.cons_inv
  obtain ⟨c, d, rfl, h4, h5⟩ := h3.cons_inv
  obtain ⟨s, rfl, _⟩ := h2.string_inv Try.underlying9
  obtain ⟨l, rfl, hl⟩ := pt_ents h4
  rw [h5.nil_inv]
  exact ⟨⟨s, l⟩, rfl, hl⟩
theorem pa_doc {p : PV} (h : PA Try.prog 26 p) : ∃ d : Dc, p = doc d ∧ Fine d := by
  obtain ⟨cs, rfl, h1⟩ := PA.agg tagg_26 h
  have h1 : PTs Try.prog [23, 24] cs := h1.struct_inv Try.underlying26
  obtain ⟨a, b, rfl, h2, h3⟩ := h1.cons_inv
  obtain ⟨c, d, rfl, h4, h5⟩ := h3.cons_inv
  obtain ⟨l, rfl, hl⟩ := pt_ents h2
  obtain ⟨m, rfl, h6, h7⟩ := h4.slice_inv odd24 Try.underlying24
  obtain ⟨xs, rfl, h8⟩ := all_told (fun p hp => pa_row (h7 p hp))
  rw [h5.nil_inv]
  exact ⟨⟨l, xs⟩, rfl, hl.1, by simpa using h6, hl.2, h8⟩
theorem pa_ref {p : PV} (h : PA Try.prog 37 p) : ∃ r : Rf, p = ref r := by
  obtain ⟨cs, rfl, h1⟩ := PA.agg tagg_37 h
  obtain ⟨r, rfl⟩ := pt_ref h1
  exact ⟨r, rfl⟩
set_option maxRecDepth 100000 in
theorem docFinds_lifted (os : Os) (started : os.Started) (H : Type) (enc : TypeId × Value → H) :
    ReturnsInHanded {} Try.checked os 4 .any (Rows.docFindsSpec.pre6 enc Try.prog Try.f4 Rows.docFindsRow.domain false) (Rows.docFindsSpec.post enc Try.prog Try.f4 false true false false) := by
  refine returnsInHanded_of_change (C := Try.checked) Try.own started (by kernel_rfl) Try.func4
    (ChangeSpec.witness6 (enc := enc) (C := Try.checked) false ⟨#[], #[.agg #[.slice none 0 0, .slice none 0 0], .string ⟨#[]⟩, .agg #[.int .i64 0, .string ⟨#[]⟩, .string ⟨#[]⟩]], []⟩ 8 (by kernel_rfl) (by kernel_rfl) (by kernel_rfl) (by kernel_rfl)) ?_
  intro W base args ds gs before hval0 hW hcnd _
  refine contract_of_pure (P := Try.prog) (tb := 4) Try.lays Try.laidOut rfl (by rw [Try.params4]; decide +kernel) (by kernel_rfl) Try.underlying4 (fun ds hd => ?_) (fun ps hps => ?_) W base args ds gs before hval0 hW
  · rw [Try.params4] at hd
    match ds, hd with
    | [d1, d2, d3], _ => rfl
  · rw [Try.params4] at hps
    obtain ⟨a, b, rfl, h1, h2⟩ := hps.cons_inv
    obtain ⟨c, d, rfl, h3, h4⟩ := h2.cons_inv
    obtain ⟨e, f, rfl, h5, h6⟩ := h4.cons_inv
    obtain ⟨u, rfl, hu⟩ := pa_doc h1
    obtain ⟨v, rfl, _⟩ := h3.string Try.underlying9
    obtain ⟨w, rfl⟩ := pa_ref h5
    rw [h6.nil_inv]
    exact DocFinds_pure u v w hu
theorem docFinds_holds : Rows.DocFindsSaid :=
  OpenClaim.holds_of_wide 4 Try.f4 rfl rfl rfl rfl rfl rfl rfl ⟨rfl, rfl, rfl, rfl, rfl⟩ rfl rfl rfl rfl rfl (by kernel_rfl) Try.func4 (by kernel_rfl)
    (of_decide_eq_true (by kernel_rfl)) (by unfold Func.isWrapper; first | (rw [if_pos (by decide +kernel)]; kernel_rfl) | (rw [if_neg (by decide +kernel)]; exact ⟨rfl, rfl⟩))
    (fun os started H enc _ => docFinds_lifted os started H enc)
end Go.Proofs.Ytcinpbgpbehndaa
#print axioms Go.Proofs.Ytcinpbgpbehndaa.docFinds_holds
