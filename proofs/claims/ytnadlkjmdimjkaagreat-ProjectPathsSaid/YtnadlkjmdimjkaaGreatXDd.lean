/- Contracts of functions and laws of this seat, each for every input that it names: lemmas of the proof. -/
import Derived.Test.YtnadlkjmdimjkaaGreatXCy
import Derived.Test.YtnadlkjmdimjkaaGreatXAp
import Derived.Test.YtnadlkjmdimjkaaGreatRows
import Derived.ProofKit
import Derived.Test.YtnadlkjmdimjkaaGreatXAb
set_option linter.unusedSimpArgs false
set_option linter.unusedVariables false
set_option linter.unusedSimpArgs false
set_option linter.unusedVariables false
namespace Go.Proofs.YtnadlkjmdimjkaaGreat
open Go.PL
set_option maxRecDepth 20000 in
set_option maxHeartbeats 16000000 in
theorem ProjectPaths_pure (l : List Eg) (a b : Tg) (d : Dc) (at' : Int) (hl : l.length ≤ maxLen) (hx : ∀ e ∈ l, LenLn e.ln) (hd : Fine d) (h1 : -9223372036854775808 ≤ at') (h2 : at' ≤ 9223372036854775807) : PL.Pure Tryz.prog 7 [egs l, tg a, tg b, doc d, .int .i64 at'] (.bool true) := by
  have hH := RHeavyE_pure l 50 hl hx
  have hW := Heavy_pure d hd
  cases hh : heavyE l 50
  · rw [hh] at hH
    cases hh3 : heavyD d
    · rw [hh3] at hW
      by_cases hneg : at' < 0
      · refine PL.Pure.of_v Tryz.func7 (by decide) rfl Tryz.ntmps7 Tryz.results7 (by simp) rfl ?_
        simp only [go_sem, egs, tg, doc]
        refine vCall_of (awake24_pure) ?_ ?_ ?_; (focus simp only [go_sem]); (focus simp only [go_sem])
        simp only [go_sem]
        refine vCall_of (hH) ?_ ?_ ?_; (focus simp only [go_sem, egs]); (focus simp only [go_sem, egs])
        simp only [go_sem, doc]
        refine vCall_of (hW) ?_ ?_ ?_; (focus simp only [go_sem, doc]); (focus simp only [go_sem, doc])
        simp only [go_sem, hneg]
      have okd := okDcOfHeavy hh3
      obtain ⟨o1, o2⟩ := okL hh
      have hG := Grown_pure l (by omega) o2
      have hm : OkM (grownM l) := okGrown _ okM_nil o2
      have hr : RightM (grownM l) := rightGrown _ right_nil
      generalize grownM l = m at *
      have hS := Stops_pure m a b hm
      have hT := To_pure m a b d hm hr okd
      have hU := RTo_pure m a b d hm hr okd
      have ok1 := to_ok (a := a) (b := b) (d := d) hm hr
      have hE := RSameD_pure (toM m a b d).1 (toM m a b d).1 ok1.fine ok1.fine
      rw [decide_eq_true rfl] at hE
      have n1 : ((toM m a b d).2 != (toM m a b d).2) = false := by simp
      by_cases hz : (toM m a b d).2 = 0
      · obtain ⟨hc, _, _, _⟩ := to_zero hz
        have hll := stops_len (wayD m a) (wayD m b)
        obtain ⟨ca, cb⟩ := pathC_zero.1 hc
        have wla := (live_way ca).1.len
        have wlb := (live_way cb).1.len
        have hmn := hm.n
        have hsm : stopsM m a b = (stopsW (wayD m a) (wayD m b), 0) := by unfold stopsM; rw [if_neg (fun h => h hc)]
        rw [hsm] at hS
        have hsl : (stopsW (wayD m a) (wayD m b)).length ≤ 100 := by rw [hll]; omega
        have hpos : 0 < (stopsW (wayD m a) (wayD m b)).length := by rw [hll]; omega
        have t1 : 0 ≤ at'.tmod ((stopsW (wayD m a) (wayD m b)).length : Int) := Int.tmod_nonneg _ (by omega)
        have t2 : at'.tmod ((stopsW (wayD m a) (wayD m b)).length : Int) < ((stopsW (wayD m a) (wayD m b)).length : Int) := Int.tmod_lt_of_pos _ (by omega)
        obtain ⟨j, hj⟩ : ∃ j : Nat, at'.tmod ((stopsW (wayD m a) (wayD m b)).length : Int) = (j : Int) := ⟨_, (Int.toNat_of_nonneg t1).symm⟩
        have hjl : j < (stopsW (wayD m a) (wayD m b)).length := by omega
        obtain ⟨p1, p2, p3⟩ := to_parts hm hr hz hjl
        generalize hst : stopsW (wayD m a) (wayD m b) = st at *
        generalize hmid : st.getD j default = mid at *
        have hX := To_pure m a mid d hm hr okd
        have okh := to_ok (a := a) (b := mid) (d := d) hm hr
        have hY := To_pure m mid b (toM m a mid d).1 hm hr okh
        rw [p2] at hY
        have hSb := Schema_pure m b hm
        have okB := okSch hm cb
        have hD := DRight_pure (schM (treeOf m) b).1 (toM m a b d).1 (by have := okB.n; rw [maxLen_eq]; omega) okB.c ok1.fine
        rw [p3] at hD
        generalize hq : at'.tmod (st.length : Int) = jj at *
        subst hj
        have hne : ¬ (st.length : Int) = 0 := by omega
        have hnb : ((st.length : Int) == 0) = false := beq_eq_false_iff_ne.2 hne
        have hgm : (List.map tg st).getD j PV.any = tg mid := by rw [getD_map (d := default) hjl, hmid]
        have b1 : (0 : Int) ≤ (j : Int) := by omega
        have b2 : (j : Int) < (st.length : Int) := by omega
        have hz' : ((toM m a b d).2 != 0) = false := by simpa using hz
        have hz2 : ((toM m a b d).2 == 0) = true := by simpa using hz
        have hp1 : ((toM m a mid d).2 == 0) = true := by simpa using p1
        generalize toM m a b d = y at *
        obtain ⟨nd, nc⟩ := y
        generalize toM m a mid d = z at *
        obtain ⟨hd1, hc1⟩ := z
        simp only at hz' hz2 hp1 hY hD hE n1
        refine PL.Pure.of_v Tryz.func7 (by decide) rfl Tryz.ntmps7 Tryz.results7 (by simp) rfl ?_
        simp only [go_sem, egs, tg, doc]
        refine vCall_of (awake24_pure) ?_ ?_ ?_; (focus simp only [go_sem]); (focus simp only [go_sem])
        simp only [go_sem]
        refine vCall_of (hH) ?_ ?_ ?_; (focus simp only [go_sem, egs]); (focus simp only [go_sem, egs])
        simp only [go_sem, doc]
        refine vCall_of (hW) ?_ ?_ ?_; (focus simp only [go_sem, doc]); (focus simp only [go_sem, doc])
        simp only [go_sem, hneg, egs]
        refine vCall_of (hG) ?_ ?_ ?_; (focus simp only [go_sem, egs]); (focus simp only [go_sem, egs])
        simp only [go_sem, grv]
        refine vCall_of (hT) ?_ ?_ ?_; (focus simp only [go_sem, tr, tg, doc]); (focus simp only [go_sem, tr, tg, doc])
        simp only [go_sem, docc, doc, egs]
        refine vCall_of (hU) ?_ ?_ ?_; (focus simp only [go_sem, egs, tg, doc]); (focus simp only [go_sem, egs, tg, doc])
        simp only [go_sem, docc, doc, n1]
        refine vCall_of (hE) ?_ ?_ ?_; (focus simp only [go_sem, doc]); (focus simp only [go_sem, doc])
        simp only [go_sem, Bool.not_true]
        refine vCall_of (hS) ?_ ?_ ?_; (focus simp only [go_sem, tr, tg]); (focus simp only [go_sem, tr, tg])
        simp only [go_sem, tgsc, tgs, hz', hnb, hne, hq, b1, b2, hgm, tg]
        refine vCall_of (hX) ?_ ?_ ?_; (focus simp only [go_sem, tr, tg, doc]); (focus simp only [go_sem, tr, tg, doc])
        simp only [go_sem, docc, doc]
        refine vCall_of (hY) ?_ ?_ ?_; (focus simp only [go_sem, tr, tg, doc]); (focus simp only [go_sem, tr, tg, doc])
        simp only [go_sem, docc, doc]
        refine vCall_of (hSb) ?_ ?_ ?_; (focus simp only [go_sem, tr, tg]); (focus simp only [go_sem, tr, tg])
        simp only [go_sem, fldsc, hp1, hz2]
        refine vCall_of (hE) ?_ ?_ ?_; (focus simp only [go_sem, doc]); (focus simp only [go_sem, doc])
        simp only [go_sem, flds, doc]
        refine vCall_of (hD) ?_ ?_ ?_; (focus simp only [go_sem, flds, doc]); (focus simp only [go_sem, flds, doc])
        simp only [go_sem]
      · have hz' : ((toM m a b d).2 != 0) = true := by simpa using hz
        by_cases hc : pathC m a b = 0
        · have hsm : stopsM m a b = (stopsW (wayD m a) (wayD m b), 0) := by unfold stopsM; rw [if_neg (fun h => h hc)]
          rw [hsm] at hS
          generalize stopsW (wayD m a) (wayD m b) = st at *
          generalize toM m a b d = y at *
          obtain ⟨nd, nc⟩ := y
          simp only at hz' hE n1
          refine PL.Pure.of_v Tryz.func7 (by decide) rfl Tryz.ntmps7 Tryz.results7 (by simp) rfl ?_
          simp only [go_sem, egs, tg, doc]
          refine vCall_of (awake24_pure) ?_ ?_ ?_; (focus simp only [go_sem]); (focus simp only [go_sem])
          simp only [go_sem]
          refine vCall_of (hH) ?_ ?_ ?_; (focus simp only [go_sem, egs]); (focus simp only [go_sem, egs])
          simp only [go_sem, doc]
          refine vCall_of (hW) ?_ ?_ ?_; (focus simp only [go_sem, doc]); (focus simp only [go_sem, doc])
          simp only [go_sem, hneg, egs]
          refine vCall_of (hG) ?_ ?_ ?_; (focus simp only [go_sem, egs]); (focus simp only [go_sem, egs])
          simp only [go_sem, grv]
          refine vCall_of (hT) ?_ ?_ ?_; (focus simp only [go_sem, tr, tg, doc]); (focus simp only [go_sem, tr, tg, doc])
          simp only [go_sem, docc, doc, egs]
          refine vCall_of (hU) ?_ ?_ ?_; (focus simp only [go_sem, egs, tg, doc]); (focus simp only [go_sem, egs, tg, doc])
          simp only [go_sem, docc, doc, n1]
          refine vCall_of (hE) ?_ ?_ ?_; (focus simp only [go_sem, doc]); (focus simp only [go_sem, doc])
          simp only [go_sem, Bool.not_true]
          refine vCall_of (hS) ?_ ?_ ?_; (focus simp only [go_sem, tr, tg]); (focus simp only [go_sem, tr, tg])
          simp only [go_sem, tgsc, tgs, hz']
        · have hsm : stopsM m a b = ([], pathC m a b) := by unfold stopsM; rw [if_pos hc]
          have htm : toM m a b d = (default, pathC m a b) := by unfold toM; rw [if_pos hc]
          rw [hsm] at hS
          rw [htm] at hT hU hz' hE n1
          simp only at hz' hE n1
          have hc2 : (pathC m a b == 0) = false := by simpa using hc
          have hc3 : (pathC m a b == pathC m a b) = true := by simp
          refine PL.Pure.of_v Tryz.func7 (by decide) rfl Tryz.ntmps7 Tryz.results7 (by simp) rfl ?_
          simp only [go_sem, egs, tg, doc]
          refine vCall_of (awake24_pure) ?_ ?_ ?_; (focus simp only [go_sem]); (focus simp only [go_sem])
          simp only [go_sem]
          refine vCall_of (hH) ?_ ?_ ?_; (focus simp only [go_sem, egs]); (focus simp only [go_sem, egs])
          simp only [go_sem, doc]
          refine vCall_of (hW) ?_ ?_ ?_; (focus simp only [go_sem, doc]); (focus simp only [go_sem, doc])
          simp only [go_sem, hneg, egs]
          refine vCall_of (hG) ?_ ?_ ?_; (focus simp only [go_sem, egs]); (focus simp only [go_sem, egs])
          simp only [go_sem, grv]
          refine vCall_of (hT) ?_ ?_ ?_; (focus simp only [go_sem, tr, tg, doc]); (focus simp only [go_sem, tr, tg, doc])
          simp only [go_sem, docc, doc, egs]
          refine vCall_of (hU) ?_ ?_ ?_; (focus simp only [go_sem, egs, tg, doc]); (focus simp only [go_sem, egs, tg, doc])
          simp only [go_sem, docc, doc, n1]
          refine vCall_of (hE) ?_ ?_ ?_; (focus simp only [go_sem, doc]); (focus simp only [go_sem, doc])
          simp only [go_sem, Bool.not_true]
          refine vCall_of (hS) ?_ ?_ ?_; (focus simp only [go_sem, tr, tg]); (focus simp only [go_sem, tr, tg])
          simp only [go_sem, tgsc, tgs, hz', hc2, hc3, List.map_nil]
    · rw [hh3] at hW
      refine PL.Pure.of_v Tryz.func7 (by decide) rfl Tryz.ntmps7 Tryz.results7 (by simp) rfl ?_
      simp only [go_sem, egs, tg, doc]
      refine vCall_of (awake24_pure) ?_ ?_ ?_; (focus simp only [go_sem]); (focus simp only [go_sem])
      simp only [go_sem]
      refine vCall_of (hH) ?_ ?_ ?_; (focus simp only [go_sem, egs]); (focus simp only [go_sem, egs])
      simp only [go_sem, doc]
      refine vCall_of (hW) ?_ ?_ ?_; (focus simp only [go_sem, doc]); (focus simp only [go_sem, doc])
      simp only [go_sem]
  · rw [hh] at hH
    refine PL.Pure.of_v Tryz.func7 (by decide) rfl Tryz.ntmps7 Tryz.results7 (by simp) rfl ?_
    simp only [go_sem, egs, tg, doc]
    refine vCall_of (awake24_pure) ?_ ?_ ?_; (focus simp only [go_sem]); (focus simp only [go_sem])
    simp only [go_sem]
    refine vCall_of (hH) ?_ ?_ ?_; (focus simp only [go_sem, egs]); (focus simp only [go_sem, egs])
    simp only [go_sem]
end Go.Proofs.YtnadlkjmdimjkaaGreat

set_option linter.unusedSimpArgs false
set_option linter.unusedVariables false
set_option linter.unusedSimpArgs false
set_option linter.unusedVariables false
namespace Go.Proofs.YtnadlkjmdimjkaaGreat
open Go.PL
open Go.ChangeShapes Go.WideShapes Go.ChangeAt Go.RowKit
theorem Tryz.own : ownKnob Tryz.prog.godebug = Option.none := by kernel_rfl
theorem Tryz.laidOut : laidOutB Tryz.prog = true := by kernel_rfl
theorem Tryz.lays : layAll Tryz.prog = true := by kernel_rfl
theorem oddStrs : oddB Tryz.prog 40 = false := by kernel_rfl
theorem oddPrs : oddB Tryz.prog 85 = false := by kernel_rfl
theorem oddEgs : oddB Tryz.prog 22 = false := by kernel_rfl
structure LenLn' (x : Ln) : Prop where
  c : x.fd.cases'.length ≤ maxLen
  f : x.fo.length ≤ maxLen
  b : x.ba.length ≤ maxLen
theorem pt_strs {cs : List PV} (h : PT Tryz.prog 40 cs) : ∃ l : List Str, cs = [.sl .no (l.map .str)] ∧ l.length ≤ maxLen := by
  obtain ⟨l, rfl, h1, h2⟩ := h.slice_inv oddStrs Tryz.underlying40
  obtain ⟨xs, rfl, _⟩ := all_told (enc := PV.str) (Q := fun _ => True) (fun p hp => by
    obtain ⟨s, rfl, _⟩ := (h2 p hp).string Tryz.underlying9
    exact ⟨s, rfl, trivial⟩)
  exact ⟨xs, rfl, by simpa using h1⟩
theorem pt_tag {cs : List PV} (h : PT Tryz.prog 24 cs) : ∃ r : Tg, cs = [.int .i64 r.r, .int .i64 r.n] := by
  have h1 : PTs Tryz.prog [3, 3] cs := h.struct_inv Tryz.underlying24
  obtain ⟨a, b, rfl, h2, h3⟩ := h1.cons_inv
  obtain ⟨c, d, rfl, h4, h5⟩ := h3.cons_inv
  obtain ⟨x, rfl, _⟩ := h2.int_inv Tryz.underlying3
  obtain ⟨y, rfl, _⟩ := h4.int_inv Tryz.underlying3
  rw [h5.nil_inv]
  exact ⟨⟨x, y⟩, rfl⟩
theorem pt_ref {cs : List PV} (h : PT Tryz.prog 44 cs) : ∃ r : Rf, cs = [.int .i64 r.sc, .str r.gr, .str r.nm] := by
  have h1 : PTs Tryz.prog [3, 9, 9] cs := h.struct_inv Tryz.underlying44
  obtain ⟨a, b, rfl, h2, h3⟩ := h1.cons_inv
  obtain ⟨c, d, rfl, h4, h5⟩ := h3.cons_inv
  obtain ⟨e, f, rfl, h6, h7⟩ := h5.cons_inv
  obtain ⟨x, rfl, _⟩ := h2.int_inv Tryz.underlying3
  obtain ⟨y, rfl, _⟩ := h4.string_inv Tryz.underlying9
  obtain ⟨z, rfl, _⟩ := h6.string_inv Tryz.underlying9
  rw [h7.nil_inv]
  exact ⟨⟨x, y, z⟩, rfl⟩
theorem pt_fld {cs : List PV} (h : PT Tryz.prog 84 cs) : ∃ f : Fd, cs = [.int .i64 f.at'.sc, .str f.at'.gr, .str f.at'.nm, .int .i64 f.kind, .str f.df, .sl .no (f.cases'.map .str), .int .i64 f.worth] ∧ f.cases'.length ≤ maxLen := by
  have h1 : PTs Tryz.prog [44, 3, 9, 40, 2] cs := h.struct_inv Tryz.underlying84
  obtain ⟨a1, b1, rfl, h2, h3⟩ := h1.cons_inv
  obtain ⟨a2, b2, rfl, h4, h5⟩ := h3.cons_inv
  obtain ⟨a3, b3, rfl, h6, h7⟩ := h5.cons_inv
  obtain ⟨a4, b4, rfl, h8, h9⟩ := h7.cons_inv
  obtain ⟨a5, b5, rfl, h10, h11⟩ := h9.cons_inv
  obtain ⟨r, rfl⟩ := pt_ref h2
  obtain ⟨x, rfl, _⟩ := h4.int_inv Tryz.underlying3
  obtain ⟨y, rfl, _⟩ := h6.string_inv Tryz.underlying9
  obtain ⟨l, rfl, hl⟩ := pt_strs h8
  obtain ⟨z, rfl, _⟩ := h10.int_inv Tryz.underlying2
  rw [h11.nil_inv]
  exact ⟨⟨r, x, y, l, z⟩, rfl, hl⟩
theorem pa_pair {p : PV} (h : PA Tryz.prog 219 p) : ∃ e : Pr, p = pr e := by
  obtain ⟨cs, rfl, h1⟩ := PA.agg tagg_219 h
  have h1 : PTs Tryz.prog [9, 9] cs := h1.struct_inv Tryz.underlying219
  obtain ⟨a, b, rfl, h2, h3⟩ := h1.cons_inv
  obtain ⟨c, d, rfl, h4, h5⟩ := h3.cons_inv
  obtain ⟨x, rfl, _⟩ := h2.string_inv Tryz.underlying9
  obtain ⟨y, rfl, _⟩ := h4.string_inv Tryz.underlying9
  rw [h5.nil_inv]
  exact ⟨⟨x, y⟩, rfl⟩
theorem pt_prs {cs : List PV} (h : PT Tryz.prog 85 cs) : ∃ l : List Pr, cs = [.sl .no (l.map pr)] ∧ l.length ≤ maxLen := by
  obtain ⟨l, rfl, h1, h2⟩ := h.slice_inv oddPrs Tryz.underlying85
  obtain ⟨xs, rfl, _⟩ := all_told (enc := pr) (Q := fun _ => True) (fun p hp => by
    obtain ⟨s, rfl⟩ := pa_pair (h2 p hp)
    exact ⟨s, rfl, trivial⟩)
  exact ⟨xs, rfl, by simpa using h1⟩
def lncellsG (x : Ln) : List PV := [.int .i64 x.kind, .int .i64 x.at'.sc, .str x.at'.gr, .str x.at'.nm, .str x.nm, .str x.ot, .int .i64 x.fac, .int .i64 x.fd.at'.sc, .str x.fd.at'.gr, .str x.fd.at'.nm, .int .i64 x.fd.kind, .str x.fd.df, .sl .no (x.fd.cases'.map .str), .int .i64 x.fd.worth, .sl .no (x.fo.map pr), .sl .no (x.ba.map pr)]
theorem pt_lens {cs : List PV} (h : PT Tryz.prog 87 cs) : ∃ x : Ln, cs = lncellsG x ∧ LenLn' x := by
  have h1 : PTs Tryz.prog [3, 44, 9, 9, 2, 84, 85, 85] cs := h.struct_inv Tryz.underlying87
  obtain ⟨a1, b1, rfl, h2, h3⟩ := h1.cons_inv
  obtain ⟨a2, b2, rfl, h4, h5⟩ := h3.cons_inv
  obtain ⟨a3, b3, rfl, h6, h7⟩ := h5.cons_inv
  obtain ⟨a4, b4, rfl, h8, h9⟩ := h7.cons_inv
  obtain ⟨a5, b5, rfl, h10, h11⟩ := h9.cons_inv
  obtain ⟨a6, b6, rfl, h12, h13⟩ := h11.cons_inv
  obtain ⟨a7, b7, rfl, h14, h15⟩ := h13.cons_inv
  obtain ⟨a8, b8, rfl, h16, h17⟩ := h15.cons_inv
  obtain ⟨x1, rfl, _⟩ := h2.int_inv Tryz.underlying3
  obtain ⟨x2, rfl⟩ := pt_ref h4
  obtain ⟨x3, rfl, _⟩ := h6.string_inv Tryz.underlying9
  obtain ⟨x4, rfl, _⟩ := h8.string_inv Tryz.underlying9
  obtain ⟨x5, rfl, _⟩ := h10.int_inv Tryz.underlying2
  obtain ⟨x6, rfl, k6⟩ := pt_fld h12
  obtain ⟨x7, rfl, k7⟩ := pt_prs h14
  obtain ⟨x8, rfl, k8⟩ := pt_prs h16
  rw [h17.nil_inv]
  exact ⟨⟨x1, x2, x3, x4, x5, x6, x7, x8⟩, rfl, ⟨k6, k7, k8⟩⟩
theorem pa_edge {p : PV} (h : PA Tryz.prog 89 p) : ∃ e : Eg, p = eg e ∧ LenLn' e.ln := by
  obtain ⟨cs, rfl, h1⟩ := PA.agg tagg_89 h
  have h1 : PTs Tryz.prog [24, 24, 87] cs := h1.struct_inv Tryz.underlying89
  obtain ⟨a1, b1, rfl, h2, h3⟩ := h1.cons_inv
  obtain ⟨a2, b2, rfl, h4, h5⟩ := h3.cons_inv
  obtain ⟨a3, b3, rfl, h6, h7⟩ := h5.cons_inv
  obtain ⟨x1, rfl⟩ := pt_tag h2
  obtain ⟨x2, rfl⟩ := pt_tag h4
  obtain ⟨x3, rfl, k3⟩ := pt_lens h6
  rw [h7.nil_inv]
  exact ⟨⟨x1, x2, x3⟩, rfl, k3⟩
theorem pa_edges {p : PV} (h : PA Tryz.prog 22 p) : ∃ l : List Eg, p = egs l ∧ l.length ≤ maxLen ∧ ∀ e ∈ l, LenLn' e.ln := by
  obtain ⟨l, rfl, h1, h2⟩ := h.slice oddEgs Tryz.underlying22
  obtain ⟨xs, rfl, h3⟩ := all_told (fun p hp => pa_edge (h2 p hp))
  exact ⟨xs, rfl, by simpa using h1, h3⟩
theorem pa_tag {p : PV} (h : PA Tryz.prog 24 p) : ∃ t : Tg, p = tg t := by
  obtain ⟨cs, rfl, h1⟩ := PA.agg tagg_24 h
  obtain ⟨r, rfl⟩ := pt_tag h1
  exact ⟨r, rfl⟩
end Go.Proofs.YtnadlkjmdimjkaaGreat

set_option linter.unusedSimpArgs false
set_option linter.unusedVariables false
set_option linter.unusedSimpArgs false
set_option linter.unusedVariables false
namespace Go.Proofs.YtnadlkjmdimjkaaGreat
open Go.PL
open Go.ChangeShapes Go.WideShapes Go.ChangeAt Go.RowKit
theorem oddEnts : oddB Tryz.prog 61 = false := by kernel_rfl
theorem oddRows : oddB Tryz.prog 62 = false := by kernel_rfl
theorem pa_ent {p : PV} (h : PA Tryz.prog 128 p) : ∃ e : En, p = ent e ∧ e.l.length ≤ maxLen := by
  obtain ⟨cs, rfl, h1⟩ := PA.agg tagg_128 h
  have h1 : PTs Tryz.prog [44, 2, 40] cs := h1.struct_inv Tryz.underlying128
  obtain ⟨a, b, rfl, h2, h3⟩ := h1.cons_inv
  obtain ⟨c, d, rfl, h4, h5⟩ := h3.cons_inv
  obtain ⟨e, f, rfl, h6, h7⟩ := h5.cons_inv
  obtain ⟨r, rfl⟩ := pt_ref h2
  obtain ⟨n, rfl, _⟩ := h4.int_inv Tryz.underlying2
  obtain ⟨l, rfl, hl⟩ := pt_strs h6
  rw [h7.nil_inv]
  exact ⟨⟨r, n, l⟩, rfl, hl⟩
theorem pt_ents {cs : List PV} (h : PT Tryz.prog 61 cs) : ∃ l : List En, cs = [.sl .no (l.map ent)] ∧ l.length ≤ maxLen ∧ ∀ e ∈ l, e.l.length ≤ maxLen := by
  obtain ⟨l, rfl, h1, h2⟩ := h.slice_inv oddEnts Tryz.underlying61
  obtain ⟨xs, rfl, h3⟩ := all_told (fun p hp => pa_ent (h2 p hp))
  exact ⟨xs, rfl, by simpa using h1, h3⟩
theorem pa_row {p : PV} (h : PA Tryz.prog 130 p) : ∃ r : Rw, p = row r ∧ r.l.length ≤ maxLen ∧ ∀ e ∈ r.l, e.l.length ≤ maxLen := by
  obtain ⟨cs, rfl, h1⟩ := PA.agg tagg_130 h
  have h1 : PTs Tryz.prog [9, 61] cs := h1.struct_inv Tryz.underlying130
  obtain ⟨a, b, rfl, h2, h3⟩ := h1.cons_inv
  obtain ⟨c, d, rfl, h4, h5⟩ := h3.cons_inv
  obtain ⟨s, rfl, _⟩ := h2.string_inv Tryz.underlying9
  obtain ⟨l, rfl, hl⟩ := pt_ents h4
  rw [h5.nil_inv]
  exact ⟨⟨s, l⟩, rfl, hl⟩
theorem pa_doc {p : PV} (h : PA Tryz.prog 64 p) : ∃ d : Dc, p = doc d ∧ Fine d := by
  obtain ⟨cs, rfl, h1⟩ := PA.agg tagg_64 h
  have h1 : PTs Tryz.prog [61, 62] cs := h1.struct_inv Tryz.underlying64
  obtain ⟨a, b, rfl, h2, h3⟩ := h1.cons_inv
  obtain ⟨c, d, rfl, h4, h5⟩ := h3.cons_inv
  obtain ⟨l, rfl, hl⟩ := pt_ents h2
  obtain ⟨m, rfl, h6, h7⟩ := h4.slice_inv oddRows Tryz.underlying62
  obtain ⟨xs, rfl, h8⟩ := all_told (fun p hp => pa_row (h7 p hp))
  rw [h5.nil_inv]
  exact ⟨⟨l, xs⟩, rfl, hl.1, by simpa using h6, hl.2, h8⟩
end Go.Proofs.YtnadlkjmdimjkaaGreat
