/- Contracts of functions and laws of this seat, each for every input that it names: lemmas of the proof. -/
import Derived.Test.YtnadlkjmdimjkaaGreatXCj
import Derived.Test.YtnadlkjmdimjkaaGreatXCd
set_option linter.unusedSimpArgs false
set_option linter.unusedVariables false
set_option linter.unusedSimpArgs false
set_option linter.unusedVariables false
namespace Go.Proofs.YtnadlkjmdimjkaaGreat
open Go.PL
theorem goesF_row (m : List Eg) (a b : Tg) (r : Rf) (hc : pathC m a b = 0) : goesF m a b r = if (traceL (rowM m a b).1 r).2 = false then ⟨3, r, default⟩ else if keptL (rowM m a b).1 r = true then ⟨1, r, (traceL (rowM m a b).1 r).1⟩ else ⟨2, r, (traceL (rowM m a b).1 r).1⟩ := by
  have e1 : traceT m a b r = traceL (rowM m a b).1 r := by unfold traceT; rw [if_neg (by rw [hc]; simp)]
  have e2 : keptT m a b r = keptL (rowM m a b).1 r := by unfold keptT; rw [if_neg (by rw [hc]; simp)]
  unfold goesF
  rw [e1, e2]
theorem sureT_row (m : List Eg) (a b : Tg) (r : Rf) (hc : pathC m a b = 0) : sureT m a b r = sureR (rowM m a b).1.reverse r := by
  unfold sureT
  rw [if_neg (by rw [hc]; simp), sureE_all]
  simp
set_option maxRecDepth 20000 in
set_option maxHeartbeats 32000000 in
theorem RFates_pure (m : List Eg) (a b : Tg) (hm : OkM m) (hr : RightM m) : PL.Pure Tryz.prog 15 [egs m, tg a, tg b] (ftsc (fatesM m a b)) := by
  have hR := RRow_pure m a b hm hr
  obtain ⟨hrl, hro⟩ := row_ok (a := a) (b := b) hm
  have hc2 : (rowM m a b).2 = pathC m a b := by unfold rowM; split <;> simp_all
  unfold fatesM
  by_cases hc : pathC m a b = 0
  · have hSa := RSchema_pure m a hm
    have hSb := RSchema_pure m b hm
    have okA := okSchL hm (pathC_zero.1 hc).1
    have okB := okSchL hm (pathC_zero.1 hc).2
    have hA := fun r => Along_pure (rowM m a b).1 r hrl hro
    have hQ := fun r => RSureAt_pure _ (rowM m a b).1 r rfl hrl hro
    have g0 := fun r => goesF_row m a b r hc
    have s0 := fun r => sureT_row m a b r hc
    have snoc : ∀ k, k < (schM (treeOf m) a).1.length → metF m a b ((schM (treeOf m) a).1.take (k + 1)) = metF m a b ((schM (treeOf m) a).1.take k) ++ (if (goesF m a b ((schM (treeOf m) a).1.getD k default).at').k = 3 then [] else [(goesF m a b ((schM (treeOf m) a).1.getD k default).at').to]) := fun k hk => metF_snoc m a b hk
    have va : (schM (treeOf m) a).2 = 0 := (pathC_zero.1 hc).1
    have vb : (schM (treeOf m) b).2 = 0 := (pathC_zero.1 hc).2
    have ml : ∀ l : List Fd, (metF m a b l).length ≤ l.length := fun l => by
      unfold metF
      have := List.length_filterMap_le (fun x : Ft => if x.k = 3 then none else some x.to) (l.map fun f => goesF m a b f.at')
      simpa using this
    have along : ∀ r, alongD (rowM m a b).1 r = ((traceL (rowM m a b).1 r).1, (traceL (rowM m a b).1 r).2, keptL (rowM m a b).1 r) := fun r => along_eq _ r
    have bad : ∀ r, (traceL (rowM m a b).1 r).2 = false → keptL (rowM m a b).1 r = false := fun r h => (trace_bad _ r h).2
    simp only [← s0] at hQ
    simp only [along] at hA
    rw [hc] at hc2
    rw [hc]
    simp only [ne_eq, not_true_eq_false, if_false]
    generalize schM (treeOf m) a = ya at *
    obtain ⟨A, ca⟩ := ya
    generalize schM (treeOf m) b = yb at *
    obtain ⟨B, cb⟩ := yb
    generalize rowM m a b = rw0 at *
    obtain ⟨row, c0⟩ := rw0
    simp only at *
    subst va vb hc2
    have hAn := okA.n
    have hBn := okB.n
    have hAm : A.length ≤ maxLen := by rw [maxLen_eq]; omega
    have hBm : B.length ≤ maxLen := by rw [maxLen_eq]; omega
    refine PL.Pure.of_v Tryz.func15 (by decide) rfl Tryz.ntmps15 Tryz.results15 (by simp) (ftsc_dids _) ?_
    simp only [go_sem, egs, tg]
    refine vCall_of (hR) ?_ ?_ ?_; (focus simp only [go_sem, egs, tg]); (focus simp only [go_sem, egs, tg])
    simp only [go_sem, lnsc, egs]
    refine vCall_of (hSa) ?_ ?_ ?_; (focus simp only [go_sem, egs, tg]); (focus simp only [go_sem, egs, tg])
    simp only [go_sem, fldsc]
    refine awp_moveRow 10 34 78 0 7 91 [] rfl rfl rfl ?_
    refine awp_moveRow 11 35 72 0 3 44 [] rfl rfl rfl ?_
    refine vLoopM (ι := { x : Nat × (List Rf) // x.1 ≤ (A).length ∧ (x.2 = metF m a b (A.take x.1)) }) 127 (fun x => [(0, egs m), (5, .ptr 5 0), (8, lnss row), (10, .sl (.row 78) (((A.take x.1.1).map fun f => goesF m a b f.at').map ft)), (11, .sl (.row 72) (x.1.2.map ref)), (12, flds A), (14, .int .i64 (x.1.1 : Int))]) (fun x => [(5, tcells b, false)]) (fun x => [(78, .live (x.1.1) (7) (91)), (72, .live (x.1.2.length) (3) (44))]) (fun x => (A).length - x.1.1) ⟨(0, []), Nat.zero_le _, rfl⟩ ⟨rfl, (forall_cons rfl (forall_cons rfl (forall_cons rfl (forall_cons rfl (forall_cons rfl (forall_cons rfl (forall_cons rfl forall_nil))))))), (forall_cons ⟨rfl, rfl⟩ forall_nil), (forall_cons rfl (forall_cons rfl forall_nil))⟩ (fun x => ⟨(forall_cons rfl (forall_cons rfl (forall_cons rfl (forall_cons (by simp [PV.ids, refInM]) (forall_cons (by simp [PV.ids, refInM]) (forall_cons rfl (forall_cons rfl forall_nil))))))), (forall_cons rfl forall_nil)⟩) (fun x => ?_); obtain ⟨⟨k, met⟩, hk, hI⟩ := x; simp only at hk hI ⊢
    by_cases h : (k : Int) < (A.length : Int)
    · (have hka : k < (A).length := by omega); (have w1 := w64s hka (hAm)); (have i1 : (0 : Int) ≤ (k : Int) := by omega)
      have i0 : (0 : Int) ≤ (k : Int) := by omega
      have hsn := snoc k hka
      have htk : ((A.take (k + 1)).map fun f => goesF m a b f.at') = ((A.take k).map fun f => goesF m a b f.at') ++ [goesF m a b (A.getD k default).at'] := by rw [take_snoc (d := default) hka, List.map_append]; rfl
      have hlk : ((A.take k).map fun f => goesF m a b f.at').length = k := by simp; omega
      have hrm := room1 (show k + 1 ≤ 1000000 by omega) (show 88 ≤ 1000 by omega)
      have hml := ml (A.take k)
      rw [← hI] at hml hsn
      have hml2 : met.length ≤ 1000 := by rw [List.length_take] at hml; omega
      have hrm2 := room1 (show met.length + 1 ≤ 1000000 by omega) (show 40 ≤ 1000 by omega)
      have a1 := hA (A.getD k default).at'
      have g1 := g0 (A.getD k default).at'
      have b1 := bad (A.getD k default).at'
      generalize goesF m a b (A.getD k default).at' = g at *
      generalize traceL row (A.getD k default).at' = t at *
      generalize keptL row (A.getD k default).at' = kp at *
      obtain ⟨w, ok⟩ := t
      simp only at g1 a1 b1
      cases ok
      · have := b1 rfl
        subst this
        simp only [if_true] at g1
        subst g1
        simp only [if_true, List.append_nil] at hsn
        simp only [go_sem, flds, h, List.length_map, lnss, getD_fld hka, fld, i0, i1]
        refine vCall_of (a1) ?_ ?_ ?_; (focus simp only [go_sem, lnss, ref]); (focus simp only [go_sem, lnss, ref])
        simp only [go_sem, alc, ref, flds, h, List.length_map, getD_fld hka, fld, i0, i1, sized_ft, hlk, hrm, w1]
        exact ⟨⟨(k + 1, met), by (try simp only); omega, hsn.symm⟩, by show (A).length - (k + 1) < (A).length - k; omega, ⟨rfl, (forall_cons rfl (forall_cons rfl (forall_cons rfl (forall_cons (by (show PV.sl _ _ = PV.sl _ _; rw [htk, List.map_append]; rfl)) (forall_cons (by simp [upd, ref]) (forall_cons rfl (forall_cons rfl forall_nil))))))), (forall_cons ⟨rfl, rfl⟩ forall_nil), (forall_cons rfl (forall_cons (by simp [upd, Hp.setq, St.with]) forall_nil))⟩⟩
      · cases kp
        · simp only [Bool.true_eq_false, if_false, Bool.false_eq_true] at g1
          subst g1
          simp only [Int.reduceEq, if_false] at hsn
          simp only [go_sem, flds, h, List.length_map, lnss, getD_fld hka, fld, i0, i1]
          refine vCall_of (a1) ?_ ?_ ?_; (focus simp only [go_sem, lnss, ref]); (focus simp only [go_sem, lnss, ref])
          simp only [go_sem, alc, ref, flds, h, List.length_map, getD_fld hka, fld, i0, i1, sized_ref, hrm2, sized_ft, hlk, hrm, w1]
          exact ⟨⟨(k + 1, met ++ [w]), by (try simp only); omega, hsn.symm⟩, by show (A).length - (k + 1) < (A).length - k; omega, ⟨rfl, (forall_cons rfl (forall_cons rfl (forall_cons rfl (forall_cons (by (show PV.sl _ _ = PV.sl _ _; rw [htk, List.map_append]; rfl)) (forall_cons (by simp [upd, ref]) (forall_cons rfl (forall_cons rfl forall_nil))))))), (forall_cons ⟨rfl, rfl⟩ forall_nil), (forall_cons rfl (forall_cons (by simp [upd, Hp.setq, St.with]) forall_nil))⟩⟩
        · simp only [Bool.true_eq_false, if_false, if_true] at g1
          subst g1
          simp only [Int.reduceEq, if_false] at hsn
          simp only [go_sem, flds, h, List.length_map, lnss, getD_fld hka, fld, i0, i1]
          refine vCall_of (a1) ?_ ?_ ?_; (focus simp only [go_sem, lnss, ref]); (focus simp only [go_sem, lnss, ref])
          simp only [go_sem, alc, ref, flds, h, List.length_map, getD_fld hka, fld, i0, i1, sized_ref, hrm2, sized_ft, hlk, hrm, w1]
          exact ⟨⟨(k + 1, met ++ [w]), by (try simp only); omega, hsn.symm⟩, by show (A).length - (k + 1) < (A).length - k; omega, ⟨rfl, (forall_cons rfl (forall_cons rfl (forall_cons rfl (forall_cons (by (show PV.sl _ _ = PV.sl _ _; rw [htk, List.map_append]; rfl)) (forall_cons (by simp [upd, ref]) (forall_cons rfl (forall_cons rfl forall_nil))))))), (forall_cons ⟨rfl, rfl⟩ forall_nil), (forall_cons rfl (forall_cons (by simp [upd, Hp.setq, St.with]) forall_nil))⟩⟩
    · obtain rfl : k = A.length := by omega
      have htl : A.take A.length = A := List.take_length
      rw [htl] at hI
      have hml := ml A
      rw [← hI] at hml
      have hmm : met.length ≤ maxLen := by rw [maxLen_eq]; omega
      have hla : (A.map fun f => goesF m a b f.at').length = A.length := by simp
      rw [← hI]
      simp only [go_sem, flds, h, htl, List.length_map, egs, tcells]
      refine vCall_of (hSb) ?_ ?_ ?_; (focus simp only [go_sem, egs, tg]); (focus simp only [go_sem, egs, tg])
      simp only [go_sem, fldsc]
      refine awp_moveRow 10 78 125 A.length 7 91 ((A.map fun f => goesF m a b f.at').map ft) rfl rfl rfl ?_
      refine vLoopM (ι := { k : Nat // k ≤ B.length }) 127 (fun x => [(8, lnss row), (10, .sl (.row 125) (((A.map fun f => goesF m a b f.at') ++ ((B.take x.1).map fun f => lateF m a b met f.at')).map ft)), (11, .sl (.row 72) (met.map ref)), (19, flds B), (21, .int .i64 (x.1 : Int))]) (fun x => []) (fun x => [(125, .live (A.length + x.1) 7 91), (72, .live met.length 3 44)]) (fun x => B.length - x.1) ⟨0, Nat.zero_le _⟩
        ⟨rfl, (forall_cons rfl (forall_cons ?_ (forall_cons rfl (forall_cons rfl (forall_cons rfl forall_nil))))), forall_nil, forall_cons rfl (forall_cons rfl forall_nil)⟩ (fun x => ⟨(forall_cons rfl (forall_cons rfl (forall_cons rfl (forall_cons rfl (forall_cons rfl (forall_nil)))))), forall_nil⟩) (fun x => ?_)
      · show PV.sl _ _ = PV.sl _ _
        simp
      obtain ⟨kc, hkc⟩ := x
      simp only
      by_cases hb : (kc : Int) < (B.length : Int)
      · have hkac : kc < B.length := by omega
        have w1c : IntKind.i64.wrap ((kc : Int) + 1) = ((kc + 1 : Nat) : Int) := by rw [w64 (by omega)]; rfl
        have j0 : (0 : Int) ≤ (kc : Int) := by omega
        have htkc : (A.map fun f => goesF m a b f.at') ++ ((B.take (kc + 1)).map fun f => lateF m a b met f.at') = ((A.map fun f => goesF m a b f.at') ++ ((B.take kc).map fun f => lateF m a b met f.at')) ++ [lateF m a b met (B.getD kc default).at'] := by rw [take_snoc (d := default) hkac, List.map_append, List.append_assoc]; rfl
        have hll : ((A.map fun f => goesF m a b f.at') ++ ((B.take kc).map fun f => lateF m a b met f.at')).length = A.length + kc := by simp; omega
        have hrm := room1 (show A.length + kc + 1 ≤ 1000000 by omega) (show 88 ≤ 1000 by omega)
        have q1 := hQ (B.getD kc default).at'
        have hlate : lateF m a b met (B.getD kc default).at' = ⟨if sureT m a b (B.getD kc default).at' = true then 4 else if (B.getD kc default).at' ∈ met then 5 else 6, (B.getD kc default).at', default⟩ := rfl
        rw [hlate] at htkc
        clear hlate
        generalize sureT m a b (B.getD kc default).at' = su at *
        simp only [go_sem, flds, hb, List.length_map, getD_fld hkac, fld, j0]
        refine vLoopM (ι := { x : Nat × (Int) // x.1 ≤ (met).length ∧ (x.2 = if (B.getD kc default).at' ∈ met.take x.1 then 5 else 6) }) 127 (fun x => [(8, lnss row), (10, .sl (.row 125) (((A.map fun f => goesF m a b f.at') ++ ((B.take kc).map fun f => lateF m a b met f.at')).map ft)), (11, .sl (.row 72) (met.map ref)), (19, flds B), (21, .int .i64 (kc : Int)), (22, .ptr 22 0), (23, .int .i64 (x.1.1 : Int))]) (fun x => [(22, [.int .i64 x.1.2, .int .i64 (B.getD kc default).at'.sc, .str (B.getD kc default).at'.gr, .str (B.getD kc default).at'.nm, .int .i64 0, .str [], .str []], false)]) (fun x => [(125, .live (A.length + kc) (7) (91)), (72, .live (met.length) (3) (44))]) (fun x => (met).length - x.1.1) ⟨(0, 6), Nat.zero_le _, rfl⟩ ⟨rfl, (forall_cons rfl (forall_cons rfl (forall_cons rfl (forall_cons rfl (forall_cons rfl (forall_cons rfl (forall_cons rfl forall_nil))))))), (forall_cons ⟨rfl, rfl⟩ forall_nil), (forall_cons rfl (forall_cons rfl forall_nil))⟩ (fun x => ⟨(forall_cons rfl (forall_cons (by simp [PV.ids, refInM]) (forall_cons (by simp [PV.ids, refInM]) (forall_cons rfl (forall_cons rfl (forall_cons rfl (forall_cons rfl forall_nil))))))), (forall_cons rfl forall_nil)⟩) (fun x => ?_); obtain ⟨⟨ke, kd⟩, hke, hIe⟩ := x; simp only at hke hIe ⊢
        by_cases hd : (ke : Int) < (met.length : Int)
        · (have hkae : ke < (met).length := by omega); (have w1e := w64s hkae (hmm)); (have i1e : (0 : Int) ≤ (ke : Int) := by omega)
          have hts : met.take (ke + 1) = met.take ke ++ [met.getD ke default] := take_snoc (d := default) hkae
          by_cases he : met.getD ke default = (B.getD kc default).at'
          · have he' : decide (met.getD ke default = (B.getD kc default).at') = true := by simpa using he
            simp only [go_sem, hd, List.length_map]
            refine vDrawQ (by kernel_rfl) (by kernel_rfl) ?_
            simp only [go_sem, getD_ref hkae, flds, ref, fld, getD_fld hkac, j0, i1e, hb, hd, List.length_map, ref_fold, he', w1e]
            exact ⟨⟨(ke + 1, 5), by (try simp only); omega, by rw [if_pos]; rw [hts, List.mem_append, List.mem_singleton]; exact .inr he.symm⟩, by show (met).length - (ke + 1) < (met).length - ke; omega, ⟨rfl, (forall_cons rfl (forall_cons rfl (forall_cons rfl (forall_cons rfl (forall_cons rfl (forall_cons rfl (forall_cons rfl forall_nil))))))), (forall_cons ⟨rfl, rfl⟩ forall_nil), (forall_cons rfl (forall_cons rfl forall_nil))⟩⟩
          · have he' : decide (met.getD ke default = (B.getD kc default).at') = false := by simpa using he
            simp only [go_sem, hd, List.length_map]
            refine vDrawQ (by kernel_rfl) (by kernel_rfl) ?_
            simp only [go_sem, getD_ref hkae, flds, ref, fld, getD_fld hkac, j0, i1e, hb, hd, List.length_map, ref_fold, he', w1e]
            exact ⟨⟨(ke + 1, kd), by (try simp only); omega, by rw [hIe, hts]; simp only [List.mem_append, List.mem_singleton, show ¬ (B.getD kc default).at' = met.getD ke default from fun e => he e.symm, or_false]⟩, by show (met).length - (ke + 1) < (met).length - ke; omega, ⟨rfl, (forall_cons rfl (forall_cons rfl (forall_cons rfl (forall_cons rfl (forall_cons rfl (forall_cons rfl (forall_cons rfl forall_nil))))))), (forall_cons ⟨rfl, rfl⟩ forall_nil), (forall_cons rfl (forall_cons rfl forall_nil))⟩⟩
        · obtain rfl : ke = met.length := by omega
          rw [show met.take met.length = met from List.take_length] at hIe
          rw [← hIe] at htkc
          cases su
          all_goals
            simp only [go_sem, hd, flds, List.length_map, getD_fld hkac, fld, j0, hb]
            refine vCall_of (q1) ?_ ?_ ?_; (focus simp only [go_sem, lnss, ref]); (focus simp only [go_sem, lnss, ref])
            simp only [go_sem, sized_ft, List.length_map, hll, hrm, w1c]
            refine ⟨⟨kc + 1, by omega⟩, by show B.length - (kc + 1) < B.length - kc; omega, ⟨rfl, (forall_cons rfl (forall_cons ?_ (forall_cons rfl (forall_cons rfl (forall_cons rfl forall_nil))))), forall_nil, forall_cons rfl (forall_cons rfl forall_nil)⟩⟩
            show PV.sl _ _ = PV.sl _ _
            rw [htkc]
            simp only [List.map_append, List.map_cons, List.map_nil]
            rfl
      · obtain rfl : kc = B.length := by omega
        have htb : B.take B.length = B := List.take_length
        simp only [go_sem, flds, hb, htb, List.length_map, ftsc, fts]
  · have hc' : (pathC m a b != 0) = true := by simpa using hc
    simp only [ne_eq, hc, not_false_eq_true, if_true]
    generalize rowM m a b = rw0 at *
    obtain ⟨row, c0⟩ := rw0
    simp only at hc2
    subst hc2
    refine PL.Pure.of_v Tryz.func15 (by decide) rfl Tryz.ntmps15 Tryz.results15 (by simp) (ftsc_dids _) ?_
    simp only [go_sem, egs, tg]
    refine vCall_of (hR) ?_ ?_ ?_; (focus simp only [go_sem, egs, tg]); (focus simp only [go_sem, egs, tg])
    simp only [go_sem, lnsc, hc', ftsc, fts, List.map_nil]
end Go.Proofs.YtnadlkjmdimjkaaGreat

set_option linter.unusedSimpArgs false
set_option linter.unusedVariables false
set_option linter.unusedSimpArgs false
set_option linter.unusedVariables false
namespace Go.Proofs.YtnadlkjmdimjkaaGreat
open Go.PL
def keepF (x : Ft) : Bool := (x.k == 1) || (x.k == 4)
def safeM (m : List Eg) (a b : Tg) : Bool := (fatesM m a b).1.all keepF
theorem fates_len {m : List Eg} (hm : OkM m) (a b : Tg) : (fatesM m a b).1.length ≤ 2000 := by
  unfold fatesM
  split
  · simp
  · rename_i hc
    have hc := Classical.not_not.1 hc
    have h1 := (okSchL hm (pathC_zero.1 hc).1).n
    have h2 := (okSchL hm (pathC_zero.1 hc).2).n
    simp
    omega
theorem fates_code (m : List Eg) (a b : Tg) : (fatesM m a b).2 = pathC m a b := by
  unfold fatesM
  split
  · rfl
  · rename_i h; exact (Classical.not_not.1 h).symm
def safec (m : List Eg) (a b : Tg) : PV := .tup [.bool (if pathC m a b ≠ 0 then false else safeM m a b), .int .i64 (pathC m a b)]
set_option maxRecDepth 20000 in
set_option maxHeartbeats 16000000 in
theorem LSafe_pure (m : List Eg) (a b : Tg) (hm : OkM m) (hr : RightM m) : PL.Pure Tryz.prog 16 [tr (treeOf m), tg a, tg b] (safec m a b) := by
  have hF := LFates_pure m a b hm hr
  have hl := fates_len hm a b
  have hcode := fates_code m a b
  unfold safec safeM
  generalize fatesM m a b = y at *
  obtain ⟨l, c⟩ := y
  simp only at hl hcode
  subst hcode
  by_cases hc : pathC m a b = 0
  · have hlm : l.length ≤ maxLen := by rw [maxLen_eq]; omega
    rw [hc] at hF ⊢
    simp only [ne_eq, not_true_eq_false, if_false]
    refine PL.Pure.of_v Tryz.func16 (by decide) rfl Tryz.ntmps16 Tryz.results16 (by simp) (rfl) ?_
    simp only [go_sem, tr, tg]
    refine vCall_of (hF) ?_ ?_ ?_; (focus simp only [go_sem, tr, tg]); (focus simp only [go_sem, tr, tg])
    simp only [go_sem, ftsc, fts, List.length_map]
    refine vLoopM (ι := { x : Nat // x ≤ (l).length ∧ (∀ j, j < x → keepF (l.getD j default) = true) }) 37 (fun x => [(22, fts l), (23, .int .i64 (l.length : Int)), (24, .int .i64 (x.1 : Int))]) (fun x => []) (fun x => []) (fun x => (l).length - x.1) ⟨0, Nat.zero_le _, fun j hj => absurd hj (Nat.not_lt_zero j)⟩ ⟨rfl, (forall_cons rfl (forall_cons rfl (forall_cons rfl forall_nil))), forall_nil, forall_nil⟩ (fun x => ⟨(forall_cons rfl (forall_cons rfl (forall_cons rfl forall_nil))), forall_nil⟩) (fun x => ?_); obtain ⟨k, hk, hI⟩ := x; simp only at hk hI ⊢
    by_cases h : (k : Int) < (l.length : Int)
    · (have hka : k < (l).length := by omega); (have w1 := w64s hka (hlm)); (have i1 : (0 : Int) ≤ (k : Int) := by omega)
      cases h1 : ((l.getD k default).k == 1)
      · cases h4 : ((l.getD k default).k == 4)
        · have hz := all_false (p := keepF) (l := l) (d := default) hka (by simp only [keepF, h1, h4, Bool.or_self])
          have e1 : ((l.getD k default).k != 1) = true := by rw [bne, h1]; rfl
          have e4 : ((l.getD k default).k != 4) = true := by rw [bne, h4]; rfl
          simp only [go_sem, fts, h, getD_ft hka, ft, i1, e1, e4, hz]
        · have ok : keepF (l.getD k default) = true := by simp only [keepF, h4, Bool.or_true]
          have e1 : ((l.getD k default).k != 1) = true := by rw [bne, h1]; rfl
          have e4 : ((l.getD k default).k != 4) = false := by rw [bne, h4]; rfl
          simp only [go_sem, fts, h, getD_ft hka, ft, i1, e1, e4, w1]
          exact ⟨⟨k + 1, by (try simp only); omega, below_succ hI ok⟩, by show (l).length - (k + 1) < (l).length - k; omega, ⟨rfl, (forall_cons rfl (forall_cons rfl (forall_cons rfl forall_nil))), forall_nil, forall_nil⟩⟩
      · have ok : keepF (l.getD k default) = true := by simp only [keepF, h1, Bool.true_or]
        have e1 : ((l.getD k default).k != 1) = false := by rw [bne, h1]; rfl
        simp only [go_sem, fts, h, getD_ft hka, ft, i1, e1, w1]
        exact ⟨⟨k + 1, by (try simp only); omega, below_succ hI ok⟩, by show (l).length - (k + 1) < (l).length - k; omega, ⟨rfl, (forall_cons rfl (forall_cons rfl (forall_cons rfl forall_nil))), forall_nil, forall_nil⟩⟩
    · have hz := all_true (p := keepF) (d := default) (l := l) (fun j hj => hI j (by omega))
      simp only [go_sem, fts, h, hz]
  · have hc' : (pathC m a b != 0) = true := by simpa using hc
    rw [if_pos hc]
    refine PL.Pure.of_v Tryz.func16 (by decide) rfl Tryz.ntmps16 Tryz.results16 (by simp) (rfl) ?_
    simp only [go_sem, tr, tg]
    refine vCall_of (hF) ?_ ?_ ?_; (focus simp only [go_sem, tr, tg]); (focus simp only [go_sem, tr, tg])
    simp only [go_sem, ftsc, fts, hc']
set_option maxRecDepth 20000 in
set_option maxHeartbeats 16000000 in
theorem RSafe_pure (m : List Eg) (a b : Tg) (hm : OkM m) (hr : RightM m) : PL.Pure Tryz.prog 17 [egs m, tg a, tg b] (safec m a b) := by
  have hF := RFates_pure m a b hm hr
  have hl := fates_len hm a b
  have hcode := fates_code m a b
  unfold safec safeM
  generalize fatesM m a b = y at *
  obtain ⟨l, c⟩ := y
  simp only at hl hcode
  subst hcode
  by_cases hc : pathC m a b = 0
  · have hlm : l.length ≤ maxLen := by rw [maxLen_eq]; omega
    rw [hc] at hF ⊢
    simp only [ne_eq, not_true_eq_false, if_false]
    refine PL.Pure.of_v Tryz.func17 (by decide) rfl Tryz.ntmps17 Tryz.results17 (by simp) (rfl) ?_
    simp only [go_sem, egs, tg]
    refine vCall_of (hF) ?_ ?_ ?_; (focus simp only [go_sem, egs, tg]); (focus simp only [go_sem, egs, tg])
    simp only [go_sem, ftsc]
    refine vLoopM (ι := { x : Nat // x ≤ (l).length ∧ (∀ j, j < x → keepF (l.getD j default) = true) }) 41 (fun x => [(8, fts l), (10, .int .i64 (x.1 : Int))]) (fun x => []) (fun x => []) (fun x => (l).length - x.1) ⟨0, Nat.zero_le _, fun j hj => absurd hj (Nat.not_lt_zero j)⟩ ⟨rfl, (forall_cons rfl (forall_cons rfl forall_nil)), forall_nil, forall_nil⟩ (fun x => ⟨(forall_cons rfl (forall_cons rfl forall_nil)), forall_nil⟩) (fun x => ?_); obtain ⟨k, hk, hI⟩ := x; simp only at hk hI ⊢
    by_cases h : (k : Int) < (l.length : Int)
    · (have hka : k < (l).length := by omega); (have w1 := w64s hka (hlm)); (have i1 : (0 : Int) ≤ (k : Int) := by omega)
      cases h1 : ((l.getD k default).k == 1)
      · cases h4 : ((l.getD k default).k == 4)
        · have hz := all_false (p := keepF) (l := l) (d := default) hka (by simp only [keepF, h1, h4, Bool.or_self])
          have e1 : ((l.getD k default).k != 1) = true := by rw [bne, h1]; rfl
          have e4 : ((l.getD k default).k != 4) = true := by rw [bne, h4]; rfl
          simp only [go_sem, fts, h, List.length_map, getD_ft hka, ft, i1, e1, e4, hz]
        · have ok : keepF (l.getD k default) = true := by simp only [keepF, h4, Bool.or_true]
          have e1 : ((l.getD k default).k != 1) = true := by rw [bne, h1]; rfl
          have e4 : ((l.getD k default).k != 4) = false := by rw [bne, h4]; rfl
          simp only [go_sem, fts, h, List.length_map, getD_ft hka, ft, i1, e1, e4, w1]
          exact ⟨⟨k + 1, by (try simp only); omega, below_succ hI ok⟩, by show (l).length - (k + 1) < (l).length - k; omega, ⟨rfl, (forall_cons rfl (forall_cons rfl forall_nil)), forall_nil, forall_nil⟩⟩
      · have ok : keepF (l.getD k default) = true := by simp only [keepF, h1, Bool.true_or]
        have e1 : ((l.getD k default).k != 1) = false := by rw [bne, h1]; rfl
        simp only [go_sem, fts, h, List.length_map, getD_ft hka, ft, i1, e1, w1]
        exact ⟨⟨k + 1, by (try simp only); omega, below_succ hI ok⟩, by show (l).length - (k + 1) < (l).length - k; omega, ⟨rfl, (forall_cons rfl (forall_cons rfl forall_nil)), forall_nil, forall_nil⟩⟩
    · have hz := all_true (p := keepF) (d := default) (l := l) (fun j hj => hI j (by omega))
      simp only [go_sem, fts, h, List.length_map, hz]
  · have hc' : (pathC m a b != 0) = true := by simpa using hc
    rw [if_pos hc]
    refine PL.Pure.of_v Tryz.func17 (by decide) rfl Tryz.ntmps17 Tryz.results17 (by simp) (rfl) ?_
    simp only [go_sem, egs, tg]
    refine vCall_of (hF) ?_ ?_ ?_; (focus simp only [go_sem, egs, tg]); (focus simp only [go_sem, egs, tg])
    simp only [go_sem, ftsc, fts, hc']
theorem path_sym {m : List Eg} {a b : Tg} : pathC m a b = 0 ↔ pathC m b a = 0 := by
  rw [pathC_zero, pathC_zero]; exact And.comm
def twinsM (m : List Eg) (a b : Tg) : Bool := safeM m a b && safeM m b a
def twinsc (m : List Eg) (a b : Tg) : PV := .tup [.bool (if pathC m a b ≠ 0 then false else twinsM m a b), .int .i64 (pathC m a b)]
set_option maxRecDepth 20000 in
set_option maxHeartbeats 16000000 in
theorem LTwins_pure (m : List Eg) (a b : Tg) (hm : OkM m) (hr : RightM m) : PL.Pure Tryz.prog 18 [tr (treeOf m), tg a, tg b] (twinsc m a b) := by
  have h1 := LSafe_pure m a b hm hr
  have h2 := LSafe_pure m b a hm hr
  unfold twinsc twinsM
  unfold safec at h1 h2
  by_cases hc : pathC m a b = 0
  · have hd := path_sym.1 hc
    rw [hc] at h1 ⊢
    rw [hd] at h2
    simp only [ne_eq, not_true_eq_false, if_false] at h1 h2 ⊢
    generalize safeM m a b = x at *
    generalize safeM m b a = y at *
    cases x
    · refine PL.Pure.of_v Tryz.func18 (by decide) rfl Tryz.ntmps18 Tryz.results18 (by simp) (rfl) ?_
      simp only [go_sem, tr, tg]
      refine vCall_of (h1) ?_ ?_ ?_; (focus simp only [go_sem, tr, tg]); (focus simp only [go_sem, tr, tg])
      simp only [go_sem]
      refine vCall_of (h2) ?_ ?_ ?_; (focus simp only [go_sem, tr, tg]); (focus simp only [go_sem, tr, tg])
      simp only [go_sem, Bool.false_and]
    · refine PL.Pure.of_v Tryz.func18 (by decide) rfl Tryz.ntmps18 Tryz.results18 (by simp) (rfl) ?_
      simp only [go_sem, tr, tg]
      refine vCall_of (h1) ?_ ?_ ?_; (focus simp only [go_sem, tr, tg]); (focus simp only [go_sem, tr, tg])
      simp only [go_sem]
      refine vCall_of (h2) ?_ ?_ ?_; (focus simp only [go_sem, tr, tg]); (focus simp only [go_sem, tr, tg])
      simp only [go_sem, Bool.true_and]
  · have hc' : (pathC m a b != 0) = true := by simpa using hc
    rw [if_pos hc] at h1
    rw [if_pos hc]
    refine PL.Pure.of_v Tryz.func18 (by decide) rfl Tryz.ntmps18 Tryz.results18 (by simp) (rfl) ?_
    simp only [go_sem, tr, tg]
    refine vCall_of (h1) ?_ ?_ ?_; (focus simp only [go_sem, tr, tg]); (focus simp only [go_sem, tr, tg])
    simp only [go_sem, hc']
theorem ft_fold (a b : Ft) : (a.k == b.k && (a.at'.sc == b.at'.sc && (a.at'.gr == b.at'.gr && (a.at'.nm == b.at'.nm && (a.to.sc == b.to.sc && (a.to.gr == b.to.gr && a.to.nm == b.to.nm)))))) = decide (a = b) := by
  obtain ⟨k, ⟨s1, g1, n1⟩, ⟨s2, g2, n2⟩⟩ := a
  obtain ⟨k', ⟨s1', g1', n1'⟩, ⟨s2', g2', n2'⟩⟩ := b
  rw [Bool.eq_iff_iff]
  simp [and_assoc]
end Go.Proofs.YtnadlkjmdimjkaaGreat

set_option linter.unusedSimpArgs false
set_option linter.unusedVariables false
set_option linter.unusedSimpArgs false
set_option linter.unusedVariables false
namespace Go.Proofs.YtnadlkjmdimjkaaGreat
open Go.PL
set_option maxHeartbeats 4000000 in
theorem RFtSame_pure (a b : List Ft) (ha : a.length ≤ maxLen) (hb : b.length ≤ maxLen) : PL.Pure Tryz.prog 19 [fts a, fts b] (.bool (decide (a = b))) := by
  by_cases hl : a.length = b.length
  · have hl' : ((a.length : Int) != (b.length : Int)) = false := by rw [hl]; exact bne_self_eq_false _
    refine PL.Pure.of_v Tryz.func19 (by decide) rfl Tryz.ntmps19 Tryz.results19 (by simp) rfl ?_
    simp only [go_sem, fts, hl', List.length_map]
    refine vLoopM (ι := { x : Nat // x ≤ (a).length ∧ (∀ j, j < x → a.getD j default = b.getD j default) }) 26 (fun x => [(0, fts a), (1, fts b), (5, .int .i64 (x.1 : Int))]) (fun x => []) (fun x => []) (fun x => (a).length - x.1) ⟨0, Nat.zero_le _, fun j hj => absurd hj (Nat.not_lt_zero j)⟩ ⟨rfl, (forall_cons rfl (forall_cons rfl (forall_cons rfl forall_nil))), forall_nil, forall_nil⟩ (fun x => ⟨(forall_cons rfl (forall_cons rfl (forall_cons rfl forall_nil))), forall_nil⟩) (fun x => ?_); obtain ⟨k, hk, hI⟩ := x; simp only at hk hI ⊢
    by_cases h : (k : Int) < (a.length : Int)
    · (have hka : k < (a).length := by omega); (have w1 := w64s hka (ha)); (have i1 : (0 : Int) ≤ (k : Int) := by omega)
      have hkb : k < b.length := by omega
      have i2 : (k : Int) < (b.length : Int) := by omega
      by_cases he : a.getD k default = b.getD k default
      · have he' : decide (a.getD k default = b.getD k default) = true := decide_eq_true he
        simp only [go_sem, fts, h, List.length_map]
        refine vDrawQ (by kernel_rfl) (by kernel_rfl) ?_
        simp only [go_sem, getD_ft hka, getD_ft hkb, h, i1, i2, ft, ft_fold, he', w1, List.length_map]
        exact ⟨⟨k + 1, by (try simp only); omega, below_succ hI he⟩, by show (a).length - (k + 1) < (a).length - k; omega, ⟨rfl, (forall_cons rfl (forall_cons rfl (forall_cons rfl forall_nil))), forall_nil, forall_nil⟩⟩
      · have he' : decide (a.getD k default = b.getD k default) = false := decide_eq_false he
        have hab : ¬ a = b := ne_of_getD he
        simp only [go_sem, fts, h, List.length_map]
        refine vDrawQ (by kernel_rfl) (by kernel_rfl) ?_
        simp only [go_sem, getD_ft hka, getD_ft hkb, h, i1, i2, ft, ft_fold, he', hab, List.length_map]
    · have hab : decide (a = b) = true := decide_eq_true (eq_of_getD (d := default) hl fun j hj => hI j (by omega))
      simp only [go_sem, fts, h, hab, List.length_map]
  · have hl' : ((a.length : Int) != (b.length : Int)) = true := bne_iff_ne.2 (by omega)
    have hab : ¬ a = b := fun e => hl (by rw [e])
    refine PL.Pure.of_v Tryz.func19 (by decide) rfl Tryz.ntmps19 Tryz.results19 (by simp) rfl ?_
    simp only [go_sem, fts, hl', hab, List.length_map]
def wordM (k : Int) : Str := if k = 1 then [119, 104, 111, 108, 101] else if k = 2 then [97, 108, 116, 101, 114, 101, 100] else if k = 3 then [108, 111, 115, 116] else if k = 4 then [115, 117, 114, 101] else if k = 5 then [103, 117, 101, 115, 115, 101, 100] else if k = 6 then [98, 108, 97, 110, 107] else [63]
set_option maxHeartbeats 4000000 in
theorem LWord_pure (k : Int) : PL.Pure Tryz.prog 58 [.int .i64 k] (.str (wordM k)) := by
  unfold wordM
  refine PL.Pure.of_v Tryz.func58 (by decide) rfl Tryz.ntmps58 Tryz.results58 (by simp) rfl ?_
  simp only [go_sem]
  repeat' (first | (refine vGuard_t (fun h => ?_) (fun h => ?_) <;> (try simp only [go_sem, h])) | (refine vGuard_f (fun h => ?_) (fun h => ?_) <;> (try simp only [go_sem, h])) | (refine vCond_b (fun h => ?_) (fun h => ?_) <;> (try simp only [go_sem, h])) | ((refine vDrawQ (by kernel_rfl) (by kernel_rfl) ?_); (try simp only [go_sem])))
  all_goals simp_all
theorem word_len (k : Int) : (wordM k).length ≤ 7 := by
  unfold wordM
  repeat' split
  all_goals decide
def lineF (x : Ft) : Str := wordM x.k ++ ([32] ++ (printM x.at' ++ (if x.k = 1 ∨ x.k = 2 then [32] ++ printM x.to else [])))
set_option maxRecDepth 20000 in
set_option maxHeartbeats 16000000 in
theorem LLines_pure (l : List Ft) (hl : l.length ≤ 2000) : PL.Pure Tryz.prog 21 [fts l] (strs (l.map lineF)) := by
  have hm : l.length ≤ maxLen := by rw [maxLen_eq]; omega
  refine PL.Pure.of_v Tryz.func21 (by decide) rfl Tryz.ntmps21 Tryz.results21 (by simp) (strs_dids _) ?_
  simp only [go_sem, fts, List.length_map]
  refine awp_nilRow 3 38 1 9 rfl rfl ?_
  refine vLoopM (ι := { x : Nat // x ≤ (l).length }) 41 (fun x => [(3, .sl (.row 38) (((l.take x.1).map lineF).map .str)), (7, fts l), (8, .int .i64 (l.length : Int)), (9, .int .i64 (x.1 : Int))]) (fun x => []) (fun x => [(38, .live (x.1) (1) (9))]) (fun x => (l).length - x.1) ⟨0, Nat.zero_le _⟩ ⟨rfl, (forall_cons rfl (forall_cons rfl (forall_cons rfl (forall_cons rfl forall_nil)))), forall_nil, (forall_cons rfl forall_nil)⟩ (fun x => ⟨(forall_cons (by simp [PV.ids, refInM]) (forall_cons rfl (forall_cons rfl (forall_cons rfl forall_nil)))), forall_nil⟩) (fun x => ?_); obtain ⟨k, hk⟩ := x; simp only at hk ⊢
  by_cases h : (k : Int) < (l.length : Int)
  · (have hka : k < (l).length := by omega); (have w1 := w64s hka (hm)); (have i1 : (0 : Int) ≤ (k : Int) := by omega)
    have hts : (l.take (k + 1)).map lineF = (l.take k).map lineF ++ [lineF (l.getD k default)] := by rw [take_snoc (d := default) hka, List.map_append]; rfl
    have hlk : ((l.take k).map lineF).length = k := by simp; omega
    have hrm := room1 (show k + 1 ≤ 1000000 by omega) (show 16 ≤ 1000 by omega)
    have hW := LWord_pure (l.getD k default).k
    have hP := Print_pure (l.getD k default).at'
    have hQ := Print_pure (l.getD k default).to
    have l1 := word_len (l.getD k default).k
    have l2 := print_len (l.getD k default).at'
    have l3 := print_len (l.getD k default).to
    have hln : lineF (l.getD k default) = wordM (l.getD k default).k ++ ([32] ++ (printM (l.getD k default).at' ++ (if (l.getD k default).k = 1 ∨ (l.getD k default).k = 2 then [32] ++ printM (l.getD k default).to else []))) := rfl
    generalize wordM (l.getD k default).k = w at *
    generalize printM (l.getD k default).at' = p at *
    generalize printM (l.getD k default).to = q at *
    have b1 : ((w.length : Int) + 1 ≤ 9223372036854775807) := by omega
    have b2 : (((w ++ [32]).length : Int) + (p.length : Int) ≤ 9223372036854775807) := by simp only [List.length_append, List.length_cons, List.length_nil]; omega
    have b3 : ((q.length : Int) + 1 ≤ 9223372036854775807) := by omega
    cases h1 : ((l.getD k default).k == 1)
    · cases h2 : ((l.getD k default).k == 2)
      · have hn : ¬ ((l.getD k default).k = 1 ∨ (l.getD k default).k = 2) := by
          rw [beq_eq_false_iff_ne] at h1 h2; omega
        rw [if_neg hn] at hln
        simp only [go_sem, fts, h, getD_ft hka, ft, i1]
        refine vDrawQ (by kernel_rfl) (by kernel_rfl) ?_
        simp only [go_sem]
        refine vCall_of (hW) ?_ ?_ ?_; (focus simp only [go_sem]); (focus simp only [go_sem])
        simp only [go_sem, b1]
        refine vCall_of (hP) ?_ ?_ ?_; (focus simp only [go_sem, ref]); (focus simp only [go_sem, ref])
        simp only [go_sem, h1, h2, b2, sized_str, List.length_map, hlk, hrm, w1]
        exact ⟨⟨k + 1, by (try simp only); omega⟩, by show (l).length - (k + 1) < (l).length - k; omega, ⟨rfl, (forall_cons (by (show PV.sl _ _ = PV.sl _ _; rw [hts, hln, List.map_append]; simp)) (forall_cons rfl (forall_cons rfl (forall_cons rfl forall_nil)))), forall_nil, (forall_cons rfl forall_nil)⟩⟩
      · have hn : (l.getD k default).k = 1 ∨ (l.getD k default).k = 2 := by
          rw [beq_iff_eq] at h2; omega
        rw [if_pos hn] at hln
        simp only [go_sem, fts, h, getD_ft hka, ft, i1]
        refine vDrawQ (by kernel_rfl) (by kernel_rfl) ?_
        simp only [go_sem]
        refine vCall_of (hW) ?_ ?_ ?_; (focus simp only [go_sem]); (focus simp only [go_sem])
        simp only [go_sem, b1]
        refine vCall_of (hP) ?_ ?_ ?_; (focus simp only [go_sem, ref]); (focus simp only [go_sem, ref])
        simp only [go_sem, h1, h2, b2]
        refine vCall_of (hQ) ?_ ?_ ?_; (focus simp only [go_sem, ref]); (focus simp only [go_sem, ref])
        simp only [go_sem, sized_str, List.length_map, hlk, hrm, w1]
        refine ⟨by omega, by simp only [List.length_append, List.length_cons, List.length_nil]; omega, ?_⟩
        exact ⟨⟨k + 1, by (try simp only); omega⟩, by show (l).length - (k + 1) < (l).length - k; omega, ⟨rfl, (forall_cons (by (show PV.sl _ _ = PV.sl _ _; rw [hts, hln, List.map_append]; simp)) (forall_cons rfl (forall_cons rfl (forall_cons rfl forall_nil)))), forall_nil, (forall_cons rfl forall_nil)⟩⟩
    · have hn : (l.getD k default).k = 1 ∨ (l.getD k default).k = 2 := by
        rw [beq_iff_eq] at h1; omega
      rw [if_pos hn] at hln
      simp only [go_sem, fts, h, getD_ft hka, ft, i1]
      refine vDrawQ (by kernel_rfl) (by kernel_rfl) ?_
      simp only [go_sem]
      refine vCall_of (hW) ?_ ?_ ?_; (focus simp only [go_sem]); (focus simp only [go_sem])
      simp only [go_sem, b1]
      refine vCall_of (hP) ?_ ?_ ?_; (focus simp only [go_sem, ref]); (focus simp only [go_sem, ref])
      simp only [go_sem, h1, b2]
      refine vCall_of (hQ) ?_ ?_ ?_; (focus simp only [go_sem, ref]); (focus simp only [go_sem, ref])
      simp only [go_sem, sized_str, List.length_map, hlk, hrm, w1]
      refine ⟨by omega, by simp only [List.length_append, List.length_cons, List.length_nil]; omega, ?_⟩
      exact ⟨⟨k + 1, by (try simp only); omega⟩, by show (l).length - (k + 1) < (l).length - k; omega, ⟨rfl, (forall_cons (by (show PV.sl _ _ = PV.sl _ _; rw [hts, hln, List.map_append]; simp)) (forall_cons rfl (forall_cons rfl (forall_cons rfl forall_nil)))), forall_nil, (forall_cons rfl forall_nil)⟩⟩
  · obtain rfl : k = l.length := by omega
    have htl : l.take l.length = l := List.take_length
    simp only [go_sem, h, htl, strs]
end Go.Proofs.YtnadlkjmdimjkaaGreat
