/- Contracts of functions and laws of this seat, each for every input that it names: lemmas of the proof. -/
import Derived.Test.YtnadlkjmdimjkaaGreatXBx
set_option linter.unusedSimpArgs false
set_option linter.unusedVariables false
set_option linter.unusedSimpArgs false
set_option linter.unusedVariables false
namespace Go.Proofs.YtnadlkjmdimjkaaGreat
open Go.PL
set_option maxRecDepth 20000 in
set_option maxHeartbeats 8000000 in
theorem RWith_pure (l : List Fd) (f : Fd) (hl : OkFs l) (hf : f.cases'.length ≤ 1000000) : PL.Pure Tryz.prog 212 [flds l, fld f] (fldsc (withM l f)) := by
  have hn := hl.n
  have hm : l.length ≤ maxLen := by rw [maxLen_eq]; omega
  have hR := RRightL_pure l hm (fun g hg => by have := hl.c g hg; rw [maxLen_eq]; omega)
  have hF := RRight_pure f (by rw [maxLen_eq]; omega)
  have hI : PL.Pure Tryz.prog 149 [flds l, ref f.at'] (.int .i64 (idx (atF f.at') l)) := RAt_pure l f.at' hm
  unfold withM
  cases hr : rightL l
  · rw [hr] at hR
    simp only [true_or, if_true]
    refine PL.Pure.of_v Tryz.func212 (by decide) rfl Tryz.ntmps212 Tryz.results212 (by simp) (fldsc_dids _) ?_
    simp only [go_sem, flds, fld]
    refine vCall_of (hR) ?_ ?_ ?_; (focus simp only [go_sem, flds]); (focus simp only [go_sem, flds])
    simp only [go_sem, fldsc, flds, List.map_nil]
  · rw [hr] at hR
    cases hrf : rightF f
    · rw [hrf] at hF
      simp only [or_true, if_true]
      refine PL.Pure.of_v Tryz.func212 (by decide) rfl Tryz.ntmps212 Tryz.results212 (by simp) (fldsc_dids _) ?_
      simp only [go_sem, flds, fld]
      refine vCall_of (hR) ?_ ?_ ?_; (focus simp only [go_sem, flds]); (focus simp only [go_sem, flds])
      simp only [go_sem]
      refine vCall_of (hF) ?_ ?_ ?_; (focus simp only [go_sem, fld]); (focus simp only [go_sem, fld])
      simp only [go_sem, fldsc, flds, List.map_nil]
    · rw [hrf] at hF
      simp only [Bool.true_eq_false, or_self, if_false]
      by_cases h2 : (0 : Int) ≤ idx (atF f.at') l
      · rw [if_pos h2]
        refine PL.Pure.of_v Tryz.func212 (by decide) rfl Tryz.ntmps212 Tryz.results212 (by simp) (fldsc_dids _) ?_
        simp only [go_sem, flds, fld]
        refine vCall_of (hR) ?_ ?_ ?_; (focus simp only [go_sem, flds]); (focus simp only [go_sem, flds])
        simp only [go_sem]
        refine vCall_of (hF) ?_ ?_ ?_; (focus simp only [go_sem, fld]); (focus simp only [go_sem, fld])
        simp only [go_sem]
        refine vCall_of (hI) ?_ ?_ ?_; (focus simp only [go_sem, flds, ref]); (focus simp only [go_sem, flds, ref])
        simp only [go_sem, h2, fldsc, flds, List.map_nil]
      · rw [if_neg h2]
        by_cases h3 : (16 : Int) ≤ (l.length : Int)
        · rw [if_pos h3]
          have h3' : (15 : Int) < (l.length : Int) := by omega
          refine PL.Pure.of_v Tryz.func212 (by decide) rfl Tryz.ntmps212 Tryz.results212 (by simp) (fldsc_dids _) ?_
          simp only [go_sem, flds, fld]
          refine vCall_of (hR) ?_ ?_ ?_; (focus simp only [go_sem, flds]); (focus simp only [go_sem, flds])
          simp only [go_sem]
          refine vCall_of (hF) ?_ ?_ ?_; (focus simp only [go_sem, fld]); (focus simp only [go_sem, fld])
          simp only [go_sem]
          refine vCall_of (hI) ?_ ?_ ?_; (focus simp only [go_sem, flds, ref]); (focus simp only [go_sem, flds, ref])
          simp only [go_sem, h2, h3', fldsc, flds, List.map_nil]
        · rw [if_neg h3]
          have h3' : ¬ (15 : Int) < (l.length : Int) := by omega
          refine PL.Pure.of_v Tryz.func212 (by decide) rfl Tryz.ntmps212 Tryz.results212 (by simp) (fldsc_dids _) ?_
          simp only [go_sem, flds, fld]
          refine vCall_of (hR) ?_ ?_ ?_; (focus simp only [go_sem, flds]); (focus simp only [go_sem, flds])
          simp only [go_sem]
          refine vCall_of (hF) ?_ ?_ ?_; (focus simp only [go_sem, fld]); (focus simp only [go_sem, fld])
          simp only [go_sem]
          refine vCall_of (hI) ?_ ?_ ?_; (focus simp only [go_sem, flds, ref]); (focus simp only [go_sem, flds, ref])
          simp only [go_sem, h2, h3', flds]
          refine awp_moveRow 6 24 45 0 7 84 [] rfl rfl rfl ?_
          refine vLoopM (ι := { x : Nat × (List Fd) // x.1 ≤ (l).length ∧ (x.2 ++ insM (l.drop x.1) f = insM l f) }) 66 (fun x => [(0, flds l), (3, .ptr 3 0), (6, .sl (.row 45) (x.1.2.map fld)), (7, .int .i64 (x.1.1 : Int))]) (fun x => [(3, fcells f, false)]) (fun x => [(45, .live (x.1.2.length) (7) (84))]) (fun x => (l).length - x.1.1) ⟨(0, []), Nat.zero_le _, rfl⟩ ⟨rfl, (forall_cons rfl (forall_cons rfl (forall_cons rfl (forall_cons rfl forall_nil)))), (forall_cons ⟨rfl, rfl⟩ forall_nil), (forall_cons rfl forall_nil)⟩ (fun x => ⟨(forall_cons rfl (forall_cons rfl (forall_cons (by simp [PV.ids, refInM]) (forall_cons rfl forall_nil)))), (forall_cons rfl forall_nil)⟩) (fun x => ?_); obtain ⟨⟨k, acc⟩, hk, hI⟩ := x; simp only at hk hI ⊢
          have hacc : acc.length ≤ l.length + 1 := by rw [← ins_len l f, ← hI, List.length_append]; omega
          have hrm := room1 (show acc.length + 1 ≤ 1000000 by omega) (show 96 ≤ 1000 by omega)
          have second : ∀ (acc : List Fd) (k : Nat) (hk : k ≤ l.length), (acc ++ [f]) ++ l.drop k = insM l f → True := fun _ _ _ _ => trivial
          by_cases h : (k : Int) < (l.length : Int)
          · (have hka : k < (l).length := by omega); (have w1 := w64s hka (hm)); (have i1 : (0 : Int) ≤ (k : Int) := by omega)
            have hL := RLess_pure (l.getD k default).at' f.at'
            rw [drop_cons' hka (d := default)] at hI
            cases hb : lessB (l.getD k default).at' f.at'
            · rw [hb] at hL
              rw [ins_f hb] at hI
              simp only [go_sem, flds, fcells]
              refine vDrawQ (by kernel_rfl) (by kernel_rfl) ?_
              simp only [go_sem, h, i1, getD_fld hka, fld]
              refine vCall_of (hL) ?_ ?_ ?_; (focus simp only [go_sem, ref]); (focus simp only [go_sem, ref])
              simp only [go_sem, fld, sized_fld, hrm]
              refine awp_moveRow 6 51 62 (acc.length + 1) 7 84 ((acc ++ [f]).map fld) (by simp [upd, fld]) rfl rfl ?_
              refine vLoopM (ι := WB l f) 66 (fun x => [(0, flds l), (6, .sl (.row 62) (x.acc.map fld)), (7, .int .i64 (x.k : Int))]) (fun x => []) (fun x => [(62, .live x.acc.length 7 84)]) (fun x => l.length - x.k) ⟨k, acc ++ [f], hk, by rw [drop_cons' hka (d := default), ← hI]; simp⟩
                ⟨rfl, forall_cons rfl (forall_cons rfl (forall_cons rfl (forall_nil))), forall_nil, forall_cons (by simp [upd, Hp.setq, St.with]) forall_nil⟩ (fun x => ⟨forall_cons rfl (forall_cons (by simp [PV.ids, refInM]) (forall_cons rfl (forall_nil))), forall_nil⟩) (fun x => ?_)
              obtain ⟨k2, acc2, hk2, hx2⟩ := x
              simp only
              have hacc2 : acc2.length ≤ l.length + 1 := by rw [← ins_len l f, ← hx2, List.length_append]; omega
              have hrm2 := room1 (show acc2.length + 1 ≤ 1000000 by omega) (show 96 ≤ 1000 by omega)
              by_cases h' : (k2 : Int) < (l.length : Int)
              · have hka2 : k2 < l.length := by omega
                have w2 := w64s hka2 hm
                have i2 : (0 : Int) ≤ (k2 : Int) := by omega
                rw [drop_cons' hka2 (d := default)] at hx2
                simp only [go_sem, flds, h', i2, getD_fld hka2, fld, sized_fld, hrm2, w2]
                exact ⟨⟨k2 + 1, acc2 ++ [l.getD k2 default], by omega, by rw [← hx2]; simp⟩, by show l.length - (k2 + 1) < l.length - k2; omega, ⟨rfl, forall_cons rfl (forall_cons (by simp [upd, fld]) (forall_cons rfl (forall_nil))), forall_nil, forall_cons (by simp [upd]) forall_nil⟩⟩
              · obtain rfl : k2 = l.length := by omega
                rw [List.drop_length, List.append_nil] at hx2
                subst hx2
                simp only [go_sem, flds, h', fldsc]
            · rw [hb] at hL
              rw [ins_t hb] at hI
              simp only [go_sem, flds, fcells]
              refine vDrawQ (by kernel_rfl) (by kernel_rfl) ?_
              simp only [go_sem, h, i1, getD_fld hka, fld]
              refine vCall_of (hL) ?_ ?_ ?_; (focus simp only [go_sem, ref]); (focus simp only [go_sem, ref])
              simp only [go_sem, h, i1, getD_fld hka, fld, sized_fld, hrm, w1]
              exact ⟨⟨(k + 1, acc ++ [l.getD k default]), by (try simp only); omega, by rw [← hI]; simp⟩, by show (l).length - (k + 1) < (l).length - k; omega, ⟨rfl, (forall_cons rfl (forall_cons rfl (forall_cons (by simp [upd, fld]) (forall_cons rfl forall_nil)))), (forall_cons ⟨rfl, rfl⟩ forall_nil), (forall_cons (by simp [upd]) forall_nil)⟩⟩
          · obtain rfl : k = l.length := by omega
            simp only [go_sem, flds, fcells]
            refine vDrawQ (by kernel_rfl) (by kernel_rfl) ?_
            simp only [go_sem, h, fld, sized_fld, hrm]
            refine awp_moveRow 6 51 62 (acc.length + 1) 7 84 ((acc ++ [f]).map fld) (by simp [upd, fld]) rfl rfl ?_
            refine vLoopM (ι := WB l f) 66 (fun x => [(0, flds l), (6, .sl (.row 62) (x.acc.map fld)), (7, .int .i64 (x.k : Int))]) (fun x => []) (fun x => [(62, .live x.acc.length 7 84)]) (fun x => l.length - x.k) ⟨l.length, acc ++ [f], hk, by rw [← hI]; simp [insM]⟩
                ⟨rfl, forall_cons rfl (forall_cons rfl (forall_cons rfl (forall_nil))), forall_nil, forall_cons (by simp [upd, Hp.setq, St.with]) forall_nil⟩ (fun x => ⟨forall_cons rfl (forall_cons (by simp [PV.ids, refInM]) (forall_cons rfl (forall_nil))), forall_nil⟩) (fun x => ?_)
            obtain ⟨k2, acc2, hk2, hx2⟩ := x
            simp only
            have hacc2 : acc2.length ≤ l.length + 1 := by rw [← ins_len l f, ← hx2, List.length_append]; omega
            have hrm2 := room1 (show acc2.length + 1 ≤ 1000000 by omega) (show 96 ≤ 1000 by omega)
            by_cases h' : (k2 : Int) < (l.length : Int)
            · have hka2 : k2 < l.length := by omega
              have w2 := w64s hka2 hm
              have i2 : (0 : Int) ≤ (k2 : Int) := by omega
              rw [drop_cons' hka2 (d := default)] at hx2
              simp only [go_sem, flds, h', i2, getD_fld hka2, fld, sized_fld, hrm2, w2]
              exact ⟨⟨k2 + 1, acc2 ++ [l.getD k2 default], by omega, by rw [← hx2]; simp⟩, by show l.length - (k2 + 1) < l.length - k2; omega, ⟨rfl, forall_cons rfl (forall_cons (by simp [upd, fld]) (forall_cons rfl (forall_nil))), forall_nil, forall_cons (by simp [upd]) forall_nil⟩⟩
            · obtain rfl : k2 = l.length := by omega
              rw [List.drop_length, List.append_nil] at hx2
              subst hx2
              simp only [go_sem, flds, h', fldsc]
set_option maxRecDepth 20000 in
set_option maxHeartbeats 8000000 in
theorem RWithout_pure (l : List Fd) (r : Rf) (hl : OkFs l) : PL.Pure Tryz.prog 150 [flds l, ref r] (fldsc (withoutM l r)) := by
  have hn := hl.n
  have hm : l.length ≤ maxLen := by rw [maxLen_eq]; omega
  have hR := RRightL_pure l hm (fun g hg => by have := hl.c g hg; rw [maxLen_eq]; omega)
  have hI : PL.Pure Tryz.prog 149 [flds l, ref r] (.int .i64 (idx (atF r) l)) := RAt_pure l r hm
  unfold withoutM
  cases hr : rightL l
  · rw [hr] at hR
    refine PL.Pure.of_v Tryz.func150 (by decide) rfl Tryz.ntmps150 Tryz.results150 (by simp) (fldsc_dids _) ?_
    simp only [go_sem, flds, ref]
    refine vCall_of (hR) ?_ ?_ ?_; (focus simp only [go_sem, flds]); (focus simp only [go_sem, flds])
    simp only [go_sem, fldsc, flds, List.map_nil, if_true]
  · rw [hr] at hR
    rcases idx_cases (atF r) l with h2 | ⟨g, hg, h2⟩
    · rw [h2] at hI ⊢
      refine PL.Pure.of_v Tryz.func150 (by decide) rfl Tryz.ntmps150 Tryz.results150 (by simp) (fldsc_dids _) ?_
      simp only [go_sem, flds, ref]
      refine vCall_of (hR) ?_ ?_ ?_; (focus simp only [go_sem, flds]); (focus simp only [go_sem, flds])
      simp only [go_sem, flds]
      refine vCall_of (hI) ?_ ?_ ?_; (focus simp only [go_sem, flds, ref]); (focus simp only [go_sem, flds, ref])
      simp only [go_sem, fldsc, flds, List.map_nil]
    · have i3 : ¬ (g : Int) < 0 := by omega
      have hrise := (right_iff.1 hr).2.1
      have hgl : (l.getD g default).at' = r := by
        rcases atF_idx l r with ⟨e, _⟩ | ⟨i, hi, e, hat⟩
        · rw [e] at h2; omega
        · have : i = g := by rw [e] at h2; omega
          subst this; rw [getD_lt hi]; exact hat
      rw [h2] at hI
      rw [h2, if_neg i3]
      simp only [Bool.true_eq_false, if_false, Int.toNat_natCast]
      refine PL.Pure.of_v Tryz.func150 (by decide) rfl Tryz.ntmps150 Tryz.results150 (by simp) (fldsc_dids _) ?_
      simp only [go_sem, flds, ref]
      refine vCall_of (hR) ?_ ?_ ?_; (focus simp only [go_sem, flds]); (focus simp only [go_sem, flds])
      simp only [go_sem, flds]
      refine vCall_of (hI) ?_ ?_ ?_; (focus simp only [go_sem, flds, ref]); (focus simp only [go_sem, flds, ref])
      simp only [go_sem, flds, i3]
      refine awp_moveRow 6 15 35 0 7 84 [] rfl rfl rfl ?_
      refine vLoopM (ι := { x : Nat × (List Fd) // x.1 ≤ (l).length ∧ (x.2 = (l.take x.1).eraseIdx g) }) 37 (fun x => [(0, flds l), (3, .ptr 3 0), (6, .sl (.row 35) (x.1.2.map fld)), (7, .int .i64 (x.1.1 : Int))]) (fun x => [(3, [.int .i64 r.sc, .str r.gr, .str r.nm], false)]) (fun x => [(35, .live (x.1.2.length) (7) (84))]) (fun x => (l).length - x.1.1) ⟨(0, []), Nat.zero_le _, rfl⟩ ⟨rfl, (forall_cons rfl (forall_cons rfl (forall_cons rfl (forall_cons rfl forall_nil)))), (forall_cons ⟨rfl, rfl⟩ forall_nil), (forall_cons rfl forall_nil)⟩ (fun x => ⟨(forall_cons rfl (forall_cons rfl (forall_cons (by simp [PV.ids, refInM]) (forall_cons rfl forall_nil)))), (forall_cons rfl forall_nil)⟩) (fun x => ?_); obtain ⟨⟨k, acc⟩, hk, hI⟩ := x; simp only at hk hI ⊢
      have hacc : acc.length ≤ l.length := by
        rw [hI]; exact Nat.le_trans (List.length_eraseIdx_le _ _) (take_le_len _ _)
      by_cases h : (k : Int) < (l.length : Int)
      · (have hka : k < (l).length := by omega); (have w1 := w64s hka (hm)); (have i1 : (0 : Int) ≤ (k : Int) := by omega)
        have hrm := room1 (show acc.length + 1 ≤ 1000000 by omega) (show 96 ≤ 1000 by omega)
        have hs := erase_snoc (l := l) (k := k) (g := g) (d := default) hka
        by_cases he : k = g
        · have hd : decide ((l.getD k default).at' = r) = true := by rw [he, hgl]; simp
          rw [if_pos he, List.append_nil] at hs
          simp only [go_sem, flds, h]
          refine vDrawQ (by kernel_rfl) (by kernel_rfl) ?_
          simp only [go_sem, getD_fld hka, fld, i1, h, ref_fold, hd, Bool.not_true, w1]
          exact ⟨⟨(k + 1, acc), by (try simp only); omega, by simp only; rw [hs, hI]⟩, by show (l).length - (k + 1) < (l).length - k; omega, ⟨rfl, (forall_cons rfl (forall_cons rfl (forall_cons (by simp [upd, fld]) (forall_cons rfl forall_nil)))), (forall_cons ⟨rfl, rfl⟩ forall_nil), (forall_cons (by simp [upd]) forall_nil)⟩⟩
        · have hd : decide ((l.getD k default).at' = r) = false := by
            rw [decide_eq_false_iff_not]
            intro e
            have hkm := getD_mem (d := default) hka
            have hgm := getD_mem (d := default) hg
            have hp := hrise
            rw [Rise, List.pairwise_iff_getElem] at hp
            rcases Nat.lt_or_gt_of_ne he with h' | h'
            · have := hp k g hka hg h'
              rw [← getD_lt (d := default) hka, ← getD_lt (d := default) hg, e, hgl, lb_irrefl] at this
              cases this
            · have := hp g k hg hka h'
              rw [← getD_lt (d := default) hka, ← getD_lt (d := default) hg, e, hgl, lb_irrefl] at this
              cases this
          rw [if_neg he] at hs
          simp only [go_sem, flds, h]
          refine vDrawQ (by kernel_rfl) (by kernel_rfl) ?_
          simp only [go_sem, getD_fld hka, fld, i1, h, ref_fold, hd, Bool.not_false, sized_fld, hrm, w1]
          exact ⟨⟨(k + 1, acc ++ [l.getD k default]), by (try simp only); omega, by simp only; rw [hs, hI]⟩, by show (l).length - (k + 1) < (l).length - k; omega, ⟨rfl, (forall_cons rfl (forall_cons rfl (forall_cons (by simp [upd, fld]) (forall_cons rfl forall_nil)))), (forall_cons ⟨rfl, rfl⟩ forall_nil), (forall_cons (by simp [upd]) forall_nil)⟩⟩
      · obtain rfl : k = l.length := by omega
        rw [List.take_length] at hI
        subst hI
        simp only [go_sem, h, flds, fldsc]
set_option maxHeartbeats 4000000 in
theorem Rput_pure (l : List Fd) (f : Fd) (ok : Bool) (hl : OkFs l) (hf : f.cases'.length ≤ 1000000) : PL.Pure Tryz.prog 152 [flds l, fld f, .bool ok] (fldsb (putR l f ok)) := by
  have hW := RWith_pure l f hl hf
  unfold putR
  generalize withM l f = y at *
  obtain ⟨m, c⟩ := y
  cases ok
  · refine PL.Pure.of_v Tryz.func152 (by decide) rfl Tryz.ntmps152 Tryz.results152 (by simp) (fldsb_dids _) ?_
    simp only [go_sem, flds, fld]
    refine vCall_of (hW) ?_ ?_ ?_; (focus simp only [go_sem, flds, fld]); (focus simp only [go_sem, flds, fld])
    simp only [go_sem, fldsc, flds, fldsb, Bool.false_and]
  · by_cases hc : c = 0
    · subst hc
      refine PL.Pure.of_v Tryz.func152 (by decide) rfl Tryz.ntmps152 Tryz.results152 (by simp) (fldsb_dids _) ?_
      simp only [go_sem, flds, fld]
      refine vCall_of (hW) ?_ ?_ ?_; (focus simp only [go_sem, flds, fld]); (focus simp only [go_sem, flds, fld])
      simp only [go_sem, fldsc, flds, fldsb, decide_true, Bool.and_self]
    · have e : (c == 0) = false := by simpa using hc
      refine PL.Pure.of_v Tryz.func152 (by decide) rfl Tryz.ntmps152 Tryz.results152 (by simp) (fldsb_dids _) ?_
      simp only [go_sem, flds, fld]
      refine vCall_of (hW) ?_ ?_ ?_; (focus simp only [go_sem, flds, fld]); (focus simp only [go_sem, flds, fld])
      simp only [go_sem, fldsc, flds, fldsb, e, hc, decide_false, Bool.and_false]
set_option maxHeartbeats 4000000 in
theorem Rmoved_pure (f : Fd) (r : Rf) : PL.Pure Tryz.prog 153 [fld f, ref r] (fld (movedF f r)) := by
  refine PL.Pure.of_v Tryz.func153 (by decide) rfl Tryz.ntmps153 Tryz.results153 (by simp) (fld_dids _) ?_
  simp only [go_sem, fld, ref, movedF]
set_option maxHeartbeats 4000000 in
theorem Rnamed_pure (r : Rf) (s : Str) : PL.Pure Tryz.prog 211 [ref r, .str s] (ref (named r s)) := by
  refine PL.Pure.of_v Tryz.func211 (by decide) rfl Tryz.ntmps211 Tryz.results211 (by simp) (ref_dids _) ?_
  simp only [go_sem, ref, named]
set_option maxRecDepth 20000 in
set_option maxHeartbeats 8000000 in
theorem RGoes_pure (x : Ln) : PL.Pure Tryz.prog 148 [lns x] (refs (goesR x)) := by
  have h1 := Rnamed_pure x.at' x.nm
  have h2 := Rnamed_pure x.at' x.ot
  refine PL.Pure.of_v Tryz.func148 (by decide) rfl Tryz.ntmps148 Tryz.results148 (by simp) (refs_dids _) ?_
  simp only [go_sem, lns]
  repeat' (first | (refine vGuard_t (fun h => ?_) (fun h => ?_) <;> (try simp only [go_sem, h, ref])) | (refine vGuard_f (fun h => ?_) (fun h => ?_) <;> (try simp only [go_sem, h, ref])) | (refine vCond_b (fun h => ?_) (fun h => ?_) <;> (try simp only [go_sem, h, ref])) | ((refine vCall_of (h1) ?_ ?_ ?_); (focus simp only [go_sem, lns, ref]); (focus exact rfl); (try simp only [go_sem, ref])) | ((refine vCall_of (h2) ?_ ?_ ?_); (focus simp only [go_sem, lns, ref]); (focus exact rfl); (try simp only [go_sem, ref])) | ((refine vDrawQ (by kernel_rfl) (by kernel_rfl) ?_); (try simp only [go_sem, ref])))
  all_goals (clear h1 h2; simp_all [goesR, refs, named, ref])
set_option maxRecDepth 20000 in
set_option maxHeartbeats 8000000 in
theorem RComes_pure (x : Ln) : PL.Pure Tryz.prog 151 [lns x] (refs (comesR x)) := by
  have h1 := Rnamed_pure x.at' x.nm
  have h2 := Rnamed_pure x.at' x.ot
  refine PL.Pure.of_v Tryz.func151 (by decide) rfl Tryz.ntmps151 Tryz.results151 (by simp) (refs_dids _) ?_
  simp only [go_sem, lns]
  repeat' (first | (refine vGuard_t (fun h => ?_) (fun h => ?_) <;> (try simp only [go_sem, h, ref])) | (refine vGuard_f (fun h => ?_) (fun h => ?_) <;> (try simp only [go_sem, h, ref])) | (refine vCond_b (fun h => ?_) (fun h => ?_) <;> (try simp only [go_sem, h, ref])) | ((refine vCall_of (h1) ?_ ?_ ?_); (focus simp only [go_sem, lns, ref]); (focus exact rfl); (try simp only [go_sem, ref])) | ((refine vCall_of (h2) ?_ ?_ ?_); (focus simp only [go_sem, lns, ref]); (focus exact rfl); (try simp only [go_sem, ref])) | ((refine vDrawQ (by kernel_rfl) (by kernel_rfl) ?_); (try simp only [go_sem, ref])))
  all_goals (clear h1 h2; simp_all [comesR, refs, named, ref])
end Go.Proofs.YtnadlkjmdimjkaaGreat
