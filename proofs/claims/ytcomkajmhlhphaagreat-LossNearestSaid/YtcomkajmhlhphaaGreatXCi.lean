/- Contracts of functions and laws of this seat, each for every input that it names: lemmas of the proof. -/
import Derived.Test.YtcomkajmhlhphaaGreatXCe
import Derived.Test.YtcomkajmhlhphaaGreatXBx
set_option linter.unusedSimpArgs false
set_option linter.unusedVariables false
set_option linter.unusedSimpArgs false
set_option linter.unusedVariables false
namespace Go.Proofs.YtcomkajmhlhphaaGreat
open Go.PL
open Go.RowKit
theorem range_map (l : List Nd) : (List.range l.length).map (fun i => l.getD i default) = l := by
  apply List.ext_getElem
  · simp
  · intro i h1 h2
    simp only [List.getElem_map, List.getElem_range]
    exact PL.getD_lt h2
theorem liveT_perm {l : List Nd} {xs : List Tg} (h : TagsG l xs) : xs.Perm (liveL l) := by
  obtain ⟨x, hx, rfl⟩ := h
  have hp : x.s.Perm (List.range l.length) := (List.perm_ext_iff_of_nodup x.d List.nodup_range).2 fun i => by
    rw [List.mem_range]
    exact ⟨x.h i, hx i⟩
  have e : liveT l (List.range l.length) = liveL l := by
    unfold liveT liveL
    conv => rhs; rw [← range_map l]
    rw [List.filter_map, List.map_map]
    rfl
  rw [← e]
  exact (hp.filter _).map _
theorem Tags_pure (l : List Nd) (hl : l.length ≤ 1000) : PL.Pure Tryz.prog 38 [tr l, .fn 39 []] (tgs (sortT (liveL l))) := by
  refine PL.Pure.tail flatTg (k := 3) (i := 5) (d := 24) (N := 28) (G := TagsG l) (g := sortT) Tryz.func38 (by decide) rfl (by show 2 ≤ 28; decide) (tgs_dids _) (tags_told l hl rfl) (fun s ⟨xs, h1, h2, h3, h4⟩ => ⟨xs, _, h1, h2, h3, h4⟩) ?_ (fun xs h => by rw [sortT_perm (liveT_perm h)]; rfl)
  intro xs lo a w hG hd hN hr hlo
  have hx : xs.length ≤ 1000000 := by
    obtain ⟨x, _, rfl⟩ := hG
    have := liveT_len l x.s
    have := x.len
    omega
  have hcall := sort_call xs lo w _ hx hr hlo
  refine wp_sort_ret (N := 28) hN (by decide) (by decide) (by decide) (by decide) (by decide) (by decide) (by decide) Tryz.func64 (by decide) (by intro h; cases h) ?_
  refine hcall.mono fun e w' ⟨he, h1, h2⟩ => ⟨_, he, fun a' hd' hr' => ⟨.inr rfl, by rw [hd', hd], ?_⟩⟩
  refine ⟨a'.tmps.getD 4 undef, ?_, by rw [hr']; exact h1, h2⟩
  exact Go.results_tmp rfl _ _ _
set_option maxRecDepth 20000 in
set_option maxHeartbeats 4000000 in
theorem TLive_pure (m : List Eg) (hm : OkM m) : PL.Pure Tryz.prog 16 [tr (treeOf m)] (tgs (liveM m)) := by
  have hn := hm.n
  have htl : (treeOf m).length ≤ 1000 := by unfold treeOf; rw [List.length_map]; omega
  have hT := Tags_pure (treeOf m) htl
  have hll : (sortT (liveL (treeOf m))).length ≤ 1000 := by
    unfold sortT
    rw [List.length_mergeSort, liveL_tree hm]
    have := liveE_len m m
    omega
  unfold liveM
  generalize sortT (liveL (treeOf m)) = xs at *
  have hR := TRoot_pure
  have hrm := room1 (show 1 + xs.length ≤ 1000000 by omega) (show 16 ≤ 1000 by omega)
  have hsz := sized_tg xs
  have hat : Atoms (xs.map tg) := atoms_tg xs
  have h1 : Sized 2 [tg default] := sized_tg [default]
  refine PL.Pure.of_v Tryz.func16 (by decide) rfl Tryz.ntmps16 Tryz.results16 (by simp) (tgs_dids _) ?_
  simp only [go_sem, tr]
  refine vCall_of (hT) ?_ ?_ ?_; (focus simp only [go_sem, tr]); (focus simp only [go_sem, tr])
  simp only [go_sem, tgs]
  refine vCall_of (hR) ?_ ?_ ?_; (focus simp only [go_sem, tr]); (focus simp only [go_sem, tr])
  simp only [go_sem, tgs, tg, hrm, hsz, hat, h1, List.length_map]
end Go.Proofs.YtcomkajmhlhphaaGreat

set_option linter.unusedSimpArgs false
set_option linter.unusedVariables false
set_option linter.unusedSimpArgs false
set_option linter.unusedVariables false
namespace Go.Proofs.YtcomkajmhlhphaaGreat
open Go.PL
theorem up_at (p : List Eg) {k : Nat} (hk : k < p.length) : (upL p).getD k default = (p.getD (p.length - 1 - k) default).id := by
  have h := upL_get p (p.length - 1 - k) (by omega)
  rwa [show p.length - (p.length - 1 - k) - 1 = k by omega] at h
theorem up_not {m : List Eg} (ha : Apart m) {a b : Tg} {p q : List Eg} (hp : Way m a p) (hq : Way m b q) {k : Nat} (hk : k < p.length - lcp p q) : (upL p).getD k default ∉ upL q := by
  have ht : p.length - 1 - k < p.length := by omega
  have hin : p.getD (p.length - 1 - k) default ∈ p.drop (lcp p q) := by
    rw [getD_lt ht, List.mem_drop_iff_getElem]
    exact ⟨p.length - 1 - k - lcp p q, by omega, by congr 1; omega⟩
  have hpm := hp.mem _ (getD_mem (d := default) ht)
  rw [up_at p (by omega)]
  intro hm
  unfold upL at hm
  rcases List.mem_append.1 hm with hm | hm
  · obtain ⟨e2, he2, hid⟩ := List.mem_map.1 hm
    have he2 : e2 ∈ q := List.mem_reverse.1 he2
    rw [← List.take_append_drop (lcp p q) q] at he2
    rcases List.mem_append.1 he2 with h2 | h2
    · rw [← lcp_take] at h2
      have e : e2 = p.getD (p.length - 1 - k) default := ha.inj (hp.mem _ (List.mem_of_mem_take h2)) hpm hid
      have hn := hp.nodup
      rw [← List.take_append_drop (lcp p q) p] at hn
      exact (List.nodup_append.1 hn).2.2 _ h2 _ hin e
    · exact stops_apart ha hp hq hin h2 hid.symm
  · exact ha.n _ hpm (by simpa using hm)
theorem meet_up (p q : List Eg) : (upL q).getD (q.length - lcp p q) default = meetT p q := by
  have := upL_at q p
  rw [lcp_comm q p] at this
  rw [this, meet_comm]
theorem up_meet (p q : List Eg) : meetT p q ∈ upL q := by
  rw [← meet_up]
  exact getD_mem (by rw [upL_len]; omega)
theorem hasT_at {l : List Tg} (hn : l.Nodup) {k : Nat} (hk : k < l.length) : hasT l (l.getD k default) = (k : Int) := by
  unfold hasT idx
  have h : l.findIdx? (fun x => decide (x = l.getD k default)) = some k := by
    rw [List.findIdx?_eq_some_iff_getElem]
    refine ⟨hk, by rw [getD_lt hk]; simp, fun j hj => ?_⟩
    rw [getD_lt hk]
    have := List.pairwise_iff_getElem.1 hn j k (by omega) hk hj
    simpa using this
  rw [h]
theorem has_meet {m : List Eg} (ha : Apart m) {b : Tg} {p q : List Eg} (hq : Way m b q) : hasT (upL q) (meetT p q) = ((q.length - lcp p q : Nat) : Int) := by
  have h := hasT_at (upL_nodup ha hq.mem hq.nodup) (k := q.length - lcp p q) (by rw [upL_len]; omega)
  rwa [meet_up] at h
set_option maxRecDepth 20000 in
set_option maxHeartbeats 16000000 in
theorem RMeet_pure (m : List Eg) (a b : Tg) (hm : OkM m) : PL.Pure Tryz.prog 47 [egs m, tg a, tg b] (tgc (meetM m a b)) := by
  have hA := RUp_pure m a hm
  have hB := RUp_pure m b hm
  unfold meetM pathC
  unfold upM at hA hB
  by_cases ca : upC m a = 0
  · rw [if_neg (fun h => h ca)] at hA
    by_cases cb : upC m b = 0
    · rw [if_neg (fun h => h cb)] at hB
      simp only [ca, cb, ne_eq, not_true_eq_false, if_false]
      obtain ⟨wa, _, _⟩ := live_way ca
      obtain ⟨wb, _, _⟩ := live_way cb
      have hpl : (wayD m a).length ≤ 40 := by have := wa.len; have := hm.n; omega
      have hql : (wayD m b).length ≤ 40 := by have := wb.len; have := hm.n; omega
      generalize wayD m a = p at *
      generalize wayD m b = q at *
      have lc := lcp_le p q
      refine PL.Pure.of_v Tryz.func47 (by decide) rfl Tryz.ntmps47 Tryz.results47 (by simp) (tgc_dids _) ?_
      simp only [go_sem, egs, tg]
      refine vCall_of (hA) ?_ ?_ ?_; (focus simp only [go_sem, egs, tg]); (focus simp only [go_sem, egs, tg])
      simp only [go_sem, tgsc]
      refine vCall_of (hB) ?_ ?_ ?_; (focus simp only [go_sem, egs, tg]); (focus simp only [go_sem, egs, tg])
      simp only [go_sem, tgsc]
      refine vLoopM (ι := { k : Nat // k ≤ p.length - lcp p q }) 51 (fun x => [(6, .ptr 6 0), (8, tgs (upL p)), (10, tgs (upL q)), (12, .int .i64 (x.1 : Int))]) (fun x => [(6, [.int .i64 0, .int .i64 0], false)]) (fun x => []) (fun x => p.length - x.1) ⟨0, Nat.zero_le _⟩
        ⟨rfl, (forall_cons rfl (forall_cons rfl (forall_cons rfl (forall_cons rfl (forall_nil))))), forall_cons ⟨rfl, rfl⟩ forall_nil, forall_nil⟩ (fun x => ⟨forall_cons rfl (forall_cons rfl (forall_cons rfl (forall_cons rfl forall_nil))), (forall_cons rfl (forall_nil))⟩) (fun x => ?_)
      obtain ⟨k, hk⟩ := x
      simp only
      have hkl : k < (upL p).length := by rw [upL_len]; omega
      have h1 : (k : Int) < ((upL p).length : Int) := by omega
      have h0 : (0 : Int) ≤ (k : Int) := by omega
      have hI := RHas18_pure (upL q) ((upL p).getD k default) (by rw [upL_len, maxLen_eq]; omega)
      by_cases he : k = p.length - lcp p q
      · have hv : (upL p).getD k default = meetT p q := by rw [he]; exact upL_at p q
        rw [hv] at hI
        have h2 := hasT_yes (up_meet p q)
        simp only [go_sem, tgs, h1, h0, List.length_map, getD_tg hkl, hv, tg]
        refine vCall_of (hI) ?_ ?_ ?_; (focus simp only [go_sem, tgs, tg]); (focus simp only [go_sem, tgs, tg])
        simp only [go_sem, h2, h0, h1, List.length_map, getD_tg hkl, hv, tg, tgs, tgc]
      · have hnot := up_not hm.a wa wb (k := k) (by omega)
        rw [hasT_no hnot] at hI
        have w1 : IntKind.i64.wrap ((k : Int) + 1) = ((k + 1 : Nat) : Int) := by rw [w64 (by omega)]; rfl
        simp only [go_sem, tgs, h1, h0, List.length_map, getD_tg hkl, tg]
        refine vCall_of (hI) ?_ ?_ ?_; (focus simp only [go_sem, tgs, tg]); (focus simp only [go_sem, tgs, tg])
        simp only [go_sem, w1]
        exact ⟨⟨k + 1, by omega⟩, by show p.length - (k + 1) < p.length - k; omega, ⟨rfl, (forall_cons rfl (forall_cons rfl (forall_cons rfl (forall_cons rfl (forall_nil))))), forall_cons ⟨rfl, rfl⟩ forall_nil, forall_nil⟩⟩
    · rw [if_pos cb] at hB
      have cb' : (upC m b != 0) = true := by simpa using cb
      simp only [ca, cb, ne_eq, not_true_eq_false, not_false_eq_true, if_true, if_false]
      refine PL.Pure.of_v Tryz.func47 (by decide) rfl Tryz.ntmps47 Tryz.results47 (by simp) (tgc_dids _) ?_
      simp only [go_sem, egs, tg]
      refine vCall_of (hA) ?_ ?_ ?_; (focus simp only [go_sem, egs, tg]); (focus simp only [go_sem, egs, tg])
      simp only [go_sem, tgsc]
      refine vCall_of (hB) ?_ ?_ ?_; (focus simp only [go_sem, egs, tg]); (focus simp only [go_sem, egs, tg])
      simp only [go_sem, tgsc, cb', tgc, tg_default]
  · rw [if_pos ca] at hA
    have ca' : (upC m a != 0) = true := by simpa using ca
    simp only [ca, ne_eq, not_false_eq_true, if_true]
    refine PL.Pure.of_v Tryz.func47 (by decide) rfl Tryz.ntmps47 Tryz.results47 (by simp) (tgc_dids _) ?_
    simp only [go_sem, egs, tg]
    refine vCall_of (hA) ?_ ?_ ?_; (focus simp only [go_sem, egs, tg]); (focus simp only [go_sem, egs, tg])
    simp only [go_sem, tgsc, ca', tgc, tg_default]
theorem upg_take (p : List Eg) (c : Nat) (hc : c ≤ p.length) : ((upL p).take (p.length - c)).map upg = (p.drop c).reverse.map fun e => upg e.id := by
  rw [upL_take p c hc, List.map_map]; rfl
set_option maxRecDepth 20000 in
set_option maxHeartbeats 16000000 in
theorem RPath_pure (m : List Eg) (a b : Tg) (hm : OkM m) : PL.Pure Tryz.prog 21 [egs m, tg a, tg b] (legsc (pathM m a b)) := by
  have hA := RUp_pure m a hm
  have hB := RUp_pure m b hm
  have hM := RMeet_pure m a b hm
  unfold pathM
  unfold meetM at hM
  by_cases hc : pathC m a b = 0
  · obtain ⟨ca, cb⟩ := pathC_zero.1 hc
    unfold upM at hA hB
    rw [if_neg (fun h => h ca)] at hA
    rw [if_neg (fun h => h cb)] at hB
    rw [if_neg (fun h => h hc)] at hM
    simp only [hc, ne_eq, not_true_eq_false, if_false]
    obtain ⟨wa, _, _⟩ := live_way ca
    obtain ⟨wb, _, _⟩ := live_way cb
    have hpl : (wayD m a).length ≤ 40 := by have := wa.len; have := hm.n; omega
    have hql : (wayD m b).length ≤ 40 := by have := wb.len; have := hm.n; omega
    generalize wayD m a = p at *
    generalize wayD m b = q at *
    have lc := lcp_le p q
    have hI := RHas18_pure (upL q) (meetT p q) (by rw [upL_len, maxLen_eq]; omega)
    rw [has_meet hm.a wb] at hI
    have hnd := upL_nodup hm.a wa.mem wa.nodup
    have w0 : IntKind.i64.wrap (((q.length - lcp p q : Nat) : Int) - 1) = ((q.length - lcp p q : Nat) : Int) - 1 := w64 (by omega)
    refine PL.Pure.of_v Tryz.func21 (by decide) rfl Tryz.ntmps21 Tryz.results21 (by simp) (legsc_dids _) ?_
    simp only [go_sem, egs, tg]
    refine vCall_of (hM) ?_ ?_ ?_; (focus simp only [go_sem, egs, tg]); (focus simp only [go_sem, egs, tg])
    simp only [go_sem, tgc, tg]
    refine vCall_of (hA) ?_ ?_ ?_; (focus simp only [go_sem, egs, tg]); (focus simp only [go_sem, egs, tg])
    simp only [go_sem, tgsc]
    refine vCall_of (hB) ?_ ?_ ?_; (focus simp only [go_sem, egs, tg]); (focus simp only [go_sem, egs, tg])
    simp only [go_sem, tgsc]
    refine awp_moveRow 14 39 55 0 3 111 [] rfl rfl rfl ?_
    refine vLoopM (ι := { k : Nat // k ≤ p.length - lcp p q }) 73 (fun x => [(8, .ptr 8 0), (10, tgs (upL p)), (12, tgs (upL q)), (14, .sl (.row 55) ((((upL p).take x.1).map upg).map lg)), (15, .int .i64 (x.1 : Int))]) (fun x => [(8, [.int .i64 (meetT p q).r, .int .i64 (meetT p q).n], false)]) (fun x => [(55, .live x.1 3 111)]) (fun x => p.length - x.1) ⟨0, Nat.zero_le _⟩
      ⟨rfl, (forall_cons rfl (forall_cons rfl (forall_cons rfl (forall_cons rfl (forall_cons rfl (forall_nil)))))), forall_cons ⟨rfl, rfl⟩ forall_nil, (forall_cons rfl (forall_nil))⟩ (fun x => ⟨forall_cons rfl (forall_cons rfl (forall_cons rfl (forall_cons (by simp [PV.ids, refInM]) (forall_cons rfl forall_nil)))), (forall_cons rfl (forall_nil))⟩) (fun x => ?_)
    obtain ⟨k, hk⟩ := x
    simp only
    have hkl : k < (upL p).length := by rw [upL_len]; omega
    have h1 : (k : Int) < ((upL p).length : Int) := by omega
    have h0 : (0 : Int) ≤ (k : Int) := by omega
    have hlen : (((upL p).take k).map upg).length = k := by simp; omega
    by_cases he : k = p.length - lcp p q
    · have hv : (upL p).getD k default = meetT p q := by rw [he]; exact upL_at p q
      have dd : decide (meetT p q = meetT p q) = true := by simp
      simp only [go_sem, tgs]
      refine vDrawQ (by kernel_rfl) (by kernel_rfl) ?_
      simp only [go_sem, h1, h0, List.length_map, getD_tg hkl, hv, tg, tg_fold, dd, Bool.not_true]
      refine vCall_of (hI) ?_ ?_ ?_; (focus simp only [go_sem, tgs, tg]); (focus simp only [go_sem, tgs, tg])
      simp only [go_sem, w0]
      refine awp_moveRow 14 55 71 k 3 111 ((((upL p).take k).map upg).map lg) rfl rfl rfl ?_
      refine vLoopM (ι := { s : Nat // s ≤ q.length - lcp p q }) 73 (fun x => [(12, tgs (upL q)), (14, .sl (.row 71) ((((upL p).take k).map upg ++ ((q.drop (lcp p q)).take x.1).map dn).map lg)), (16, .int .i64 (((q.length - lcp p q : Nat) : Int) - 1 - (x.1 : Int)))]) (fun x => []) (fun x => [(71, .live (k + x.1) 3 111)]) (fun x => q.length - lcp p q - x.1) ⟨0, Nat.zero_le _⟩
        ⟨rfl, forall_cons rfl (forall_cons (by show PV.sl _ _ = PV.sl _ _; simp) (forall_cons (by show PV.int _ _ = PV.int _ _; simp) forall_nil)), forall_nil, (forall_cons rfl (forall_nil))⟩ (fun x => ⟨forall_cons rfl (forall_cons (by simp [PV.ids, refInM]) (forall_cons rfl forall_nil)), forall_nil⟩) (fun x => ?_)
      obtain ⟨s, hs⟩ := x
      simp only
      by_cases h : s < q.length - lcp p q
      · have e0 : ((q.length - lcp p q : Nat) : Int) - 1 - (s : Int) = ((q.length - (lcp p q + s) - 1 : Nat) : Int) := by omega
        have g0 : (0 : Int) ≤ ((q.length - (lcp p q + s) - 1 : Nat) : Int) := by omega
        have k1 : q.length - (lcp p q + s) - 1 < (upL q).length := by rw [upL_len]; omega
        have g1 : ((q.length - (lcp p q + s) - 1 : Nat) : Int) < ((upL q).length : Int) := by omega
        have v1 := upL_get q (lcp p q + s) (by omega)
        have hlen2 : (((upL p).take k).map upg ++ ((q.drop (lcp p q)).take s).map dn).length = k + s := by simp; omega
        have hrm := room1 (show k + s + 1 ≤ 1000000 by omega) (show 24 ≤ 1000 by omega)
        have hnx := drop_take_snoc (q := q) (c := lcp p q) (s := s) (by omega)
        have w1 : IntKind.i64.wrap (((q.length - (lcp p q + s) - 1 : Nat) : Int) - 1) = ((q.length - lcp p q : Nat) : Int) - 1 - ((s + 1 : Nat) : Int) := by rw [w64 (by omega)]; omega
        rw [e0]
        simp only [go_sem, tgs, g0, g1, List.length_map, getD_tg k1, v1, tg, hlen2, hrm, sized_lg, w1]
        refine ⟨⟨s + 1, by omega⟩, by show q.length - lcp p q - (s + 1) < q.length - lcp p q - s; omega, ⟨rfl, forall_cons rfl (forall_cons ?_ (forall_cons rfl forall_nil)), forall_nil, forall_cons ?_ forall_nil⟩⟩
        · show PV.sl (.row 71) _ = PV.sl (.row 71) _
          rw [hnx]
          simp [lg, dn]
        · rfl
      · obtain rfl : s = q.length - lcp p q := by omega
        have g0 : ¬ (0 : Int) ≤ ((q.length - lcp p q : Nat) : Int) - 1 - ((q.length - lcp p q : Nat) : Int) := by omega
        have htk : (q.drop (lcp p q)).take (q.length - lcp p q) = q.drop (lcp p q) := List.take_of_length_le (by simp)
        have hup := upg_take p (lcp p q) lc.1
        rw [← he] at hup
        simp only [go_sem, g0, htk, hup, legsc, lgs, legsW]
    · have hne : ¬ (upL p).getD k default = meetT p q := by
        intro e
        have hv : (upL p).getD (p.length - lcp p q) default = meetT p q := upL_at p q
        have hlt : k < p.length - lcp p q := by omega
        have hl2 : p.length - lcp p q < (upL p).length := by rw [upL_len]; omega
        have := List.pairwise_iff_getElem.1 hnd k (p.length - lcp p q) hkl hl2 hlt
        rw [← getD_lt (d := default) hkl, ← getD_lt (d := default) hl2, e, hv] at this
        exact this rfl
      have dd : decide ((upL p).getD k default = meetT p q) = false := by simpa using hne
      have hrm := room1 (show k + 1 ≤ 1000000 by omega) (show 24 ≤ 1000 by omega)
      have w1 : IntKind.i64.wrap ((k : Int) + 1) = ((k + 1 : Nat) : Int) := by rw [w64 (by omega)]; rfl
      simp only [go_sem, tgs]
      refine vDrawQ (by kernel_rfl) (by kernel_rfl) ?_
      simp only [go_sem, h1, h0, List.length_map, getD_tg hkl, tg, tg_fold, dd, Bool.not_false, hlen, hrm, sized_lg, w1]
      refine ⟨⟨k + 1, by omega⟩, by show p.length - (k + 1) < p.length - k; omega, ⟨rfl, forall_cons rfl (forall_cons rfl (forall_cons rfl (forall_cons ?_ (forall_cons rfl forall_nil)))), forall_cons ⟨rfl, rfl⟩ forall_nil, forall_cons rfl forall_nil⟩⟩
      show PV.sl (.row 55) _ = PV.sl (.row 55) _
      rw [take_snoc' hkl, List.map_append, List.map_append]
      rfl
  · have hc' : (pathC m a b != 0) = true := by simpa using hc
    rw [if_pos hc] at hM
    simp only [ne_eq, hc, not_false_eq_true, if_true]
    refine PL.Pure.of_v Tryz.func21 (by decide) rfl Tryz.ntmps21 Tryz.results21 (by simp) (legsc_dids _) ?_
    simp only [go_sem, egs, tg]
    refine vCall_of (hM) ?_ ?_ ?_; (focus simp only [go_sem, egs, tg]); (focus simp only [go_sem, egs, tg])
    simp only [go_sem, tgc, tg, hc', legsc, lgs, List.map_nil]
end Go.Proofs.YtcomkajmhlhphaaGreat

set_option linter.unusedSimpArgs false
set_option linter.unusedVariables false
set_option linter.unusedSimpArgs false
set_option linter.unusedVariables false
namespace Go.Proofs.YtcomkajmhlhphaaGreat
open Go.PL
set_option maxRecDepth 20000 in
set_option maxHeartbeats 16000000 in
theorem RRow_pure (m : List Eg) (a b : Tg) (hm : OkM m) (hr : RightM m) : PL.Pure Tryz.prog 44 [egs m, tg a, tg b] (lnsc (rowM m a b)) := by
  have hP := RPath_pure m a b hm
  have hll := legs_len m a b hm
  unfold rowM
  unfold pathM at hP hll
  by_cases hc : pathC m a b = 0
  · have hin := legs_in hc hm.a
    simp only [hc, ne_eq, not_true_eq_false, if_false] at hP hll ⊢
    generalize legsW (wayD m a) (wayD m b) = legs at *
    have hlm : legs.length ≤ maxLen := by rw [maxLen_eq]; omega
    refine PL.Pure.of_v Tryz.func44 (by decide) rfl Tryz.ntmps44 Tryz.results44 (by simp) (lnsc_dids _) ?_
    simp only [go_sem, egs, tg]
    refine vCall_of (hP) ?_ ?_ ?_; (focus simp only [go_sem, egs, tg]); (focus simp only [go_sem, egs, tg])
    simp only [go_sem, legsc, lgs, List.length_map]
    refine awp_moveRow 10 24 43 0 16 44 [] rfl rfl rfl ?_
    refine vLoopM (ι := { x : Nat // x ≤ (legs).length }) 45 (fun x => [(0, egs m), (8, lgs legs), (10, .sl (.row 43) ((lenses m (legs.take x.1)).map lns)), (11, .int .i64 (x.1 : Int))]) (fun x => []) (fun x => [(43, .live (x.1) (16) (44))]) (fun x => (legs).length - x.1) ⟨0, Nat.zero_le _⟩ ⟨rfl, (forall_cons rfl (forall_cons rfl (forall_cons rfl (forall_cons rfl forall_nil)))), forall_nil, (forall_cons rfl forall_nil)⟩ (fun x => ⟨(forall_cons rfl (forall_cons rfl (forall_cons (by simp [PV.ids, refInM]) (forall_cons rfl forall_nil)))), forall_nil⟩) (fun x => ?_); obtain ⟨k, hk⟩ := x; simp only at hk ⊢
    by_cases h : (k : Int) < (legs.length : Int)
    · (have hka : k < (legs).length := by omega); (have w1 := w64s hka (hlm)); (have i1 : (0 : Int) ≤ (k : Int) := by omega)
      obtain ⟨e, he, hfe, _⟩ := hin _ (getD_mem (d := default) hka)
      have hL := RLens_pure m (legs.getD k default) hm hr
      have hts : legs.take (k + 1) = legs.take k ++ [legs.getD k default] := take_snoc' hka
      have hkl : (lenses m (legs.take k)).length = k := by simp [lenses]; omega
      have hrm := room1 (show k + 1 ≤ 1000000 by omega) (show 232 ≤ 1000 by omega)
      simp only [go_sem, h, lgs, List.length_map, getD_lg hka, lg, i1]
      refine vCall_of (hL) ?_ ?_ ?_; (focus simp only [go_sem, egs, lg]); (focus simp only [go_sem, egs, lg])
      simp only [go_sem, lnc, lns, sized_ln, List.length_map, hkl, hrm, w1]
      exact ⟨⟨k + 1, by (try simp only); omega⟩, by show (legs).length - (k + 1) < (legs).length - k; omega, ⟨rfl, (forall_cons rfl (forall_cons rfl (forall_cons (by (show PV.sl _ _ = PV.sl _ _; simp [hts, lenses, lns])) (forall_cons rfl forall_nil)))), forall_nil, (forall_cons rfl forall_nil)⟩⟩
    · obtain rfl : k = legs.length := by omega
      have htk : legs.take legs.length = legs := List.take_length
      simp only [go_sem, h, lgs, List.length_map, htk, lnsc, lnss]
  · have hc' : (pathC m a b != 0) = true := by simpa using hc
    simp only [ne_eq, hc, not_false_eq_true, if_true] at hP ⊢
    refine PL.Pure.of_v Tryz.func44 (by decide) rfl Tryz.ntmps44 Tryz.results44 (by simp) (lnsc_dids _) ?_
    simp only [go_sem, egs, tg]
    refine vCall_of (hP) ?_ ?_ ?_; (focus simp only [go_sem, egs, tg]); (focus simp only [go_sem, egs, tg])
    simp only [go_sem, legsc, lgs, hc', lnsc, lnss, List.map_nil]
end Go.Proofs.YtcomkajmhlhphaaGreat

set_option linter.unusedSimpArgs false
set_option linter.unusedVariables false
set_option linter.unusedSimpArgs false
set_option linter.unusedVariables false
namespace Go.Proofs.YtcomkajmhlhphaaGreat
open Go.PL
def traceL : List Ln → Rf → Rf × Bool
  | [], r => (r, true)
  | x :: xs, r => if (traceM x r).2 = false then (default, false) else traceL xs (traceM x r).1
def keptL : List Ln → Rf → Bool
  | [], r => true
  | x :: xs, r => if keptM x r = false then false else if (traceM x r).2 = false then false else keptL xs (traceM x r).1
theorem traceL_cons (x : Ln) (xs : List Ln) (r : Rf) : traceL (x :: xs) r = if (traceM x r).2 = false then (default, false) else traceL xs (traceM x r).1 := rfl
theorem keptL_cons (x : Ln) (xs : List Ln) (r : Rf) : keptL (x :: xs) r = if keptM x r = false then false else if (traceM x r).2 = false then false else keptL xs (traceM x r).1 := rfl
def traceT (m : List Eg) (a b : Tg) (r : Rf) : Rf × Bool := if pathC m a b ≠ 0 then (default, false) else traceL (rowM m a b).1 r
def keptT (m : List Eg) (a b : Tg) (r : Rf) : Bool := if pathC m a b ≠ 0 then false else keptL (rowM m a b).1 r
def trc (x : Rf × Bool) (c : Int) : PV := .tup [ref x.1, .bool x.2, .int .i64 c]
theorem trc_dids (x : Rf × Bool) (c : Int) : (trc x c).dids = [] := by simp only [trc, PV.dids, PV.didsL, ref_dids, List.append_nil]
structure TrS (row : List Ln) (f : List Ln → Rf → Rf × Bool) (r0 : Rf) where
  k : Nat
  r : Rf
  hk : k ≤ row.length
  h : f (row.drop k) r = f row r0
structure KpS (row : List Ln) (r0 : Rf) where
  k : Nat
  r : Rf
  hk : k ≤ row.length
  h : keptL (row.drop k) r = keptL row r0
theorem row_ok {m : List Eg} {a b : Tg} (hm : OkM m) : (rowM m a b).1.length ≤ 1000 ∧ ∀ x ∈ (rowM m a b).1, OkLn x := by
  unfold rowM
  split
  · simp
  · rename_i h
    have hl := legs_len m a b hm
    unfold pathM at hl
    rw [if_neg h] at hl
    refine ⟨by simp only at hl; simp [lenses]; omega, fun x hx => ?_⟩
    obtain ⟨y, _, rfl⟩ := List.mem_map.1 hx
    exact okLens hm y
set_option maxRecDepth 20000 in
set_option maxHeartbeats 16000000 in
theorem TraceTo_pure (m : List Eg) (a b : Tg) (r : Rf) (hm : OkM m) (hr : RightM m) : PL.Pure Tryz.prog 55 [tr (treeOf m), tg a, tg b, ref r] (trc (traceT m a b r) (pathC m a b)) := by
  have hR := Row_pure m a b hm hr
  obtain ⟨hrl, hro⟩ := row_ok (a := a) (b := b) hm
  have hc2 : (rowM m a b).2 = pathC m a b := by unfold rowM; split <;> simp_all
  unfold traceT
  by_cases hc : pathC m a b = 0
  · rw [if_neg (fun h => h hc)]
    rw [hc] at hc2
    generalize hrow : rowM m a b = rw0 at *
    obtain ⟨row, c0⟩ := rw0
    simp only at hc2 hrl hro ⊢
    subst hc2
    rw [hc]
    refine PL.Pure.of_v Tryz.func55 (by decide) rfl Tryz.ntmps55 Tryz.results55 (by simp) (trc_dids _ _) ?_
    simp only [go_sem, tr, tg, ref]
    refine vScopeM (ι := TrS row traceL r) 47 (fun x => [(7, .ptr 7 0), (8, .ptr 8 0), (11, lnss row), (13, .int .i64 (x.k : Int))]) (fun x => [(7, [.int .i64 x.r.sc, .str x.r.gr, .str x.r.nm], false), (8, [.int .i64 0, .str [], .str []], false)]) (fun x => []) (fun x => row.length - x.k) 0 _ (by exact rfl) (fun x => ⟨(forall_cons rfl (forall_cons rfl (forall_cons rfl (forall_cons rfl (forall_nil))))), forall_cons rfl (forall_cons rfl forall_nil)⟩) (fun x => ?_) (fun cut => ?_)
    · obtain ⟨k, r1, hk, h⟩ := x
      simp only
      by_cases he : k = row.length
      · have hb : ((k : Int) == (row.length : Int)) = true := by simp [he]
        have hd : traceL row r = (r1, true) := by rw [← h, he, List.drop_length]; rfl
        simp only [go_sem, lnss, List.length_map, hb, hd, trc, ref]
      · have hb : ((k : Int) == (row.length : Int)) = false := by simp; omega
        have hka : k < row.length := by omega
        have i0 : (0 : Int) ≤ (k : Int) := by omega
        have i1 : (k : Int) < (row.length : Int) := by omega
        have w1 : IntKind.i64.wrap ((k : Int) + 1) = ((k + 1 : Nat) : Int) := by rw [w64 (by omega)]; rfl
        have hT := Trace_pure (row.getD k default) r1 (hro _ (getD_mem (d := default) hka))
        rw [drop_ln hka, traceL_cons] at h
        cases hz : (traceM (row.getD k default) r1).2
        · rw [if_pos hz] at h
          simp only [go_sem, lnss, List.length_map, hb]
          refine vDrawQ (by kernel_rfl) (by kernel_rfl) ?_
          simp only [go_sem, getD_ln hka, lns, i0, i1]
          refine vCall_of (hT) ?_ ?_ ?_; (focus simp only [go_sem, lns, ref]); (focus simp only [go_sem, lns, ref])
          simp only [go_sem, refb, ref, hz, ← h, trc]
          rfl
        · rw [if_neg (by rw [hz]; simp)] at h
          simp only [go_sem, lnss, List.length_map, hb]
          refine vDrawQ (by kernel_rfl) (by kernel_rfl) ?_
          simp only [go_sem, getD_ln hka, lns, i0, i1]
          refine vCall_of (hT) ?_ ?_ ?_; (focus simp only [go_sem, lns, ref]); (focus simp only [go_sem, lns, ref])
          simp only [go_sem, refb, ref, hz, w1]
          exact ⟨⟨k + 1, (traceM (row.getD k default) r1).1, by omega, h⟩, by show row.length - (k + 1) < row.length - k; omega, ⟨rfl, (forall_cons rfl (forall_cons rfl (forall_cons rfl (forall_cons rfl (forall_nil))))), forall_cons ⟨rfl, rfl⟩ (forall_cons ⟨rfl, rfl⟩ forall_nil), forall_nil⟩⟩
    · simp only [go_sem]
      refine vCall_of (hR) ?_ ?_ ?_; (focus simp only [go_sem, tr, tg]); (focus simp only [go_sem, tr, tg])
      simp only [go_sem, lnsc]
      exact awp_label_seq (cut ⟨0, r, Nat.zero_le _, rfl⟩ _ ⟨rfl, (forall_cons rfl (forall_cons rfl (forall_cons rfl (forall_cons rfl (forall_nil))))), forall_cons ⟨rfl, rfl⟩ (forall_cons ⟨rfl, rfl⟩ forall_nil), forall_nil⟩)
  · rw [if_pos hc]
    have hc' : (pathC m a b != 0) = true := by simpa using hc
    have hcr : rowM m a b = ([], pathC m a b) := by unfold rowM; rw [if_pos hc]
    rw [hcr] at hR
    refine PL.Pure.of_v Tryz.func55 (by decide) rfl Tryz.ntmps55 Tryz.results55 (by simp) (trc_dids _ _) ?_
    simp only [go_sem, tr, tg, ref]
    refine vScope0 ?_
    simp only [go_sem]
    refine vCall_of (hR) ?_ ?_ ?_; (focus simp only [go_sem, tr, tg]); (focus simp only [go_sem, tr, tg])
    simp only [go_sem, lnsc, lnss, hc', trc, ref]
    rfl
def kpc (x : Bool) (c : Int) : PV := .tup [.bool x, .int .i64 c]
theorem kpc_dids (x : Bool) (c : Int) : (kpc x c).dids = [] := rfl
set_option maxRecDepth 20000 in
set_option maxHeartbeats 16000000 in
theorem KeptTo_pure (m : List Eg) (a b : Tg) (r : Rf) (hm : OkM m) (hr : RightM m) : PL.Pure Tryz.prog 56 [tr (treeOf m), tg a, tg b, ref r] (kpc (keptT m a b r) (pathC m a b)) := by
  have hR := Row_pure m a b hm hr
  obtain ⟨hrl, hro⟩ := row_ok (a := a) (b := b) hm
  have hc2 : (rowM m a b).2 = pathC m a b := by unfold rowM; split <;> simp_all
  unfold keptT
  by_cases hc : pathC m a b = 0
  · rw [if_neg (fun h => h hc)]
    rw [hc] at hc2
    generalize hrow : rowM m a b = rw0 at *
    obtain ⟨row, c0⟩ := rw0
    simp only at hc2 hrl hro ⊢
    subst hc2
    rw [hc]
    refine PL.Pure.of_v Tryz.func56 (by decide) rfl Tryz.ntmps56 Tryz.results56 (by simp) (kpc_dids _ _) ?_
    simp only [go_sem, tr, tg, ref]
    refine vScopeM (ι := KpS row r) 50 (fun x => [(7, .ptr 7 0), (10, lnss row), (12, .int .i64 (x.k : Int))]) (fun x => [(7, [.int .i64 x.r.sc, .str x.r.gr, .str x.r.nm], false)]) (fun x => []) (fun x => row.length - x.k) 0 _ (by exact rfl) (fun x => ⟨(forall_cons rfl (forall_cons rfl (forall_cons rfl (forall_nil)))), forall_cons rfl forall_nil⟩) (fun x => ?_) (fun cut => ?_)
    · obtain ⟨k, r1, hk, h⟩ := x
      simp only
      by_cases he : k = row.length
      · have hb : ((k : Int) == (row.length : Int)) = true := by simp [he]
        have hd : keptL row r = true := by rw [← h, he, List.drop_length]; rfl
        simp only [go_sem, lnss, List.length_map, hb, hd, kpc]
      · have hb : ((k : Int) == (row.length : Int)) = false := by simp; omega
        have hka : k < row.length := by omega
        have i0 : (0 : Int) ≤ (k : Int) := by omega
        have i1 : (k : Int) < (row.length : Int) := by omega
        have w1 : IntKind.i64.wrap ((k : Int) + 1) = ((k + 1 : Nat) : Int) := by rw [w64 (by omega)]; rfl
        have hT := Trace_pure (row.getD k default) r1 (hro _ (getD_mem (d := default) hka))
        have hK := Kept_pure (row.getD k default) r1 (hro _ (getD_mem (d := default) hka))
        rw [drop_ln hka, keptL_cons] at h
        cases hy : keptM (row.getD k default) r1
        · rw [if_pos hy] at h
          rw [hy] at hK
          simp only [go_sem, lnss, List.length_map, hb]
          refine vDrawQ (by kernel_rfl) (by kernel_rfl) ?_
          simp only [go_sem, getD_ln hka, lns, i0, i1]
          refine vCall_of (hK) ?_ ?_ ?_; (focus simp only [go_sem, lns, ref]); (focus simp only [go_sem, lns, ref])
          simp only [go_sem, ← h, kpc]
        rw [if_neg (by rw [hy]; simp)] at h
        rw [hy] at hK
        cases hz : (traceM (row.getD k default) r1).2
        · rw [if_pos hz] at h
          simp only [go_sem, lnss, List.length_map, hb]
          refine vDrawQ (by kernel_rfl) (by kernel_rfl) ?_
          simp only [go_sem, getD_ln hka, lns, i0, i1]
          refine vCall_of (hK) ?_ ?_ ?_; (focus simp only [go_sem, lns, ref]); (focus simp only [go_sem, lns, ref])
          simp only [go_sem]
          refine vDrawQ (by kernel_rfl) (by kernel_rfl) ?_
          simp only [go_sem, getD_ln hka, lns, i0, i1, List.length_map]
          refine vCall_of (hT) ?_ ?_ ?_; (focus simp only [go_sem, lns, ref]); (focus simp only [go_sem, lns, ref])
          simp only [go_sem, refb, ref, hz, ← h, kpc]
        · rw [if_neg (by rw [hz]; simp)] at h
          simp only [go_sem, lnss, List.length_map, hb]
          refine vDrawQ (by kernel_rfl) (by kernel_rfl) ?_
          simp only [go_sem, getD_ln hka, lns, i0, i1]
          refine vCall_of (hK) ?_ ?_ ?_; (focus simp only [go_sem, lns, ref]); (focus simp only [go_sem, lns, ref])
          simp only [go_sem]
          refine vDrawQ (by kernel_rfl) (by kernel_rfl) ?_
          simp only [go_sem, getD_ln hka, lns, i0, i1, List.length_map]
          refine vCall_of (hT) ?_ ?_ ?_; (focus simp only [go_sem, lns, ref]); (focus simp only [go_sem, lns, ref])
          simp only [go_sem, refb, ref, hz, w1]
          exact ⟨⟨k + 1, (traceM (row.getD k default) r1).1, by omega, h⟩, by show row.length - (k + 1) < row.length - k; omega, ⟨rfl, (forall_cons rfl (forall_cons rfl (forall_cons rfl (forall_nil)))), forall_cons ⟨rfl, rfl⟩ forall_nil, forall_nil⟩⟩
    · simp only [go_sem]
      refine vCall_of (hR) ?_ ?_ ?_; (focus simp only [go_sem, tr, tg]); (focus simp only [go_sem, tr, tg])
      simp only [go_sem, lnsc]
      exact awp_label_seq (cut ⟨0, r, Nat.zero_le _, rfl⟩ _ ⟨rfl, (forall_cons rfl (forall_cons rfl (forall_cons rfl (forall_nil)))), forall_cons ⟨rfl, rfl⟩ forall_nil, forall_nil⟩)
  · rw [if_pos hc]
    have hc' : (pathC m a b != 0) = true := by simpa using hc
    have hcr : rowM m a b = ([], pathC m a b) := by unfold rowM; rw [if_pos hc]
    rw [hcr] at hR
    refine PL.Pure.of_v Tryz.func56 (by decide) rfl Tryz.ntmps56 Tryz.results56 (by simp) (kpc_dids _ _) ?_
    simp only [go_sem, tr, tg, ref]
    refine vScope0 ?_
    simp only [go_sem]
    refine vCall_of (hR) ?_ ?_ ?_; (focus simp only [go_sem, tr, tg]); (focus simp only [go_sem, tr, tg])
    simp only [go_sem, lnsc, lnss, hc', kpc]
end Go.Proofs.YtcomkajmhlhphaaGreat

set_option linter.unusedSimpArgs false
set_option linter.unusedVariables false
set_option linter.unusedSimpArgs false
set_option linter.unusedVariables false
namespace Go.Proofs.YtcomkajmhlhphaaGreat
open Go.PL
end Go.Proofs.YtcomkajmhlhphaaGreat

set_option linter.unusedSimpArgs false
set_option linter.unusedVariables false
set_option linter.unusedSimpArgs false
set_option linter.unusedVariables false
namespace Go.Proofs.YtcomkajmhlhphaaGreat
open Go.PL
/-- two lenses that lead to and back between two schemas -/
structure Pair (l m : List Fd) (x y : Ln) : Prop where
  a : applyM l x = (m, 0)
  b : applyM m y = (l, 0)
  g : goesR y = comesR x
  c : comesR y = goesR x
theorem Pair.back {l m : List Fd} {x y : Ln} (h : Pair l m x y) : Pair m l y x := ⟨h.b, h.a, h.c.symm, h.g.symm⟩
def On (l : List Fd) (r : Rf) : Prop := ∃ f ∈ l, f.at' = r
theorem Pair.right {l m : List Fd} {x y : Ln} (h : Pair l m x y) : rightLn x = true := (apply_fwd h.a).2.1
/-- what comes is on the far side -/
theorem Pair.comes {l m : List Fd} {x y : Ln} (h : Pair l m x y) : ∀ r ∈ comesR x, On m r := by
  obtain ⟨hm, hy, cs, l1, h1, h2, h3⟩ := apply_fwd h.b
  obtain ⟨a1, a2, a3, a4, a5⟩ := go_fwd hm h2
  rw [← h.g]; exact a3
/-- a row of lenses with those that lead back -/
inductive Pairs : List Fd → List Fd → List Ln → List Ln → Prop
  | nil (l : List Fd) : Pairs l l [] []
  | cons {l m n : List Fd} {x y : Ln} {xs ys : List Ln} (h : Pair l m x y) (hs : Pairs m n xs ys) : Pairs l n (x :: xs) (ys ++ [y])
theorem Pairs.append {l m n : List Fd} {xs ys us vs : List Ln} (h1 : Pairs l m xs ys) (h2 : Pairs m n us vs) : Pairs l n (xs ++ us) (vs ++ ys) := by
  induction h1 with
  | nil => simpa using h2
  | cons h hs ih => rw [← List.append_assoc]; exact .cons h (ih h2)
theorem Pairs.back {l m : List Fd} {xs ys : List Ln} (h : Pairs l m xs ys) : Pairs m l ys xs := by
  induction h with
  | nil => exact .nil _
  | cons h hs ih => exact ih.append (.cons h.back (.nil _))
end Go.Proofs.YtcomkajmhlhphaaGreat

set_option linter.unusedSimpArgs false
set_option linter.unusedVariables false
set_option linter.unusedSimpArgs false
set_option linter.unusedVariables false
namespace Go.Proofs.YtcomkajmhlhphaaGreat
open Go.PL
end Go.Proofs.YtcomkajmhlhphaaGreat
