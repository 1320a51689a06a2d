/- Contracts of functions and laws of this seat, each for every input that it names: lemmas of the proof. -/
import Derived.Test.YtbojhapdidieoaaFm
set_option linter.unusedSimpArgs false
set_option linter.unusedVariables false
set_option linter.unusedSimpArgs false
set_option linter.unusedVariables false
namespace Go.Proofs.Ytbojhapdidieoaa
open Go.PL
theorem upL_split (u v : List Eg) : upL (u ++ v) = v.reverse.map (·.id) ++ upL u := by simp [upL]
/-- where two ways part -/
def meetT (p q : List Eg) : Tg := (upL (p.take (lcp p q))).getD 0 default
theorem upL_cons (u : List Eg) : upL u = (upL u).getD 0 default :: (upL u).tail := by
  cases h : upL u with
  | nil => have := upL_len u; rw [h] at this; simp at this
  | cons a l => rfl
def stopsW (p q : List Eg) : List Tg := (p.drop (lcp p q)).reverse.map (·.id) ++ [meetT p q] ++ (q.drop (lcp p q)).map (·.id)
theorem upL_take1 (p q : List Eg) : (upL p).take (p.length - lcp p q + 1) = (p.drop (lcp p q)).reverse.map (·.id) ++ [meetT p q] := by
  have h := upL_split (p.take (lcp p q)) (p.drop (lcp p q))
  rw [List.take_append_drop] at h
  rw [h, List.take_append]
  have hl : ((p.drop (lcp p q)).reverse.map (·.id)).length = p.length - lcp p q := by simp
  rw [hl, List.take_of_length_le (by omega), show p.length - lcp p q + 1 - (p.length - lcp p q) = 1 by omega, upL_cons (p.take (lcp p q))]
  rfl
theorem upL_at (p q : List Eg) : (upL p).getD (p.length - lcp p q) default = meetT p q := by
  have h := upL_split (p.take (lcp p q)) (p.drop (lcp p q))
  rw [List.take_append_drop] at h
  have hl : ((p.drop (lcp p q)).reverse.map (·.id)).length = p.length - lcp p q := by simp
  rw [h, getD_append_right (by omega), hl, Nat.sub_self]
  rfl
def stopsM (m : List Eg) (a b : Tg) : List Tg × Int := if pathC m a b ≠ 0 then ([], pathC m a b) else (stopsW (wayD m a) (wayD m b), 0)
def meetM (m : List Eg) (a b : Tg) : Tg × Int := if pathC m a b ≠ 0 then (default, pathC m a b) else (meetT (wayD m a) (wayD m b), 0)
def tgc (x : Tg × Int) : PV := .tup [tg x.1, .int .i64 x.2]
theorem tgc_dids (x : Tg × Int) : (tgc x).dids = [] := by simp only [tgc, PV.dids, PV.didsL, tg_dids, List.append_nil]
theorem tg_default : tg default = .agg [.int .i64 0, .int .i64 0] := rfl
set_option maxRecDepth 20000 in
set_option maxHeartbeats 16000000 in
theorem Meet_pure (m : List Eg) (a b : Tg) (hm : OkM m) : PL.Pure Try.prog 25 [tr (treeOf m), tg a, tg b] (tgc (meetM m a b)) := by
  have hW := ways_pure m a b hm
  unfold meetM
  by_cases hc : pathC m a b = 0
  · rw [waysM_good hc] at hW
    simp only [hc, ne_eq, not_true_eq_false, if_false]
    generalize wayD m a = p at *
    generalize wayD m b = q at *
    have hup : (upL p).length = p.length + 1 := upL_len p
    have k1 : p.length - lcp p q < (upL p).length := by omega
    have v1 := upL_at p q
    have b1 : (0 : Int) ≤ ((p.length - lcp p q : Nat) : Int) := by omega
    have b2 : ((p.length - lcp p q : Nat) : Int) < ((upL p).length : Int) := by omega
    refine PL.Pure.of_v Try.func25 (by decide) rfl Try.ntmps25 Try.results25 (by simp) (tgc_dids _) ?_
    simp only [go_sem, reduceIte, Nat.reduceEqDiff, reduceCtorEq, Nat.reduceLT, Nat.reduceAdd, Nat.reduceSub, Nat.reduceMul, Nat.reduceLeDiff, Int.reduceLT, Int.reduceLE, Int.reduceToNat, Int.reduceEq, Int.reduceAdd, Int.reduceSub, Int.reduceNeg, Int.reduceBNe, Int.reduceBEq, tr, tg]
    refine vCall_of (hW) ?_ ?_ ?_; (focus simp only [go_sem, reduceIte, Nat.reduceEqDiff, reduceCtorEq, Nat.reduceLT, Nat.reduceAdd, Nat.reduceSub, Nat.reduceMul, Nat.reduceLeDiff, Int.reduceLT, Int.reduceLE, Int.reduceToNat, Int.reduceEq, Int.reduceAdd, Int.reduceSub, Int.reduceNeg, Int.reduceBNe, Int.reduceBEq, tr, tg]); (focus simp only [go_sem, reduceIte, Nat.reduceEqDiff, reduceCtorEq, Nat.reduceLT, Nat.reduceAdd, Nat.reduceSub, Nat.reduceMul, Nat.reduceLeDiff, Int.reduceLT, Int.reduceLE, Int.reduceToNat, Int.reduceEq, Int.reduceAdd, Int.reduceSub, Int.reduceNeg, Int.reduceBNe, Int.reduceBEq, tr, tg])
    simp only [go_sem, reduceIte, Nat.reduceEqDiff, reduceCtorEq, Nat.reduceLT, Nat.reduceAdd, Nat.reduceSub, Nat.reduceMul, Nat.reduceLeDiff, Int.reduceLT, Int.reduceLE, Int.reduceToNat, Int.reduceEq, Int.reduceAdd, Int.reduceSub, Int.reduceNeg, Int.reduceBNe, Int.reduceBEq, wayv, tgs, getD_tg k1, v1, b1, b2, tg, tgc]
  · have hc' : (pathC m a b != 0) = true := by simpa using hc
    rw [waysM_bad hc] at hW
    simp only [ne_eq, hc, not_false_eq_true, if_true]
    refine PL.Pure.of_v Try.func25 (by decide) rfl Try.ntmps25 Try.results25 (by simp) (tgc_dids _) ?_
    simp only [go_sem, reduceIte, Nat.reduceEqDiff, reduceCtorEq, Nat.reduceLT, Nat.reduceAdd, Nat.reduceSub, Nat.reduceMul, Nat.reduceLeDiff, Int.reduceLT, Int.reduceLE, Int.reduceToNat, Int.reduceEq, Int.reduceAdd, Int.reduceSub, Int.reduceNeg, Int.reduceBNe, Int.reduceBEq, tr, tg]
    refine vCall_of (hW) ?_ ?_ ?_; (focus simp only [go_sem, reduceIte, Nat.reduceEqDiff, reduceCtorEq, Nat.reduceLT, Nat.reduceAdd, Nat.reduceSub, Nat.reduceMul, Nat.reduceLeDiff, Int.reduceLT, Int.reduceLE, Int.reduceToNat, Int.reduceEq, Int.reduceAdd, Int.reduceSub, Int.reduceNeg, Int.reduceBNe, Int.reduceBEq, tr, tg]); (focus simp only [go_sem, reduceIte, Nat.reduceEqDiff, reduceCtorEq, Nat.reduceLT, Nat.reduceAdd, Nat.reduceSub, Nat.reduceMul, Nat.reduceLeDiff, Int.reduceLT, Int.reduceLE, Int.reduceToNat, Int.reduceEq, Int.reduceAdd, Int.reduceSub, Int.reduceNeg, Int.reduceBNe, Int.reduceBEq, tr, tg])
    simp only [go_sem, reduceIte, Nat.reduceEqDiff, reduceCtorEq, Nat.reduceLT, Nat.reduceAdd, Nat.reduceSub, Nat.reduceMul, Nat.reduceLeDiff, Int.reduceLT, Int.reduceLE, Int.reduceToNat, Int.reduceEq, Int.reduceAdd, Int.reduceSub, Int.reduceNeg, Int.reduceBNe, Int.reduceBEq, wayv, tgs, hc', tgc, tg_default]
set_option maxRecDepth 20000 in
set_option maxHeartbeats 16000000 in
theorem Stops_pure (m : List Eg) (a b : Tg) (hm : OkM m) : PL.Pure Try.prog 15 [tr (treeOf m), tg a, tg b] (tgsc (stopsM m a b)) := by
  have hW := ways_pure m a b hm
  unfold stopsM
  by_cases hc : pathC m a b = 0
  · rw [waysM_good hc] at hW
    obtain ⟨ha, hb⟩ := pathC_zero.1 hc
    obtain ⟨wa, _, _⟩ := live_way ha
    obtain ⟨wb, _, _⟩ := live_way hb
    simp only [hc, ne_eq, not_true_eq_false, if_false]
    generalize wayD m a = p at *
    generalize wayD m b = q at *
    have hlc := lcp_le p q
    have hpl : p.length ≤ 40 := by have := wa.len; have := hm.n; omega
    have hql : q.length ≤ 40 := by have := wb.len; have := hm.n; omega
    unfold stopsW
    have hut := upL_take1 p q
    have hql' : (q.drop (lcp p q)).length = q.length - lcp p q := by simp
    generalize hids : (p.drop (lcp p q)).reverse.map (·.id) ++ [meetT p q] = ids at *
    have hidl : ids.length = p.length - lcp p q + 1 := by rw [← hids]; simp
    have s0 : IntKind.i64.wrap (((p.length - lcp p q : Nat) : Int) + ((q.length - lcp p q : Nat) : Int)) = ((p.length - lcp p q + (q.length - lcp p q) : Nat) : Int) := by rw [w64 (by omega)]; omega
    have s1 : IntKind.i64.wrap (((p.length - lcp p q + (q.length - lcp p q) : Nat) : Int) + 1) = ((p.length - lcp p q + (q.length - lcp p q) + 1 : Nat) : Int) := by rw [w64 (by omega)]; omega
    have s2 : IntKind.i64.wrap (((p.length - lcp p q : Nat) : Int) + 1) = ((p.length - lcp p q + 1 : Nat) : Int) := by rw [w64 (by omega)]; omega
    have hup : (upL p).length = p.length + 1 := upL_len p
    have htt : PL.cut (List.map tg (upL p)) 0 ((p.length - lcp p q + 1 : Nat) : Int) = ids.map tg := by simp [PL.cut, ← List.map_take, hut]
    have hr0 := room1 (show ids.length ≤ 1000000 by omega) (show 16 ≤ 1000 by omega)
    refine PL.Pure.of_v Try.func15 (by decide) rfl Try.ntmps15 Try.results15 (by simp) (tgsc_dids _) ?_
    simp only [go_sem, reduceIte, Nat.reduceEqDiff, reduceCtorEq, Nat.reduceLT, Nat.reduceAdd, Nat.reduceSub, Nat.reduceMul, Nat.reduceLeDiff, Int.reduceLT, Int.reduceLE, Int.reduceToNat, Int.reduceEq, Int.reduceAdd, Int.reduceSub, Int.reduceNeg, Int.reduceBNe, Int.reduceBEq, tr, tg]
    refine vScopeM (ι := { s : Nat // s ≤ q.length - lcp p q }) 50 (fun x => [(9, tgs (upL q)), (11, .int .i64 ((q.length - lcp p q - x.1 : Nat) : Int)), (13, .sl (.row 48) ((ids ++ ((q.drop (lcp p q)).take x.1).map (·.id)).map tg))]) (fun x => []) (fun x => [(48, .live (ids.length + x.1) 2 24)]) (fun x => q.length - lcp p q - x.1) 0 _ (by exact rfl)
      (fun x => ⟨forall_cons rfl (forall_cons rfl (forall_cons (by simp [PV.ids, refInM]) forall_nil)), forall_nil⟩) (fun x => ?_) (fun cut => ?_)
    · obtain ⟨s, hs⟩ := x
      simp only
      by_cases hlt : s < q.length - lcp p q
      · have c1 : (0 : Int) < ((q.length - lcp p q - s : Nat) : Int) := by omega
        have w1 : IntKind.i64.wrap (((q.length - lcp p q - s : Nat) : Int) - 1) = ((q.length - (lcp p q + s) - 1 : Nat) : Int) := by rw [w64 (by omega)]; omega
        have k1 : q.length - (lcp p q + s) - 1 < (upL q).length := by rw [upL_len]; omega
        have b1 : (0 : Int) ≤ ((q.length - (lcp p q + s) - 1 : Nat) : Int) := by omega
        have b2 : ((q.length - (lcp p q + s) - 1 : Nat) : Int) < ((upL q).length : Int) := by omega
        have v1 := upL_get q (lcp p q + s) (by omega)
        have hrm := room1 (show ids.length + s + 1 ≤ 1000000 by omega) (show 16 ≤ 1000 by omega)
        have hsl : (ids ++ ((q.drop (lcp p q)).take s).map (·.id)).length = ids.length + s := by simp; omega
        have hnx := drop_take_snoc (q := q) (c := lcp p q) (s := s) (by omega)
        simp only [go_sem, reduceIte, Nat.reduceEqDiff, reduceCtorEq, Nat.reduceLT, Nat.reduceAdd, Nat.reduceSub, Nat.reduceMul, Nat.reduceLeDiff, Int.reduceLT, Int.reduceLE, Int.reduceToNat, Int.reduceEq, Int.reduceAdd, Int.reduceSub, Int.reduceNeg, Int.reduceBNe, Int.reduceBEq, tgs, c1, w1, getD_tg k1, v1, tg, b1, b2, sized_tg, hsl, List.length_map, hrm]
        refine ⟨⟨s + 1, by omega⟩, by show q.length - lcp p q - (s + 1) < q.length - lcp p q - s; omega, ⟨rfl, forall_cons rfl (forall_cons ?_ (forall_cons ?_ forall_nil)), forall_nil, forall_cons ?_ forall_nil⟩⟩
        · show PV.int .i64 _ = PV.int .i64 _
          congr 2
          simp only
          omega
        · show PV.sl (.row 48) _ = PV.sl (.row 48) _
          simp [hnx, tg]
        · rfl
      · obtain rfl : s = q.length - lcp p q := by omega
        have c1 : ¬ (0 : Int) < ((q.length - lcp p q - (q.length - lcp p q) : Nat) : Int) := by omega
        have htk : (q.drop (lcp p q)).take (q.length - lcp p q) = q.drop (lcp p q) := List.take_of_length_le (by omega)
        simp only [go_sem, reduceIte, Nat.reduceEqDiff, reduceCtorEq, Nat.reduceLT, Nat.reduceAdd, Nat.reduceSub, Nat.reduceMul, Nat.reduceLeDiff, Int.reduceLT, Int.reduceLE, Int.reduceToNat, Int.reduceEq, Int.reduceAdd, Int.reduceSub, Int.reduceNeg, Int.reduceBNe, Int.reduceBEq, tgs, c1, tgsc, tgs, htk]
    · simp only [go_sem, reduceIte, Nat.reduceEqDiff, reduceCtorEq, Nat.reduceLT, Nat.reduceAdd, Nat.reduceSub, Nat.reduceMul, Nat.reduceLeDiff, Int.reduceLT, Int.reduceLE, Int.reduceToNat, Int.reduceEq, Int.reduceAdd, Int.reduceSub, Int.reduceNeg, Int.reduceBNe, Int.reduceBEq]
      refine vCall_of (hW) ?_ ?_ ?_; (focus simp only [go_sem, reduceIte, Nat.reduceEqDiff, reduceCtorEq, Nat.reduceLT, Nat.reduceAdd, Nat.reduceSub, Nat.reduceMul, Nat.reduceLeDiff, Int.reduceLT, Int.reduceLE, Int.reduceToNat, Int.reduceEq, Int.reduceAdd, Int.reduceSub, Int.reduceNeg, Int.reduceBNe, Int.reduceBEq, tr, tg]); (focus simp only [go_sem, reduceIte, Nat.reduceEqDiff, reduceCtorEq, Nat.reduceLT, Nat.reduceAdd, Nat.reduceSub, Nat.reduceMul, Nat.reduceLeDiff, Int.reduceLT, Int.reduceLE, Int.reduceToNat, Int.reduceEq, Int.reduceAdd, Int.reduceSub, Int.reduceNeg, Int.reduceBNe, Int.reduceBEq, tr, tg])
      simp only [go_sem, reduceIte, Nat.reduceEqDiff, reduceCtorEq, Nat.reduceLT, Nat.reduceAdd, Nat.reduceSub, Nat.reduceMul, Nat.reduceLeDiff, Int.reduceLT, Int.reduceLE, Int.reduceToNat, Int.reduceEq, Int.reduceAdd, Int.reduceSub, Int.reduceNeg, Int.reduceBNe, Int.reduceBEq, wayv, tgs, s0, s1, s2]
      repeat ((with_reducible refine And.intro ?_ ?_); (focus ((repeat' (with_reducible apply And.intro)) <;> (first | omega | exact room_small (by omega) (by omega) | exact room_small (by simp; omega) (by omega) | exact sized_str _ | (simp; done) | (simp; omega)))))
      refine ⟨⟨by omega, by omega, sized_tg _⟩, ?_⟩
      simp only [go_sem, reduceIte, Nat.reduceEqDiff, reduceCtorEq, Nat.reduceLT, Nat.reduceAdd, Nat.reduceSub, Nat.reduceMul, Nat.reduceLeDiff, Int.reduceLT, Int.reduceLE, Int.reduceToNat, Int.reduceEq, Int.reduceAdd, Int.reduceSub, Int.reduceNeg, Int.reduceBNe, Int.reduceBEq, htt, sized_tg, atoms_tg, List.length_map, hr0]
      refine awp_moveRow 13 37 48 ids.length 2 24 (ids.map tg) rfl rfl rfl ?_
      exact awp_label_seq (cut ⟨0, Nat.zero_le _⟩ _ ⟨rfl, forall_cons rfl (forall_cons rfl (forall_cons (by simp [upd, St.with]) forall_nil)), forall_nil, forall_cons (by simp [upd, Hp.setq, St.with]) forall_nil⟩)
  · have hc' : (pathC m a b != 0) = true := by simpa using hc
    rw [waysM_bad hc] at hW
    simp only [ne_eq, hc, not_false_eq_true, if_true]
    refine PL.Pure.of_v Try.func15 (by decide) rfl Try.ntmps15 Try.results15 (by simp) (tgsc_dids _) ?_
    simp only [go_sem, reduceIte, Nat.reduceEqDiff, reduceCtorEq, Nat.reduceLT, Nat.reduceAdd, Nat.reduceSub, Nat.reduceMul, Nat.reduceLeDiff, Int.reduceLT, Int.reduceLE, Int.reduceToNat, Int.reduceEq, Int.reduceAdd, Int.reduceSub, Int.reduceNeg, Int.reduceBNe, Int.reduceBEq, tr, tg]
    refine vScope0 ?_
    simp only [go_sem, reduceIte, Nat.reduceEqDiff, reduceCtorEq, Nat.reduceLT, Nat.reduceAdd, Nat.reduceSub, Nat.reduceMul, Nat.reduceLeDiff, Int.reduceLT, Int.reduceLE, Int.reduceToNat, Int.reduceEq, Int.reduceAdd, Int.reduceSub, Int.reduceNeg, Int.reduceBNe, Int.reduceBEq]
    refine vCall_of (hW) ?_ ?_ ?_; (focus simp only [go_sem, reduceIte, Nat.reduceEqDiff, reduceCtorEq, Nat.reduceLT, Nat.reduceAdd, Nat.reduceSub, Nat.reduceMul, Nat.reduceLeDiff, Int.reduceLT, Int.reduceLE, Int.reduceToNat, Int.reduceEq, Int.reduceAdd, Int.reduceSub, Int.reduceNeg, Int.reduceBNe, Int.reduceBEq, tr, tg]); (focus simp only [go_sem, reduceIte, Nat.reduceEqDiff, reduceCtorEq, Nat.reduceLT, Nat.reduceAdd, Nat.reduceSub, Nat.reduceMul, Nat.reduceLeDiff, Int.reduceLT, Int.reduceLE, Int.reduceToNat, Int.reduceEq, Int.reduceAdd, Int.reduceSub, Int.reduceNeg, Int.reduceBNe, Int.reduceBEq, tr, tg])
    simp only [go_sem, reduceIte, Nat.reduceEqDiff, reduceCtorEq, Nat.reduceLT, Nat.reduceAdd, Nat.reduceSub, Nat.reduceMul, Nat.reduceLeDiff, Int.reduceLT, Int.reduceLE, Int.reduceToNat, Int.reduceEq, Int.reduceAdd, Int.reduceSub, Int.reduceNeg, Int.reduceBNe, Int.reduceBEq, wayv, tgs, hc', tgsc, tgs, List.map_nil]
end Go.Proofs.Ytbojhapdidieoaa
