/- Contracts of functions and laws of this seat, each for every input that it names: lemmas of the proof. -/
import Derived.Test.YtbojhapdidieoaaFj
set_option linter.unusedSimpArgs false
set_option linter.unusedVariables false
set_option linter.unusedSimpArgs false
set_option linter.unusedVariables false
namespace Go.Proofs.Ytbojhapdidieoaa
open Go.PL
def dn (e : Eg) : Lg := ⟨e.id, true⟩
def upg (i : Tg) : Lg := ⟨i, false⟩
def legsW (p q : List Eg) : List Lg := ((p.drop (lcp p q)).reverse.map fun e => upg e.id) ++ (q.drop (lcp p q)).map dn
theorem upL_take (p : List Eg) (c : Nat) (hc : c ≤ p.length) : (upL p).take (p.length - c) = (p.drop c).reverse.map (·.id) := by
  unfold upL
  rw [List.take_append_of_le_length (by simp), ← List.map_take, List.take_reverse]
  congr 3
  omega
def legsc (x : List Lg × Int) : PV := .tup [lgs x.1, .int .i64 x.2]
theorem didsL_lg (l : List Lg) : PV.didsL (l.map lg) = [] := by
  induction l with
  | nil => rfl
  | cons t l ih => simp only [List.map_cons, PV.didsL, ih, lg, PV.dids, List.append_nil]
theorem lgs_dids (l : List Lg) : (lgs l).dids = [] := by simp only [lgs, PV.dids, didsL_lg]
theorem legsc_dids (x : List Lg × Int) : (legsc x).dids = [] := by simp only [legsc, PV.dids, PV.didsL, lgs_dids, List.append_nil]
theorem sized_lg (l : List Lg) : Sized 3 (l.map lg) := fun e he => by
  obtain ⟨x, _, rfl⟩ := List.mem_map.1 he; rfl
def pathC (m : List Eg) (a b : Tg) : Int := if upC m a ≠ 0 then upC m a else upC m b
def pathM (m : List Eg) (a b : Tg) : List Lg × Int := if pathC m a b ≠ 0 then ([], pathC m a b) else (legsW (wayD m a) (wayD m b), 0)
theorem pathC_zero {m : List Eg} {a b : Tg} : pathC m a b = 0 ↔ upC m a = 0 ∧ upC m b = 0 := by
  unfold pathC
  split
  · rename_i h; exact ⟨fun h' => absurd h' h, fun h' => absurd h'.1 h⟩
  · rename_i h; exact ⟨fun h' => ⟨by simpa using h, h'⟩, fun h' => h'.2⟩
theorem waysM_bad {m : List Eg} {a b : Tg} (h : pathC m a b ≠ 0) : waysM m a b = ⟨[], [], 0, 0, pathC m a b⟩ := by
  unfold waysM pathC at *
  split
  · rfl
  · rename_i h1
    rw [if_neg h1] at h
    rw [if_pos h]
theorem waysM_good {m : List Eg} {a b : Tg} (h : pathC m a b = 0) : waysM m a b = ⟨upL (wayD m a), upL (wayD m b), (wayD m a).length - lcp (wayD m a) (wayD m b), (wayD m b).length - lcp (wayD m a) (wayD m b), 0⟩ := by
  obtain ⟨h1, h2⟩ := pathC_zero.1 h
  unfold waysM
  rw [if_neg (by simp [h1]), if_neg (by simp [h2])]
theorem drop_take_snoc {q : List Eg} {c s : Nat} (h : c + s < q.length) : (q.drop c).take (s + 1) = (q.drop c).take s ++ [q.getD (c + s) default] := by
  rw [List.take_add_one]
  congr 1
  rw [List.getElem?_drop, List.getElem?_eq_getElem h, getD_lt h]
  rfl
set_option maxRecDepth 20000 in
set_option maxHeartbeats 16000000 in
theorem Path_pure (m : List Eg) (a b : Tg) (hm : OkM m) : PL.Pure Try.prog 14 [tr (treeOf m), tg a, tg b] (legsc (pathM m a b)) := by
  have hW := ways_pure m a b hm
  unfold pathM
  by_cases hc : pathC m a b = 0
  · rw [waysM_good hc] at hW
    obtain ⟨ha, hb⟩ := pathC_zero.1 hc
    obtain ⟨wa, _, _⟩ := live_way ha
    obtain ⟨wb, _, _⟩ := live_way hb
    simp only [hc, ne_eq, not_true_eq_false, if_false]
    generalize wayD m a = p at *
    generalize wayD m b = q at *
    have hlc := lcp_le p q
    have hpl : p.length ≤ 40 := by have := wa.len; have := hm.n; omega
    have hql : q.length ≤ 40 := by have := wb.len; have := hm.n; omega
    unfold legsW
    have hut := upL_take p (lcp p q) hlc.1
    have hdl : (p.drop (lcp p q)).length = p.length - lcp p q := by simp
    have hql' : (q.drop (lcp p q)).length = q.length - lcp p q := by simp
    generalize hids : (p.drop (lcp p q)).reverse.map (·.id) = ids at *
    have hidl : ids.length = p.length - lcp p q := by rw [← hids]; simp
    have hfst : ((p.drop (lcp p q)).reverse.map fun e => upg e.id) = ids.map upg := by rw [← hids, List.map_map]; rfl
    rw [hfst]
    have hlen : ids.length ≤ maxLen := by rw [maxLen_eq]; omega
    have s0 : IntKind.i64.wrap (((p.length - lcp p q : Nat) : Int) + ((q.length - lcp p q : Nat) : Int)) = ((p.length - lcp p q + (q.length - lcp p q) : Nat) : Int) := by rw [w64 (by omega)]; omega
    have hup : (upL p).length = p.length + 1 := upL_len p
    refine PL.Pure.of_v Try.func14 (by decide) rfl Try.ntmps14 Try.results14 (by simp) (legsc_dids _) ?_
    simp only [go_sem, reduceIte, Nat.reduceEqDiff, reduceCtorEq, Nat.reduceLT, Nat.reduceAdd, Nat.reduceSub, Nat.reduceMul, Nat.reduceLeDiff, Int.reduceLT, Int.reduceLE, Int.reduceToNat, Int.reduceEq, Int.reduceAdd, Int.reduceSub, Int.reduceNeg, Int.reduceBNe, Int.reduceBEq, tr, tg]
    refine vScopeM (ι := { s : Nat // s ≤ q.length - lcp p q }) 60 (fun x => [(9, tgs (upL q)), (11, .int .i64 ((q.length - lcp p q - x.1 : Nat) : Int)), (13, .sl (.row 58) ((ids.map upg ++ ((q.drop (lcp p q)).take x.1).map dn).map lg))]) (fun x => []) (fun x => [(58, .live (ids.length + x.1) 3 35)]) (fun x => q.length - lcp p q - x.1) 0 _ (by exact rfl)
      (fun x => ⟨forall_cons rfl (forall_cons rfl (forall_cons (by simp [PV.ids, refInM]) forall_nil)), forall_nil⟩) (fun x => ?_) (fun cut => ?_)
    · obtain ⟨s, hs⟩ := x
      simp only
      by_cases hlt : s < q.length - lcp p q
      · have c1 : (0 : Int) < ((q.length - lcp p q - s : Nat) : Int) := by omega
        have w1 : IntKind.i64.wrap (((q.length - lcp p q - s : Nat) : Int) - 1) = ((q.length - (lcp p q + s) - 1 : Nat) : Int) := by rw [w64 (by omega)]; omega
        have k1 : q.length - (lcp p q + s) - 1 < (upL q).length := by rw [upL_len]; omega
        have b1 : (0 : Int) ≤ ((q.length - (lcp p q + s) - 1 : Nat) : Int) := by omega
        have b2 : ((q.length - (lcp p q + s) - 1 : Nat) : Int) < ((upL q).length : Int) := by omega
        have v1 := upL_get q (lcp p q + s) (by omega)
        have hrm := room1 (show ids.length + s + 1 ≤ 1000000 by omega) (show 24 ≤ 1000 by omega)
        have hsl : (ids.map upg ++ ((q.drop (lcp p q)).take s).map dn).length = ids.length + s := by simp; omega
        have hnx := drop_take_snoc (q := q) (c := lcp p q) (s := s) (by omega)
        simp only [go_sem, reduceIte, Nat.reduceEqDiff, reduceCtorEq, Nat.reduceLT, Nat.reduceAdd, Nat.reduceSub, Nat.reduceMul, Nat.reduceLeDiff, Int.reduceLT, Int.reduceLE, Int.reduceToNat, Int.reduceEq, Int.reduceAdd, Int.reduceSub, Int.reduceNeg, Int.reduceBNe, Int.reduceBEq, tgs, c1, w1, getD_tg k1, v1, tg, b1, b2, sized_lg, hsl, List.length_map, hrm]
        refine ⟨⟨s + 1, by omega⟩, by show q.length - lcp p q - (s + 1) < q.length - lcp p q - s; omega, ⟨rfl, forall_cons rfl (forall_cons ?_ (forall_cons ?_ forall_nil)), forall_nil, forall_cons ?_ forall_nil⟩⟩
        · show PV.int .i64 _ = PV.int .i64 _
          congr 2
          simp only
          omega
        · show PV.sl (.row 58) _ = PV.sl (.row 58) _
          simp [hnx, dn, lg]
        · rfl
      · obtain rfl : s = q.length - lcp p q := by omega
        have c1 : ¬ (0 : Int) < ((q.length - lcp p q - (q.length - lcp p q) : Nat) : Int) := by omega
        have htk : (q.drop (lcp p q)).take (q.length - lcp p q) = q.drop (lcp p q) := List.take_of_length_le (by omega)
        simp only [go_sem, reduceIte, Nat.reduceEqDiff, reduceCtorEq, Nat.reduceLT, Nat.reduceAdd, Nat.reduceSub, Nat.reduceMul, Nat.reduceLeDiff, Int.reduceLT, Int.reduceLE, Int.reduceToNat, Int.reduceEq, Int.reduceAdd, Int.reduceSub, Int.reduceNeg, Int.reduceBNe, Int.reduceBEq, tgs, c1, legsc, lgs, htk]
    · simp only [go_sem, reduceIte, Nat.reduceEqDiff, reduceCtorEq, Nat.reduceLT, Nat.reduceAdd, Nat.reduceSub, Nat.reduceMul, Nat.reduceLeDiff, Int.reduceLT, Int.reduceLE, Int.reduceToNat, Int.reduceEq, Int.reduceAdd, Int.reduceSub, Int.reduceNeg, Int.reduceBNe, Int.reduceBEq]
      refine vCall_of (hW) ?_ ?_ ?_; (focus simp only [go_sem, reduceIte, Nat.reduceEqDiff, reduceCtorEq, Nat.reduceLT, Nat.reduceAdd, Nat.reduceSub, Nat.reduceMul, Nat.reduceLeDiff, Int.reduceLT, Int.reduceLE, Int.reduceToNat, Int.reduceEq, Int.reduceAdd, Int.reduceSub, Int.reduceNeg, Int.reduceBNe, Int.reduceBEq, tr, tg]); (focus simp only [go_sem, reduceIte, Nat.reduceEqDiff, reduceCtorEq, Nat.reduceLT, Nat.reduceAdd, Nat.reduceSub, Nat.reduceMul, Nat.reduceLeDiff, Int.reduceLT, Int.reduceLE, Int.reduceToNat, Int.reduceEq, Int.reduceAdd, Int.reduceSub, Int.reduceNeg, Int.reduceBNe, Int.reduceBEq, tr, tg])
      simp only [go_sem, reduceIte, Nat.reduceEqDiff, reduceCtorEq, Nat.reduceLT, Nat.reduceAdd, Nat.reduceSub, Nat.reduceMul, Nat.reduceLeDiff, Int.reduceLT, Int.reduceLE, Int.reduceToNat, Int.reduceEq, Int.reduceAdd, Int.reduceSub, Int.reduceNeg, Int.reduceBNe, Int.reduceBEq, wayv, tgs, s0]
      repeat ((with_reducible refine And.intro ?_ ?_); (focus ((repeat' (with_reducible apply And.intro)) <;> (first | omega | exact room_small (by omega) (by omega) | exact room_small (by simp; omega) (by omega) | exact sized_str _ | (simp; done) | (simp; omega)))))
      have htt : PL.cut (List.map tg (upL p)) 0 ((p.length - lcp p q : Nat) : Int) = ids.map tg := by simp [PL.cut, ← List.map_take, hut]
      refine ⟨⟨by omega, by omega, sized_tg _⟩, ?_⟩
      simp only [go_sem, reduceIte, Nat.reduceEqDiff, reduceCtorEq, Nat.reduceLT, Nat.reduceAdd, Nat.reduceSub, Nat.reduceMul, Nat.reduceLeDiff, Int.reduceLT, Int.reduceLE, Int.reduceToNat, Int.reduceEq, Int.reduceAdd, Int.reduceSub, Int.reduceNeg, Int.reduceBNe, Int.reduceBEq, htt, List.length_map]
      refine awp_moveRow 13 32 45 0 3 35 [] rfl rfl rfl ?_
      refine vLoopM (ι := { x : Nat // x ≤ (ids).length }) 60 (fun x => [(9, tgs (upL q)), (11, .int .i64 ((q.length - lcp p q : Nat) : Int)), (13, .sl (.row 45) (((ids.take x.1).map upg).map lg)), (35, tgs ids), (36, .int .i64 (ids.length : Int)), (37, .int .i64 (x.1 : Int))]) (fun x => []) (fun x => [(45, .live (x.1) (3) (35))]) (fun x => (ids).length - x.1) ⟨0, Nat.zero_le _⟩ ⟨rfl, (forall_cons rfl (forall_cons rfl (forall_cons rfl (forall_cons rfl (forall_cons rfl (forall_cons rfl forall_nil)))))), forall_nil, (forall_cons rfl forall_nil)⟩ (fun x => ⟨(forall_cons rfl (forall_cons rfl (forall_cons (by simp [PV.ids, refInM]) (forall_cons rfl (forall_cons rfl (forall_cons rfl forall_nil)))))), forall_nil⟩) (fun x => ?_); obtain ⟨k, hk⟩ := x; simp only at hk ⊢
      by_cases h : (k : Int) < (ids.length : Int)
      · (have hka : k < (ids).length := by omega); (have w1 := w64s hka (hlen)); (have i1 : (0 : Int) ≤ (k : Int) := by omega)
        have hts : ids.take (k + 1) = ids.take k ++ [ids.getD k default] := by rw [List.take_add_one, getD_lt hka]; simp [hka]
        have hkl : (ids.take k).length = k := by simp; omega
        have hrm := room1 (show k + 1 ≤ 1000000 by omega) (show 24 ≤ 1000 by omega)
        simp only [go_sem, reduceIte, Nat.reduceEqDiff, reduceCtorEq, Nat.reduceLT, Nat.reduceAdd, Nat.reduceSub, Nat.reduceMul, Nat.reduceLeDiff, Int.reduceLT, Int.reduceLE, Int.reduceToNat, Int.reduceEq, Int.reduceAdd, Int.reduceSub, Int.reduceNeg, Int.reduceBNe, Int.reduceBEq, h, tgs, getD_tg hka, tg, i1, w1, sized_lg, List.length_map, hkl, hrm]
        exact ⟨⟨k + 1, by (try simp only); omega⟩, by show (ids).length - (k + 1) < (ids).length - k; omega, ⟨rfl, (forall_cons rfl (forall_cons rfl (forall_cons (by (show PV.sl _ _ = PV.sl _ _; simp [hts, upg, lg])) (forall_cons rfl (forall_cons rfl (forall_cons rfl forall_nil)))))), forall_nil, (forall_cons rfl forall_nil)⟩⟩
      · obtain rfl : k = ids.length := by omega
        have htk : ids.take ids.length = ids := List.take_length
        simp only [go_sem, reduceIte, Nat.reduceEqDiff, reduceCtorEq, Nat.reduceLT, Nat.reduceAdd, Nat.reduceSub, Nat.reduceMul, Nat.reduceLeDiff, Int.reduceLT, Int.reduceLE, Int.reduceToNat, Int.reduceEq, Int.reduceAdd, Int.reduceSub, Int.reduceNeg, Int.reduceBNe, Int.reduceBEq, h, htk]
        refine awp_moveRow 13 45 58 ids.length 3 35 ((ids.map upg).map lg) rfl rfl rfl ?_
        exact awp_label_seq (cut ⟨0, Nat.zero_le _⟩ _ ⟨rfl, forall_cons rfl (forall_cons rfl (forall_cons (by simp [upd, St.with]) forall_nil)), forall_nil, forall_cons (by simp [upd, Hp.setq, St.with]) forall_nil⟩)
  · have hc' : (pathC m a b != 0) = true := by simpa using hc
    rw [waysM_bad hc] at hW
    simp only [ne_eq, hc, not_false_eq_true, if_true]
    refine PL.Pure.of_v Try.func14 (by decide) rfl Try.ntmps14 Try.results14 (by simp) (legsc_dids _) ?_
    simp only [go_sem, reduceIte, Nat.reduceEqDiff, reduceCtorEq, Nat.reduceLT, Nat.reduceAdd, Nat.reduceSub, Nat.reduceMul, Nat.reduceLeDiff, Int.reduceLT, Int.reduceLE, Int.reduceToNat, Int.reduceEq, Int.reduceAdd, Int.reduceSub, Int.reduceNeg, Int.reduceBNe, Int.reduceBEq, tr, tg]
    refine vScope0 ?_
    simp only [go_sem, reduceIte, Nat.reduceEqDiff, reduceCtorEq, Nat.reduceLT, Nat.reduceAdd, Nat.reduceSub, Nat.reduceMul, Nat.reduceLeDiff, Int.reduceLT, Int.reduceLE, Int.reduceToNat, Int.reduceEq, Int.reduceAdd, Int.reduceSub, Int.reduceNeg, Int.reduceBNe, Int.reduceBEq]
    refine vCall_of (hW) ?_ ?_ ?_; (focus simp only [go_sem, reduceIte, Nat.reduceEqDiff, reduceCtorEq, Nat.reduceLT, Nat.reduceAdd, Nat.reduceSub, Nat.reduceMul, Nat.reduceLeDiff, Int.reduceLT, Int.reduceLE, Int.reduceToNat, Int.reduceEq, Int.reduceAdd, Int.reduceSub, Int.reduceNeg, Int.reduceBNe, Int.reduceBEq, tr, tg]); (focus simp only [go_sem, reduceIte, Nat.reduceEqDiff, reduceCtorEq, Nat.reduceLT, Nat.reduceAdd, Nat.reduceSub, Nat.reduceMul, Nat.reduceLeDiff, Int.reduceLT, Int.reduceLE, Int.reduceToNat, Int.reduceEq, Int.reduceAdd, Int.reduceSub, Int.reduceNeg, Int.reduceBNe, Int.reduceBEq, tr, tg])
    simp only [go_sem, reduceIte, Nat.reduceEqDiff, reduceCtorEq, Nat.reduceLT, Nat.reduceAdd, Nat.reduceSub, Nat.reduceMul, Nat.reduceLeDiff, Int.reduceLT, Int.reduceLE, Int.reduceToNat, Int.reduceEq, Int.reduceAdd, Int.reduceSub, Int.reduceNeg, Int.reduceBNe, Int.reduceBEq, wayv, tgs, hc', legsc, lgs, List.map_nil]
end Go.Proofs.Ytbojhapdidieoaa
