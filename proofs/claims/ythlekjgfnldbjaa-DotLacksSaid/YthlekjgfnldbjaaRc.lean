/- Contracts of functions and laws of this seat, each for every input that it names: lemmas of the proof. -/
import Derived.Test.YthlekjgfnldbjaaRb
set_option linter.unusedSimpArgs false
set_option linter.unusedVariables false
set_option linter.unusedSimpArgs false
set_option linter.unusedVariables false
namespace Go.Proofs.Ythlekjgfnldbjaa
open Go.PL
theorem set_form {α : Type} {cs : List α} {i : Nat} {x : α} (h : i < cs.length) : List.take i cs ++ [x] ++ List.drop (i + 1) cs = cs.set i x := by
  rw [List.set_eq_take_append_cons_drop, if_pos h]; simp
theorem didsL_ints (k : IntKind) (l : List Int) : PV.didsL (l.map (.int k)) = [] := by
  induction l with
  | nil => rfl
  | cons a l ih => simp only [List.map_cons, PV.didsL, ih, PV.dids, List.append_nil]
theorem idsL_ints (k : IntKind) (l : List Int) : PV.idsL (l.map (.int k)) = [] := by
  induction l with
  | nil => rfl
  | cons a l ih => simp only [List.map_cons, PV.idsL, ih, PV.ids, List.append_nil]
theorem vec_dids (v : List Int) : (vec v).dids = [] := by simp only [vec, PV.dids, didsL_ints]
def joinV (a b : List Int) : List Int := List.zipWith max a b
def joinTo (a b : List Int) (i : Nat) : List Int := (joinV a b).take i ++ a.drop i
theorem joinTo_len {a b : List Int} (ha : a.length = 6) (hb : b.length = 6) {i : Nat} (hi : i ≤ 6) : (joinTo a b i).length = 6 := by simp [joinTo, joinV, ha, hb]; omega
theorem joinV_len {a b : List Int} (ha : a.length = 6) (hb : b.length = 6) : (joinV a b).length = 6 := by simp [joinV, ha, hb]
theorem joinTo_at {a b : List Int} (ha : a.length = 6) (hb : b.length = 6) {i : Nat} (hi : i < 6) : (joinTo a b i).getD i 0 = a.getD i 0 := by
  simp only [joinTo, List.getD_eq_getElem?_getD]
  rw [List.getElem?_append_right (by simp [joinV, ha, hb]; omega)]
  simp [joinV, ha, hb, List.getElem?_drop, Nat.min_eq_left (Nat.le_of_lt hi)]
theorem joinTo_step {a b : List Int} (ha : a.length = 6) (hb : b.length = 6) {i : Nat} (hi : i < 6) : (joinTo a b i).set i (max (a.getD i 0) (b.getD i 0)) = joinTo a b (i + 1) := by
  apply List.ext_getElem
  · rw [List.length_set, joinTo_len ha hb (by omega), joinTo_len ha hb (by omega)]
  · intro k h1 h2
    rw [List.length_set, joinTo_len ha hb (by omega)] at h1
    have hk : (joinV a b).length = 6 := joinV_len ha hb
    simp only [List.getElem_set, joinTo]
    by_cases e : i = k
    · subst e
      rw [if_pos rfl, List.getElem_append_left (by simp [hk]; omega)]
      simp [joinV, List.getD_eq_getElem?_getD, ha, hb, hi]
    · rw [if_neg e]
      by_cases hlt : k < i
      · rw [List.getElem_append_left (by simp [hk]; omega), List.getElem_append_left (by simp [hk]; omega)]
        simp
      · rw [List.getElem_append_right (by simp [hk]; omega), List.getElem_append_right (by simp [hk]; omega)]
        simp [hk]
        congr 1; omega
theorem set_ints {l : List Int} {i : Nat} {x : Int} : (l.map (PV.int .i64)).set i (.int .i64 x) = (l.set i x).map (.int .i64) := by rw [List.map_set]
theorem all_atom_ints (l : List Int) : (l.map (PV.int .i64)).all PV.atom = true := by simp [PV.atom]
theorem joinTo_six {a b : List Int} (ha : a.length = 6) (hb : b.length = 6) : joinTo a b 6 = joinV a b := by
  simp [joinTo, ha, List.take_of_length_le (Nat.le_of_eq (joinV_len ha hb)), List.drop_eq_nil_of_le (Nat.le_of_eq ha)]
set_option maxHeartbeats 1000000 in
theorem Join_pure (a b : List Int) (ha : a.length = 6) (hb : b.length = 6) : PL.Pure Try.prog 16 [vec a, vec b] (vec (joinV a b)) := by
  refine PL.Pure.of_v Try.func16 (by decide) rfl Try.ntmps16 Try.results16 (by simp) (vec_dids _) ?_
  simp only [go_sem, reduceIte, Nat.reduceEqDiff, reduceCtorEq, Nat.reduceLT, Nat.reduceAdd, Nat.reduceSub, Nat.reduceMul, Nat.reduceLeDiff, Int.reduceLT, Int.reduceLE, Int.reduceToNat, Int.reduceEq, Int.reduceAdd, Int.reduceSub, Int.reduceNeg, Int.reduceBNe, Int.reduceBEq, vec, ha, hb, take_vec hb]
  refine vLoop (ι := { i : Nat // i ≤ 6 }) [5, 6, 9, 10, 11, 12, 13, 14, 15, 16, 17, 18, 19] (fun i => [(8, .int .i64 (i.1 : Int))]) (fun i => [(2, (joinTo a b i.1).map (.int .i64))]) (fun _ => []) (fun i => 6 - i.1) ⟨0, by omega⟩
    ⟨rfl, (forall_cons rfl (forall_nil)), (by repeat (first | exact FrEq.refl _ _ | refine FrEq.upd rfl ?_)), (forall_cons ⟨rfl, rfl⟩ forall_nil), forall_nil, (by repeat (first | exact HRest.refl _ _ _ | refine HRest.updh (by first | exact Or.inl rfl | exact Or.inr rfl) ?_ | refine HRest.updz (by first | exact Or.inl rfl | exact Or.inr rfl) ?_)), (by repeat (first | exact QRest.refl _ _ | refine QRest.upd (by first | exact Or.inl rfl | exact Or.inr rfl) ?_))⟩ (fun i => RefsL.of (forall_cons rfl (forall_nil)) (forall_cons (by rw [idsL_ints]; rfl) forall_nil)) (fun i => ?_)
  obtain ⟨i, hi⟩ := i
  simp only [go_sem, reduceIte, Nat.reduceEqDiff, reduceCtorEq, Nat.reduceLT, Nat.reduceAdd, Nat.reduceSub, Nat.reduceMul, Nat.reduceLeDiff, Int.reduceLT, Int.reduceLE, Int.reduceToNat, Int.reduceEq, Int.reduceAdd, Int.reduceSub, Int.reduceNeg, Int.reduceBNe, Int.reduceBEq, ha, hb]
  refine vCond_b (fun h => ?_) (fun h => ?_)
  · have hi6 : i < 6 := by have := of_decide_eq_true h; omega
    have hl := joinTo_len ha hb hi
    simp only [go_sem, reduceIte, Nat.reduceEqDiff, reduceCtorEq, Nat.reduceLT, Nat.reduceAdd, Nat.reduceSub, Nat.reduceMul, Nat.reduceLeDiff, Int.reduceLT, Int.reduceLE, Int.reduceToNat, Int.reduceEq, Int.reduceAdd, Int.reduceSub, Int.reduceNeg, Int.reduceBNe, Int.reduceBEq, h, ha, hb, hl, hi6, getD_vec, set_form, joinTo_at ha hb hi6, set_ints, joinTo_step ha hb hi6]
    repeat ((with_reducible refine And.intro ?_ ?_); (focus (first | omega | (simp; done))))
    rw [w64 (by omega)]
    exact ⟨⟨i + 1, by omega⟩, by show 6 - (i+1) < 6 - i; omega, ⟨rfl, (forall_cons rfl (forall_nil)), (by repeat (first | exact FrEq.refl _ _ | refine FrEq.upd rfl ?_)), (forall_cons ⟨rfl, rfl⟩ forall_nil), forall_nil, (by repeat (first | exact HRest.refl _ _ _ | refine HRest.updh (by first | exact Or.inl rfl | exact Or.inr rfl) ?_ | refine HRest.updz (by first | exact Or.inl rfl | exact Or.inr rfl) ?_)), (by repeat (first | exact QRest.refl _ _ | refine QRest.upd (by first | exact Or.inl rfl | exact Or.inr rfl) ?_))⟩⟩
  · obtain rfl : i = 6 := by have := of_decide_eq_false h; omega
    have hl := joinTo_len ha hb hi
    simp only [go_sem, reduceIte, Nat.reduceEqDiff, reduceCtorEq, Nat.reduceLT, Nat.reduceAdd, Nat.reduceSub, Nat.reduceMul, Nat.reduceLeDiff, Int.reduceLT, Int.reduceLE, Int.reduceToNat, Int.reduceEq, Int.reduceAdd, Int.reduceSub, Int.reduceNeg, Int.reduceBNe, Int.reduceBEq, h, joinTo_six ha hb, joinV_len ha hb, take_vec, all_atom_ints, vec]

theorem joinTo_step' {a b : List Int} (ha : a.length = 6) (hb : b.length = 6) {i : Nat} (hi : i < 6) (h : ¬ a.getD i 0 < b.getD i 0) : joinTo a b i = joinTo a b (i + 1) := by
  rw [← joinTo_step ha hb hi, show max (a.getD i 0) (b.getD i 0) = a.getD i 0 by omega, ← joinTo_at ha hb hi]
  have hl := joinTo_len ha hb (Nat.le_of_lt hi)
  rw [List.getD_eq_getElem?_getD, List.getElem?_eq_getElem (by omega)]
  simp
set_option maxHeartbeats 1000000 in
theorem RefJoin_pure (a b : List Int) (ha : a.length = 6) (hb : b.length = 6) : PL.Pure Try.prog 17 [vec a, vec b] (vec (joinV a b)) := by
  refine PL.Pure.of_v Try.func17 (by decide) rfl Try.ntmps17 Try.results17 (by simp) (vec_dids _) ?_
  simp only [go_sem, reduceIte, Nat.reduceEqDiff, reduceCtorEq, Nat.reduceLT, Nat.reduceAdd, Nat.reduceSub, Nat.reduceMul, Nat.reduceLeDiff, Int.reduceLT, Int.reduceLE, Int.reduceToNat, Int.reduceEq, Int.reduceAdd, Int.reduceSub, Int.reduceNeg, Int.reduceBNe, Int.reduceBEq, vec, ha, hb, take_vec hb]
  refine vLoop (ι := { i : Nat // i ≤ 6 }) [6, 7, 8, 9, 10, 11, 12, 13, 14, 15, 16, 17, 18, 19, 20, 21] (fun i => [(5, .int .i64 (i.1 : Int))]) (fun i => [(2, (joinTo a b i.1).map (.int .i64))]) (fun _ => []) (fun i => 6 - i.1) ⟨0, by omega⟩
    ⟨rfl, (forall_cons rfl (forall_nil)), (by repeat (first | exact FrEq.refl _ _ | refine FrEq.upd rfl ?_)), (forall_cons ⟨rfl, rfl⟩ forall_nil), forall_nil, (by repeat (first | exact HRest.refl _ _ _ | refine HRest.updh (by first | exact Or.inl rfl | exact Or.inr rfl) ?_ | refine HRest.updz (by first | exact Or.inl rfl | exact Or.inr rfl) ?_)), (by repeat (first | exact QRest.refl _ _ | refine QRest.upd (by first | exact Or.inl rfl | exact Or.inr rfl) ?_))⟩ (fun i => RefsL.of (forall_cons rfl (forall_nil)) (forall_cons (by rw [idsL_ints]; rfl) forall_nil)) (fun i => ?_)
  obtain ⟨i, hi⟩ := i
  simp only [go_sem, reduceIte, Nat.reduceEqDiff, reduceCtorEq, Nat.reduceLT, Nat.reduceAdd, Nat.reduceSub, Nat.reduceMul, Nat.reduceLeDiff, Int.reduceLT, Int.reduceLE, Int.reduceToNat, Int.reduceEq, Int.reduceAdd, Int.reduceSub, Int.reduceNeg, Int.reduceBNe, Int.reduceBEq, ha, hb]
  refine vCond_b (fun h => ?_) (fun h => ?_)
  · have hi6 : i < 6 := by have := of_decide_eq_true h; omega
    have hl := joinTo_len ha hb hi
    have ew : IntKind.i64.wrap ((i : Int) + 1) = ((i + 1 : Nat) : Int) := by rw [w64 (by omega)]; rfl
    simp only [go_sem, reduceIte, Nat.reduceEqDiff, reduceCtorEq, Nat.reduceLT, Nat.reduceAdd, Nat.reduceSub, Nat.reduceMul, Nat.reduceLeDiff, Int.reduceLT, Int.reduceLE, Int.reduceToNat, Int.reduceEq, Int.reduceAdd, Int.reduceSub, Int.reduceNeg, Int.reduceBNe, Int.reduceBEq, h]
    refine vDrawQ (by kernel_rfl) (by kernel_rfl) ?_
    simp only [go_sem, reduceIte, Nat.reduceEqDiff, reduceCtorEq, Nat.reduceLT, Nat.reduceAdd, Nat.reduceSub, Nat.reduceMul, Nat.reduceLeDiff, Int.reduceLT, Int.reduceLE, Int.reduceToNat, Int.reduceEq, Int.reduceAdd, Int.reduceSub, Int.reduceNeg, Int.reduceBNe, Int.reduceBEq, ha, hb, hl, hi6, getD_vec, joinTo_at ha hb hi6]
    repeat ((with_reducible refine And.intro ?_ ?_); (focus (first | omega | (simp; done))))
    refine vCond_b (fun h2 => ?_) (fun h2 => ?_)
    · have h3 := of_decide_eq_true h2
      have hs := joinTo_step ha hb hi6
      rw [show max (a.getD i 0) (b.getD i 0) = b.getD i 0 by omega] at hs
      simp only [go_sem, reduceIte, Nat.reduceEqDiff, reduceCtorEq, Nat.reduceLT, Nat.reduceAdd, Nat.reduceSub, Nat.reduceMul, Nat.reduceLeDiff, Int.reduceLT, Int.reduceLE, Int.reduceToNat, Int.reduceEq, Int.reduceAdd, Int.reduceSub, Int.reduceNeg, Int.reduceBNe, Int.reduceBEq, h2, ha, hb, hl, hi6, getD_vec, joinTo_at ha hb hi6, set_form, set_ints, hs, ew]
      repeat ((with_reducible refine And.intro ?_ ?_); (focus (first | omega | (simp; done))))
      exact ⟨⟨i + 1, by omega⟩, by show 6 - (i+1) < 6 - i; omega, ⟨rfl, (forall_cons rfl (forall_nil)), (by repeat (first | exact FrEq.refl _ _ | refine FrEq.upd rfl ?_)), (forall_cons ⟨rfl, rfl⟩ forall_nil), forall_nil, (by repeat (first | exact HRest.refl _ _ _ | refine HRest.updh (by first | exact Or.inl rfl | exact Or.inr rfl) ?_ | refine HRest.updz (by first | exact Or.inl rfl | exact Or.inr rfl) ?_)), (by repeat (first | exact QRest.refl _ _ | refine QRest.upd (by first | exact Or.inl rfl | exact Or.inr rfl) ?_))⟩⟩
    · have h3 := of_decide_eq_false h2
      have hs := joinTo_step' ha hb hi6 h3
      simp only [go_sem, reduceIte, Nat.reduceEqDiff, reduceCtorEq, Nat.reduceLT, Nat.reduceAdd, Nat.reduceSub, Nat.reduceMul, Nat.reduceLeDiff, Int.reduceLT, Int.reduceLE, Int.reduceToNat, Int.reduceEq, Int.reduceAdd, Int.reduceSub, Int.reduceNeg, Int.reduceBNe, Int.reduceBEq, h2, ha, hb, hl, ew]
      repeat ((with_reducible refine And.intro ?_ ?_); (focus (first | omega | (simp; done))))
      exact ⟨⟨i + 1, by omega⟩, by show 6 - (i+1) < 6 - i; omega, ⟨rfl, (forall_cons rfl (forall_nil)), (by repeat (first | exact FrEq.refl _ _ | refine FrEq.upd rfl ?_)), (forall_cons ⟨by rw [← hs]; rfl, rfl⟩ forall_nil), forall_nil, (by repeat (first | exact HRest.refl _ _ _ | refine HRest.updh (by first | exact Or.inl rfl | exact Or.inr rfl) ?_ | refine HRest.updz (by first | exact Or.inl rfl | exact Or.inr rfl) ?_)), (by repeat (first | exact QRest.refl _ _ | refine QRest.upd (by first | exact Or.inl rfl | exact Or.inr rfl) ?_))⟩⟩
  · obtain rfl : i = 6 := by have := of_decide_eq_false h; omega
    have hl := joinTo_len ha hb hi
    simp only [go_sem, reduceIte, Nat.reduceEqDiff, reduceCtorEq, Nat.reduceLT, Nat.reduceAdd, Nat.reduceSub, Nat.reduceMul, Nat.reduceLeDiff, Int.reduceLT, Int.reduceLE, Int.reduceToNat, Int.reduceEq, Int.reduceAdd, Int.reduceSub, Int.reduceNeg, Int.reduceBNe, Int.reduceBEq, h, joinTo_six ha hb, joinV_len ha hb, take_vec, all_atom_ints, vec]
def coversB (a b : List Int) : Bool := joinV a b == a
theorem eqLeaves_ints : ∀ (a b : List Int), a.length = b.length → eqLeaves (List.replicate a.length .int) (a.map (PV.int .i64)) (b.map (PV.int .i64)) = some (a == b)
  | [], [], _ => rfl
  | x :: a, y :: b, h => by
    have := eqLeaves_ints a b (by simpa using h)
    simp only [List.length_cons, List.replicate_succ, List.map_cons, eqLeaves, eqLeaf, if_pos, this]
    simp only [List.cons_beq_cons]
  | [], _ :: _, h => by simp at h
  | _ :: _, [], h => by simp at h
theorem eqLeaves_vec {a b : List Int} (ha : a.length = 6) (hb : b.length = 6) : eqLeaves [.int, .int, .int, .int, .int, .int] (a.map (PV.int .i64)) (b.map (PV.int .i64)) = some (a == b) := by
  have := eqLeaves_ints a b (by omega)
  rwa [ha] at this
set_option maxHeartbeats 1000000 in
theorem Covers_pure (a b : List Int) (ha : a.length = 6) (hb : b.length = 6) : PL.Pure Try.prog 15 [vec a, vec b] (.bool (coversB a b)) := by
  have hj := joinV_len ha hb
  refine PL.Pure.of_v Try.func15 (by decide) rfl Try.ntmps15 Try.results15 (by simp) rfl ?_
  simp only [go_sem, reduceIte, Nat.reduceEqDiff, reduceCtorEq, Nat.reduceLT, Nat.reduceAdd, Nat.reduceSub, Nat.reduceMul, Nat.reduceLeDiff, Int.reduceLT, Int.reduceLE, Int.reduceToNat, Int.reduceEq, Int.reduceAdd, Int.reduceSub, Int.reduceNeg, Int.reduceBNe, Int.reduceBEq, vec, ha, hb, take_vec]
  refine vDrawQ (by kernel_rfl) (by kernel_rfl) ?_
  simp only [go_sem, reduceIte, Nat.reduceEqDiff, reduceCtorEq, Nat.reduceLT, Nat.reduceAdd, Nat.reduceSub, Nat.reduceMul, Nat.reduceLeDiff, Int.reduceLT, Int.reduceLE, Int.reduceToNat, Int.reduceEq, Int.reduceAdd, Int.reduceSub, Int.reduceNeg, Int.reduceBNe, Int.reduceBEq, vec, ha, hb, take_vec]
  refine vCall_of (Join_pure a b ha hb) ?h0 ?he ?_; (case h0 => simp only [go_sem, reduceIte, Nat.reduceEqDiff, reduceCtorEq, Nat.reduceLT, Nat.reduceAdd, Nat.reduceSub, Nat.reduceMul, Nat.reduceLeDiff, Int.reduceLT, Int.reduceLE, Int.reduceToNat, Int.reduceEq, Int.reduceAdd, Int.reduceSub, Int.reduceNeg, Int.reduceBNe, Int.reduceBEq, vec]); (case he => simp only [go_sem, reduceIte, Nat.reduceEqDiff, reduceCtorEq, Nat.reduceLT, Nat.reduceAdd, Nat.reduceSub, Nat.reduceMul, Nat.reduceLeDiff, Int.reduceLT, Int.reduceLE, Int.reduceToNat, Int.reduceEq, Int.reduceAdd, Int.reduceSub, Int.reduceNeg, Int.reduceBNe, Int.reduceBEq, vec])
  simp only [go_sem, reduceIte, Nat.reduceEqDiff, reduceCtorEq, Nat.reduceLT, Nat.reduceAdd, Nat.reduceSub, Nat.reduceMul, Nat.reduceLeDiff, Int.reduceLT, Int.reduceLE, Int.reduceToNat, Int.reduceEq, Int.reduceAdd, Int.reduceSub, Int.reduceNeg, Int.reduceBNe, Int.reduceBEq, vec, ha, hb, take_vec, hj, eqLeaves_vec, coversB, Bool.false_eq_true]
