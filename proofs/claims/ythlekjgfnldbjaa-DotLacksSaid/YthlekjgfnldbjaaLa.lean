/- Contracts of functions and laws of this seat, each for every input that it names: lemmas of the proof. -/
import Derived.Test.YthlekjgfnldbjaaJoins
set_option linter.unusedSimpArgs false
set_option linter.unusedVariables false
set_option linter.unusedSimpArgs false
set_option linter.unusedVariables false
namespace Go.Proofs.Ythlekjgfnldbjaa
open Go.PL
def tg (t : Int × Int) : PV := tag t.1 t.2
def seg (i : Nat) (x y : Int) : List (Int × Int) := (List.range (y - x).toNat).map fun (k : Nat) => ((i : Int) + 1, x + 1 + (k : Int))
def lacksTo (a b : List Int) (i : Nat) : List (Int × Int) := ((List.range i).map fun j => seg j (a.getD j 0) (b.getD j 0)).flatten
theorem seg_succ {i : Nat} {x y : Int} (h : x ≤ y) : seg i x (y + 1) = seg i x y ++ [((i : Int) + 1, y + 1)] := by
  have e : (y + 1 - x).toNat = (y - x).toNat + 1 := by omega
  simp only [seg, e, List.range_succ, List.map_append, List.map_cons, List.map_nil]
  congr 3
  omega
theorem seg_nil {i : Nat} {x y : Int} (h : y ≤ x) : seg i x y = [] := by
  have e : (y - x).toNat = 0 := by omega
  simp [seg, e]
theorem seg_len (i : Nat) (x y : Int) : (seg i x y).length = (y - x).toNat := by simp [seg]
theorem lacksTo_succ (a b : List Int) (i : Nat) : lacksTo a b (i + 1) = lacksTo a b i ++ seg i (a.getD i 0) (b.getD i 0) := by
  simp [lacksTo, List.range_succ]
theorem lacksTo_len {a b : List Int} (ha : a.length = 6) (hb : b.length = 6) (hra : rightB a = true) (hrb : rightB b = true) : ∀ i, i ≤ 6 → (lacksTo a b i).length ≤ 400 * i
  | 0, _ => by simp [lacksTo]
  | i + 1, h => by
    have := lacksTo_len ha hb hra hrb i (by omega)
    have h1 := vec_at ha hra (i := i) (by omega)
    have h2 := vec_at hb hrb (i := i) (by omega)
    rw [lacksTo_succ, List.length_append, seg_len]
    omega
theorem sized_tg (l : List (Int × Int)) : Sized 2 (l.map tg) := fun e he => by
  obtain ⟨x, _, rfl⟩ := List.mem_map.1 he; rfl
theorem atoms_tg (l : List (Int × Int)) : Atoms (l.map tg) := fun e he => by
  obtain ⟨x, _, rfl⟩ := List.mem_map.1 he; rfl
theorem sized_tag (r n : Int) : Sized 2 [PV.agg [.int .i64 r, .int .i64 n]] := sized_tg [(r, n)]
theorem atoms_tag (r n : Int) : Atoms [PV.agg [.int .i64 r, .int .i64 n]] := atoms_tg [(r, n)]
theorem map_tg (l : List (Int × Int)) (r n : Int) : l.map tg ++ [PV.agg [.int .i64 r, .int .i64 n]] = (l ++ [(r, n)]).map tg := by simp [tg, tag]
def tagsc (l : List (Int × Int)) (c : Int) : PV := .tup [.sl .no (l.map tg), .int .i64 c]
theorem didsL_tg (l : List (Int × Int)) : PV.didsL (l.map tg) = [] := by
  induction l with
  | nil => rfl
  | cons t l ih => simp only [List.map_cons, PV.didsL, ih, tg, tag, PV.dids, List.append_nil]
theorem tagsc_dids (l : List (Int × Int)) (c : Int) : (tagsc l c).dids = [] := by simp only [tagsc, PV.dids, PV.didsL, didsL_tg, List.append_nil]
theorem room_small {n b : Nat} (hn : n ≤ 100000000000) (hb : b ≤ 1000) : Room n b := by
  refine ⟨?_, by unfold maxLen; omega⟩
  calc n * b ≤ 100000000000 * 1000 := Nat.mul_le_mul hn hb
    _ ≤ 140737488355328 := by decide
structure LI (a b : List Int) where
  i : Nat
  v : List Int
  hi : i ≤ 6
  hv : v.length = 6
  lo : i < 6 → a.getD i 0 ≤ v.getD i 0
  up : i < 6 → v.getD i 0 ≤ max (a.getD i 0) (b.getD i 0)
  rest : ∀ j, i < j → j < 6 → v.getD j 0 = a.getD j 0
def LI.out {a b : List Int} (x : LI a b) : List (Int × Int) := lacksTo a b x.i ++ seg x.i (a.getD x.i 0) (x.v.getD x.i 0)
def LI.mu {a b : List Int} (x : LI a b) : Nat := (6 - x.i) * 1000 + (b.getD x.i 0 - x.v.getD x.i 0).toNat
theorem LI.step {a b : List Int} (hb : b.length = 6) (hrb : rightB b = true) (x : LI a b) (h6 : x.i < 6) (h : x.v.getD x.i 0 < b.getD x.i 0) :
    ∃ y : LI a b, y.i = x.i ∧ y.v = x.v.set x.i (x.v.getD x.i 0 + 1) ∧ y.out = x.out ++ [((x.i : Int) + 1, x.v.getD x.i 0 + 1)] ∧ y.mu < x.mu := by
  obtain ⟨i, v, hi, hv, lo, up, rest⟩ := x
  simp only at h h6
  have e : (v.set i (v.getD i 0 + 1)).getD i 0 = v.getD i 0 + 1 := by rw [getD_set hv h6, if_pos rfl]
  have := lo h6
  have := up h6
  refine ⟨⟨i, v.set i (v.getD i 0 + 1), hi, by simp [hv], fun _ => by rw [e]; omega, fun _ => by rw [e]; omega, fun j hj hj6 => by rw [getD_set hv h6, if_neg (by omega)]; exact rest j hj hj6⟩, rfl, rfl, ?_, ?_⟩
  · simp only [LI.out, e]
    rw [seg_succ (lo h6), List.append_assoc]
  · simp only [LI.mu, e]
    omega
theorem LI.next {a b : List Int} (ha : a.length = 6) (hb : b.length = 6) (hra : rightB a = true) (hrb : rightB b = true) (x : LI a b) (h6 : x.i < 6) (h : ¬ x.v.getD x.i 0 < b.getD x.i 0) :
    ∃ y : LI a b, y.i = x.i + 1 ∧ y.v = x.v ∧ y.out = x.out ∧ y.mu < x.mu := by
  obtain ⟨i, v, hi, hv, lo, up, rest⟩ := x
  simp only at h h6
  have l1 := lo h6
  have u1 := up h6
  refine ⟨⟨i + 1, v, by omega, hv, fun h' => by rw [rest (i + 1) (by omega) h']; exact Int.le_refl _, fun h' => by rw [rest (i + 1) (by omega) h']; omega, fun j hj hj6 => rest j (by omega) hj6⟩, rfl, rfl, ?_, ?_⟩
  · simp only [LI.out]
    rw [lacksTo_succ]
    have e1 : seg (i + 1) (a.getD (i + 1) 0) (v.getD (i + 1) 0) = [] := by
      by_cases h' : i + 1 < 6
      · rw [rest (i + 1) (by omega) h']; exact seg_nil (Int.le_refl _)
      · have z1 : a.getD (i + 1) 0 = 0 := by simp [List.getD_eq_getElem?_getD, List.getElem?_eq_none (show a.length ≤ i + 1 by omega)]
        have z2 : v.getD (i + 1) 0 = 0 := by simp [List.getD_eq_getElem?_getD, List.getElem?_eq_none (show v.length ≤ i + 1 by omega)]
        rw [z1, z2]; exact seg_nil (Int.le_refl _)
    rw [e1, List.append_nil]
    by_cases h' : a.getD i 0 ≤ b.getD i 0
    · rw [show v.getD i 0 = b.getD i 0 by omega]
    · rw [seg_nil (x := a.getD i 0) (y := b.getD i 0) (by omega), seg_nil (by omega)]
  · simp only [LI.mu]
    by_cases h' : i + 1 < 6
    · have h2 := vec_at hb hrb h'
      have h3 := vec_at ha hra h'
      have h4 := rest (i + 1) (by omega) h'
      omega
    · have z1 : b.getD (i + 1) 0 = 0 := by simp [List.getD_eq_getElem?_getD, List.getElem?_eq_none (show b.length ≤ i + 1 by omega)]
      have z2 : v.getD (i + 1) 0 = 0 := by simp [List.getD_eq_getElem?_getD, List.getElem?_eq_none (show v.length ≤ i + 1 by omega)]
      omega
theorem LI.len {a b : List Int} (ha : a.length = 6) (hb : b.length = 6) (hra : rightB a = true) (hrb : rightB b = true) (x : LI a b) : x.out.length ≤ 4000 := by
  obtain ⟨i, v, hi, hv, lo, up, rest⟩ := x
  have := lacksTo_len ha hb hra hrb i hi
  simp only [LI.out, List.length_append, seg_len]
  by_cases h6 : i < 6
  · have := vec_at hb hrb h6
    have := vec_at ha hra h6
    have := lo h6
    have := up h6
    omega
  · have z1 : a.getD i 0 = 0 := by simp [List.getD_eq_getElem?_getD, List.getElem?_eq_none (show a.length ≤ i by omega)]
    have z2 : v.getD i 0 = 0 := by simp [List.getD_eq_getElem?_getD, List.getElem?_eq_none (show v.length ≤ i by omega)]
    omega
theorem LI.end' {a b : List Int} (ha : a.length = 6) (x : LI a b) (h6 : ¬ x.i < 6) : x.i = 6 ∧ x.out = lacksTo a b 6 := by
  obtain ⟨i, v, hi, hv, lo, up, rest⟩ := x
  obtain rfl : i = 6 := by simp only at h6; omega
  have z1 : a.getD 6 0 = 0 := by simp [List.getD_eq_getElem?_getD, List.getElem?_eq_none (show a.length ≤ 6 by omega)]
  have z2 : v.getD 6 0 = 0 := by simp [List.getD_eq_getElem?_getD, List.getElem?_eq_none (show v.length ≤ 6 by omega)]
  exact ⟨rfl, by simp only [LI.out]; rw [z1, z2, seg_nil (Int.le_refl _), List.append_nil]⟩
theorem told_tags {s t k n : Nat} {e : TypeId} {l : List (Int × Int)} {v w : List Int} {i : Int} :
    toldB [(2, .ptr 2 0), (3, .ptr 3 0), (s, .sl (.row t) (l.map tg)), (k, .int .i64 i)] [(2, v.map (.int .i64), false), (3, w.map (.int .i64), false)] [(t, .live n 2 e)] :=
  ⟨forall_cons rfl (forall_cons rfl (forall_cons (by simp [PV.ids, refInM]) (forall_cons rfl forall_nil))), forall_cons (by simp [idsL_ints]) (forall_cons (by simp [idsL_ints]) forall_nil)⟩
set_option maxRecDepth 20000 in
set_option maxHeartbeats 4000000 in
theorem Lacks_pure (a b : List Int) (ha : a.length = 6) (hb : b.length = 6) : PL.Pure Try.prog 19 [vec a, vec b] (if rightB a = true ∧ rightB b = true then tagsc (lacksTo a b 6) 0 else tagsc [] 5) := by
  have hA := Right_pure a ha
  have hB := Right_pure b hb
  cases hra : rightB a
  · rw [hra] at hA
    refine PL.Pure.of_v Try.func19 (by decide) rfl Try.ntmps19 Try.results19 (by simp) (by rw [if_neg (by simp)]; exact tagsc_dids _ _) ?_
    simp only [go_sem, reduceIte, Nat.reduceEqDiff, reduceCtorEq, Nat.reduceLT, Nat.reduceAdd, Nat.reduceSub, Nat.reduceMul, Nat.reduceLeDiff, Int.reduceLT, Int.reduceLE, Int.reduceToNat, Int.reduceEq, Int.reduceAdd, Int.reduceSub, Int.reduceNeg, Int.reduceBNe, Int.reduceBEq, vec, ha, hb, take_vec]
    refine vScope0 ?_
    simp only [go_sem, reduceIte, Nat.reduceEqDiff, reduceCtorEq, Nat.reduceLT, Nat.reduceAdd, Nat.reduceSub, Nat.reduceMul, Nat.reduceLeDiff, Int.reduceLT, Int.reduceLE, Int.reduceToNat, Int.reduceEq, Int.reduceAdd, Int.reduceSub, Int.reduceNeg, Int.reduceBNe, Int.reduceBEq, ha, hb, take_vec]
    refine vCall_of (hA) ?h0 ?he ?_; (case h0 => simp only [go_sem, reduceIte, Nat.reduceEqDiff, reduceCtorEq, Nat.reduceLT, Nat.reduceAdd, Nat.reduceSub, Nat.reduceMul, Nat.reduceLeDiff, Int.reduceLT, Int.reduceLE, Int.reduceToNat, Int.reduceEq, Int.reduceAdd, Int.reduceSub, Int.reduceNeg, Int.reduceBNe, Int.reduceBEq, vec]); (case he => simp only [go_sem, reduceIte, Nat.reduceEqDiff, reduceCtorEq, Nat.reduceLT, Nat.reduceAdd, Nat.reduceSub, Nat.reduceMul, Nat.reduceLeDiff, Int.reduceLT, Int.reduceLE, Int.reduceToNat, Int.reduceEq, Int.reduceAdd, Int.reduceSub, Int.reduceNeg, Int.reduceBNe, Int.reduceBEq, vec])
    simp only [go_sem, reduceIte, Nat.reduceEqDiff, reduceCtorEq, Nat.reduceLT, Nat.reduceAdd, Nat.reduceSub, Nat.reduceMul, Nat.reduceLeDiff, Int.reduceLT, Int.reduceLE, Int.reduceToNat, Int.reduceEq, Int.reduceAdd, Int.reduceSub, Int.reduceNeg, Int.reduceBNe, Int.reduceBEq, false_and, tagsc]
  · cases hrb : rightB b
    · rw [hra] at hA
      rw [hrb] at hB
      refine PL.Pure.of_v Try.func19 (by decide) rfl Try.ntmps19 Try.results19 (by simp) (by rw [if_neg (by simp)]; exact tagsc_dids _ _) ?_
      simp only [go_sem, reduceIte, Nat.reduceEqDiff, reduceCtorEq, Nat.reduceLT, Nat.reduceAdd, Nat.reduceSub, Nat.reduceMul, Nat.reduceLeDiff, Int.reduceLT, Int.reduceLE, Int.reduceToNat, Int.reduceEq, Int.reduceAdd, Int.reduceSub, Int.reduceNeg, Int.reduceBNe, Int.reduceBEq, vec, ha, hb, take_vec]
      refine vScope0 ?_
      simp only [go_sem, reduceIte, Nat.reduceEqDiff, reduceCtorEq, Nat.reduceLT, Nat.reduceAdd, Nat.reduceSub, Nat.reduceMul, Nat.reduceLeDiff, Int.reduceLT, Int.reduceLE, Int.reduceToNat, Int.reduceEq, Int.reduceAdd, Int.reduceSub, Int.reduceNeg, Int.reduceBNe, Int.reduceBEq, ha, hb, take_vec]
      refine vCall_of (hA) ?h0 ?he ?_; (case h0 => simp only [go_sem, reduceIte, Nat.reduceEqDiff, reduceCtorEq, Nat.reduceLT, Nat.reduceAdd, Nat.reduceSub, Nat.reduceMul, Nat.reduceLeDiff, Int.reduceLT, Int.reduceLE, Int.reduceToNat, Int.reduceEq, Int.reduceAdd, Int.reduceSub, Int.reduceNeg, Int.reduceBNe, Int.reduceBEq, vec]); (case he => simp only [go_sem, reduceIte, Nat.reduceEqDiff, reduceCtorEq, Nat.reduceLT, Nat.reduceAdd, Nat.reduceSub, Nat.reduceMul, Nat.reduceLeDiff, Int.reduceLT, Int.reduceLE, Int.reduceToNat, Int.reduceEq, Int.reduceAdd, Int.reduceSub, Int.reduceNeg, Int.reduceBNe, Int.reduceBEq, vec])
      simp only [go_sem, reduceIte, Nat.reduceEqDiff, reduceCtorEq, Nat.reduceLT, Nat.reduceAdd, Nat.reduceSub, Nat.reduceMul, Nat.reduceLeDiff, Int.reduceLT, Int.reduceLE, Int.reduceToNat, Int.reduceEq, Int.reduceAdd, Int.reduceSub, Int.reduceNeg, Int.reduceBNe, Int.reduceBEq, ha, hb, take_vec]
      refine vCall_of (hB) ?h0 ?he ?_; (case h0 => simp only [go_sem, reduceIte, Nat.reduceEqDiff, reduceCtorEq, Nat.reduceLT, Nat.reduceAdd, Nat.reduceSub, Nat.reduceMul, Nat.reduceLeDiff, Int.reduceLT, Int.reduceLE, Int.reduceToNat, Int.reduceEq, Int.reduceAdd, Int.reduceSub, Int.reduceNeg, Int.reduceBNe, Int.reduceBEq, vec]); (case he => simp only [go_sem, reduceIte, Nat.reduceEqDiff, reduceCtorEq, Nat.reduceLT, Nat.reduceAdd, Nat.reduceSub, Nat.reduceMul, Nat.reduceLeDiff, Int.reduceLT, Int.reduceLE, Int.reduceToNat, Int.reduceEq, Int.reduceAdd, Int.reduceSub, Int.reduceNeg, Int.reduceBNe, Int.reduceBEq, vec])
      simp only [go_sem, reduceIte, Nat.reduceEqDiff, reduceCtorEq, Nat.reduceLT, Nat.reduceAdd, Nat.reduceSub, Nat.reduceMul, Nat.reduceLeDiff, Int.reduceLT, Int.reduceLE, Int.reduceToNat, Int.reduceEq, Int.reduceAdd, Int.reduceSub, Int.reduceNeg, Int.reduceBNe, Int.reduceBEq, and_false, tagsc]
    · rw [hra] at hA
      rw [hrb] at hB
      refine PL.Pure.of_v Try.func19 (by decide) rfl Try.ntmps19 Try.results19 (by simp) (by rw [if_pos ⟨rfl, rfl⟩]; exact tagsc_dids _ _) ?_
      simp only [go_sem, reduceIte, Nat.reduceEqDiff, reduceCtorEq, Nat.reduceLT, Nat.reduceAdd, Nat.reduceSub, Nat.reduceMul, Nat.reduceLeDiff, Int.reduceLT, Int.reduceLE, Int.reduceToNat, Int.reduceEq, Int.reduceAdd, Int.reduceSub, Int.reduceNeg, Int.reduceBNe, Int.reduceBEq, vec, ha, hb, take_vec]
      refine vScopeM (ι := LI a b) 42 (fun x => [(2, .ptr 2 0), (3, .ptr 3 0), (6, .sl (.row 39) (x.out.map tg)), (7, .int .i64 (x.i : Int))]) (fun x => [(2, x.v.map (.int .i64), false), (3, b.map (.int .i64), false)]) (fun x => [(39, .live x.out.length 2 25)]) LI.mu 0 _ (by exact rfl) (fun x => told_tags) (fun x => ?_) (fun cut => ?_)
      · have hv := x.hv
        by_cases h6 : x.i < 6
        · have q6 : ((x.i : Int) == 6) = false := beq_eq_false_iff_ne.2 (by omega)
          by_cases h : x.v.getD x.i 0 < b.getD x.i 0
          · obtain ⟨y, y1, y2, y3, y4⟩ := x.step hb hrb h6 h
            have l1 := x.lo h6
            have l2 := x.up h6
            have b1 := vec_at hb hrb h6
            have b2 := vec_at ha hra h6
            have w1 : IntKind.i64.wrap (x.v.getD x.i 0 + 1) = x.v.getD x.i 0 + 1 := w64 (by omega)
            have w2 : IntKind.i64.wrap ((x.i : Int) + 1) = (x.i : Int) + 1 := w64 (by omega)
            have g : (x.v.set x.i (x.v.getD x.i 0 + 1)).getD x.i 0 = x.v.getD x.i 0 + 1 := by rw [getD_set hv h6, if_pos rfl]
            have hl := x.len ha hb hra hrb
            simp only [go_sem, reduceIte, Nat.reduceEqDiff, reduceCtorEq, Nat.reduceLT, Nat.reduceAdd, Nat.reduceSub, Nat.reduceMul, Nat.reduceLeDiff, Int.reduceLT, Int.reduceLE, Int.reduceToNat, Int.reduceEq, Int.reduceAdd, Int.reduceSub, Int.reduceNeg, Int.reduceBNe, Int.reduceBEq, q6]
            refine vDrawQ (by kernel_rfl) (by kernel_rfl) ?_
            simp only [go_sem, reduceIte, Nat.reduceEqDiff, reduceCtorEq, Nat.reduceLT, Nat.reduceAdd, Nat.reduceSub, Nat.reduceMul, Nat.reduceLeDiff, Int.reduceLT, Int.reduceLE, Int.reduceToNat, Int.reduceEq, Int.reduceAdd, Int.reduceSub, Int.reduceNeg, Int.reduceBNe, Int.reduceBEq, hv, hb, h6, getD_vec, h, w1, w2, set_form, set_ints, List.length_set, g, sized_tg, sized_tag, atoms_tag, room_small (show x.out.length + 1 ≤ 100000000000 by omega) (show 16 ≤ 1000 by omega), true_or]
            repeat ((with_reducible refine And.intro ?_ ?_); (focus (first | omega | (simp; done))))
            exact ⟨y, y4, ⟨rfl, forall_cons rfl (forall_cons rfl (forall_cons (by show PV.sl _ _ = PV.sl _ _; rw [y3, ← map_tg]) (forall_cons (by show PV.int _ _ = PV.int _ _; rw [y1]) forall_nil))), forall_cons ⟨by show some _ = some _; rw [y2], rfl⟩ (forall_cons ⟨rfl, rfl⟩ forall_nil), forall_cons (by show some _ = some _; rw [y3, List.length_append]; rfl) forall_nil⟩⟩
          · obtain ⟨y, y1, y2, y3, y4⟩ := x.next ha hb hra hrb h6 h
            have w2 : IntKind.i64.wrap ((x.i : Int) + 1) = (x.i : Int) + 1 := w64 (by omega)
            simp only [go_sem, reduceIte, Nat.reduceEqDiff, reduceCtorEq, Nat.reduceLT, Nat.reduceAdd, Nat.reduceSub, Nat.reduceMul, Nat.reduceLeDiff, Int.reduceLT, Int.reduceLE, Int.reduceToNat, Int.reduceEq, Int.reduceAdd, Int.reduceSub, Int.reduceNeg, Int.reduceBNe, Int.reduceBEq, q6]
            refine vDrawQ (by kernel_rfl) (by kernel_rfl) ?_
            simp only [go_sem, reduceIte, Nat.reduceEqDiff, reduceCtorEq, Nat.reduceLT, Nat.reduceAdd, Nat.reduceSub, Nat.reduceMul, Nat.reduceLeDiff, Int.reduceLT, Int.reduceLE, Int.reduceToNat, Int.reduceEq, Int.reduceAdd, Int.reduceSub, Int.reduceNeg, Int.reduceBNe, Int.reduceBEq, hv, hb, h6, getD_vec, h, w2]
            repeat ((with_reducible refine And.intro ?_ ?_); (focus (first | omega | (simp; done))))
            exact ⟨y, y4, ⟨rfl, forall_cons rfl (forall_cons rfl (forall_cons (by show PV.sl _ _ = PV.sl _ _; rw [y3]) (forall_cons (by show PV.int _ _ = PV.int _ _; rw [y1]; rfl) forall_nil))), forall_cons ⟨by show some _ = some _; rw [y2], rfl⟩ (forall_cons ⟨rfl, rfl⟩ forall_nil), forall_cons (by show some _ = some _; rw [y3]) forall_nil⟩⟩
        · obtain ⟨e1, e2⟩ := x.end' ha h6
          have q6 : ((x.i : Int) == 6) = true := by rw [e1]; rfl
          simp only [go_sem, reduceIte, Nat.reduceEqDiff, reduceCtorEq, Nat.reduceLT, Nat.reduceAdd, Nat.reduceSub, Nat.reduceMul, Nat.reduceLeDiff, Int.reduceLT, Int.reduceLE, Int.reduceToNat, Int.reduceEq, Int.reduceAdd, Int.reduceSub, Int.reduceNeg, Int.reduceBNe, Int.reduceBEq, q6, tagsc, e2]
      · simp only [go_sem, reduceIte, Nat.reduceEqDiff, reduceCtorEq, Nat.reduceLT, Nat.reduceAdd, Nat.reduceSub, Nat.reduceMul, Nat.reduceLeDiff, Int.reduceLT, Int.reduceLE, Int.reduceToNat, Int.reduceEq, Int.reduceAdd, Int.reduceSub, Int.reduceNeg, Int.reduceBNe, Int.reduceBEq, ha, hb, take_vec]
        refine vCall_of (hA) ?h0 ?he ?_; (case h0 => simp only [go_sem, reduceIte, Nat.reduceEqDiff, reduceCtorEq, Nat.reduceLT, Nat.reduceAdd, Nat.reduceSub, Nat.reduceMul, Nat.reduceLeDiff, Int.reduceLT, Int.reduceLE, Int.reduceToNat, Int.reduceEq, Int.reduceAdd, Int.reduceSub, Int.reduceNeg, Int.reduceBNe, Int.reduceBEq, vec]); (case he => simp only [go_sem, reduceIte, Nat.reduceEqDiff, reduceCtorEq, Nat.reduceLT, Nat.reduceAdd, Nat.reduceSub, Nat.reduceMul, Nat.reduceLeDiff, Int.reduceLT, Int.reduceLE, Int.reduceToNat, Int.reduceEq, Int.reduceAdd, Int.reduceSub, Int.reduceNeg, Int.reduceBNe, Int.reduceBEq, vec])
        simp only [go_sem, reduceIte, Nat.reduceEqDiff, reduceCtorEq, Nat.reduceLT, Nat.reduceAdd, Nat.reduceSub, Nat.reduceMul, Nat.reduceLeDiff, Int.reduceLT, Int.reduceLE, Int.reduceToNat, Int.reduceEq, Int.reduceAdd, Int.reduceSub, Int.reduceNeg, Int.reduceBNe, Int.reduceBEq, ha, hb, take_vec]
        refine vCall_of (hB) ?h0 ?he ?_; (case h0 => simp only [go_sem, reduceIte, Nat.reduceEqDiff, reduceCtorEq, Nat.reduceLT, Nat.reduceAdd, Nat.reduceSub, Nat.reduceMul, Nat.reduceLeDiff, Int.reduceLT, Int.reduceLE, Int.reduceToNat, Int.reduceEq, Int.reduceAdd, Int.reduceSub, Int.reduceNeg, Int.reduceBNe, Int.reduceBEq, vec]); (case he => simp only [go_sem, reduceIte, Nat.reduceEqDiff, reduceCtorEq, Nat.reduceLT, Nat.reduceAdd, Nat.reduceSub, Nat.reduceMul, Nat.reduceLeDiff, Int.reduceLT, Int.reduceLE, Int.reduceToNat, Int.reduceEq, Int.reduceAdd, Int.reduceSub, Int.reduceNeg, Int.reduceBNe, Int.reduceBEq, vec])
        simp only [go_sem, reduceIte, Nat.reduceEqDiff, reduceCtorEq, Nat.reduceLT, Nat.reduceAdd, Nat.reduceSub, Nat.reduceMul, Nat.reduceLeDiff, Int.reduceLT, Int.reduceLE, Int.reduceToNat, Int.reduceEq, Int.reduceAdd, Int.reduceSub, Int.reduceNeg, Int.reduceBNe, Int.reduceBEq]
        refine awp_nilRow 6 39 2 25 rfl rfl (awp_label_seq (cut ⟨0, a, by omega, ha, fun _ => Int.le_refl _, fun _ => by omega, fun _ _ _ => rfl⟩ _ ?_))
        have e : (LI.out (a := a) (b := b) ⟨0, a, by omega, ha, fun _ => Int.le_refl _, fun _ => by omega, fun _ _ _ => rfl⟩) = [] := by simp [LI.out, lacksTo, seg_nil]
        exact ⟨rfl, forall_cons rfl (forall_cons rfl (forall_cons (by rw [e]; rfl) (forall_cons rfl forall_nil))), forall_cons ⟨rfl, rfl⟩ (forall_cons ⟨rfl, rfl⟩ forall_nil), forall_cons (by rw [e]; rfl) forall_nil⟩
