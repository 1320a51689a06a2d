/- Contracts of functions and laws of this seat, each for every input that it names: lemmas of the proof. -/
import Derived.Test.YtcinpbgpbehndaaDr
set_option linter.unusedSimpArgs false
set_option linter.unusedVariables false
set_option linter.unusedSimpArgs false
set_option linter.unusedVariables false
namespace Go.Proofs.Ytcinpbgpbehndaa
open Go.PL
open Go.RowKit
def EnOk (e : En) : Prop := e.l.length ≤ 1000000 ∧ -9223372036854775808 ≤ e.n ∧ e.n ≤ 9223372036854775807
def RwOk (r : Rw) : Prop := r.item.length ≤ 1000000 ∧ r.l.length ≤ 1000 ∧ ∀ e ∈ r.l, EnOk e
structure LnOk (d : Dc) : Prop where
  hl : d.head.length ≤ 1000000
  rl : d.rows.length ≤ 1000000
  he : ∀ e ∈ d.head, EnOk e
  re : ∀ r ∈ d.rows, RwOk r
def entLine (it : Str) (e : En) : Str := it ++ [32] ++ lineM e
def rowLines (r : Rw) : List Str := r.item :: r.l.map (entLine r.item)
def linesM (d : Dc) : List Str := d.head.map lineM ++ (d.rows.map rowLines).flatten
theorem lineM_len {e : En} (h : EnOk e) : (lineM e).length ≤ 200000000 := by
  have h1 := print_len e.at'
  have h2 := printZ_len h.2.1 h.2.2
  have h3 := join_len e.l
  have h4 := h.1
  unfold lineM
  split <;> simp <;> omega
theorem flat_len (l : List Rw) (h : ∀ r ∈ l, RwOk r) : ((l.map rowLines).flatten).length ≤ 1001 * l.length := by
  induction l with
  | nil => simp
  | cons r l ih =>
    have h1 := (h r (by simp)).2.1
    have h2 := ih fun x hx => h x (by simp [hx])
    simp only [List.map_cons, List.flatten_cons, List.length_append, rowLines, List.length_cons, List.length_map] at h2 ⊢
    omega
theorem flat_take {l : List Rw} {k : Nat} (h : k < l.length) : ((l.take (k + 1)).map rowLines).flatten = ((l.take k).map rowLines).flatten ++ rowLines (l.getD k default) := by
  rw [map_take_snoc rowLines h]; simp
structure LI2 (d : Dc) where
  k : Nat
  hk : k ≤ d.rows.length
  id : Nat
  hid : id = 21 ∨ id = 34 ∨ id = 50
structure LI3 (l : List En) where
  k : Nat
  hk : k ≤ l.length
  id : Nat
  hid : id = 34 ∨ id = 50
set_option maxRecDepth 20000 in
set_option maxHeartbeats 8000000 in
theorem Lines_pure (d : Dc) (ok : LnOk d) : PL.Pure Try.prog 16 [doc d] (strs (linesM d)) := by
  obtain ⟨hd, rs⟩ := d
  obtain ⟨hl, rl, he, re⟩ := ok
  simp only at hl rl he re
  have hlm : hd.length ≤ maxLen := by rw [maxLen_eq]; omega
  have rlm : rs.length ≤ maxLen := by rw [maxLen_eq]; omega
  refine PL.Pure.of_v Try.func16 (by decide) rfl Try.ntmps16 Try.results16 (by simp) (strs_dids _) ?_
  simp only [go_sem, reduceIte, Nat.reduceEqDiff, reduceCtorEq, Nat.reduceLT, Nat.reduceAdd, Nat.reduceSub, Nat.reduceMul, Nat.reduceLeDiff, Int.reduceLT, Int.reduceLE, Int.reduceToNat, Int.reduceEq, Int.reduceAdd, Int.reduceSub, Int.reduceNeg, Int.reduceBNe, Int.reduceBEq, doc]
  refine awp_nilRow 3 21 1 9 rfl rfl ?_
  refine vLoopM (ι := { k : Nat // k ≤ hd.length }) 54 (fun x => [(1, .ptr 1 0), (3, .sl (.row 21) (((hd.take x.1).map lineM).map .str)), (11, .sl .no (hd.map ent)), (12, .int .i64 (hd.length : Int)), (13, .int .i64 (x.1 : Int))]) (fun x => [(1, [.sl .no (hd.map ent), .sl .no (rs.map row)], false)]) (fun x => [(21, .live x.1 1 9)]) (fun x => hd.length - x.1) ⟨0, by omega⟩
    ⟨rfl, (forall_cons rfl (forall_cons rfl (forall_cons rfl (forall_cons rfl (forall_cons rfl (forall_nil)))))), forall_cons ⟨rfl, rfl⟩ forall_nil, (forall_cons rfl (forall_nil))⟩ (fun x => ⟨forall_cons rfl (forall_cons (by simp [PV.ids, refInM]) (forall_cons rfl (forall_cons rfl (forall_cons rfl (forall_nil))))), (forall_cons rfl (forall_nil))⟩) (fun x => ?_)
  obtain ⟨k, hk⟩ := x
  simp only
  by_cases h : (k : Int) < (hd.length : Int)
  · have hka : k < hd.length := by omega
    have w1 := w64s hka hlm
    have i1 : (0 : Int) ≤ (k : Int) := by omega
    have hok := he _ (getD_mem' hka (d := default))
    have hL := line_pure (hd.getD k default) hok.1 hok.2.1 hok.2.2
    have hs := map_take_snoc lineM hka
    simp only [go_sem, reduceIte, Nat.reduceEqDiff, reduceCtorEq, Nat.reduceLT, Nat.reduceAdd, Nat.reduceSub, Nat.reduceMul, Nat.reduceLeDiff, Int.reduceLT, Int.reduceLE, Int.reduceToNat, Int.reduceEq, Int.reduceAdd, Int.reduceSub, Int.reduceNeg, Int.reduceBNe, Int.reduceBEq, h, i1, getD_ent hka, ent]
    refine vCall_of (hL) ?_ ?_ ?_; (focus simp only [go_sem, reduceIte, Nat.reduceEqDiff, reduceCtorEq, Nat.reduceLT, Nat.reduceAdd, Nat.reduceSub, Nat.reduceMul, Nat.reduceLeDiff, Int.reduceLT, Int.reduceLE, Int.reduceToNat, Int.reduceEq, Int.reduceAdd, Int.reduceSub, Int.reduceNeg, Int.reduceBNe, Int.reduceBEq, ent]); (focus simp only [go_sem, reduceIte, Nat.reduceEqDiff, reduceCtorEq, Nat.reduceLT, Nat.reduceAdd, Nat.reduceSub, Nat.reduceMul, Nat.reduceLeDiff, Int.reduceLT, Int.reduceLE, Int.reduceToNat, Int.reduceEq, Int.reduceAdd, Int.reduceSub, Int.reduceNeg, Int.reduceBNe, Int.reduceBEq, ent])
    simp only [go_sem, reduceIte, Nat.reduceEqDiff, reduceCtorEq, Nat.reduceLT, Nat.reduceAdd, Nat.reduceSub, Nat.reduceMul, Nat.reduceLeDiff, Int.reduceLT, Int.reduceLE, Int.reduceToNat, Int.reduceEq, Int.reduceAdd, Int.reduceSub, Int.reduceNeg, Int.reduceBNe, Int.reduceBEq]
    refine ⟨⟨by simp; omega, sized_str _, room_small (by simp; omega) (by omega)⟩, ⟨⟨k + 1, by omega⟩, by show hd.length - (k + 1) < hd.length - k; omega, ⟨rfl, forall_cons rfl (forall_cons (by rw [hs, List.map_append]; rfl) (forall_cons rfl (forall_cons rfl (forall_cons (by rw [w1]; rfl) forall_nil)))), forall_cons ⟨rfl, rfl⟩ forall_nil, forall_cons (by simp [upd, show min k hd.length = k by omega]) forall_nil⟩⟩⟩
  · obtain rfl : k = hd.length := by omega
    simp only [go_sem, reduceIte, Nat.reduceEqDiff, reduceCtorEq, Nat.reduceLT, Nat.reduceAdd, Nat.reduceSub, Nat.reduceMul, Nat.reduceLeDiff, Int.reduceLT, Int.reduceLE, Int.reduceToNat, Int.reduceEq, Int.reduceAdd, Int.reduceSub, Int.reduceNeg, Int.reduceBNe, Int.reduceBEq, h, List.take_length]
    refine vLoopM (ι := LI2 ⟨hd, rs⟩) 54 (fun x => [(3, .sl (.row x.id) ((hd.map lineM ++ ((rs.take x.k).map rowLines).flatten).map .str)), (24, .sl .no (rs.map row)), (25, .int .i64 (rs.length : Int)), (26, .int .i64 (x.k : Int))]) (fun x => []) (fun x => [(x.id, .live (hd.map lineM ++ ((rs.take x.k).map rowLines).flatten).length 1 9)]) (fun x => rs.length - x.k) ⟨0, by omega, 21, .inl rfl⟩
      ⟨rfl, forall_cons (by simp [upd]) (forall_cons rfl (forall_cons rfl (forall_cons rfl (forall_nil)))), forall_nil, forall_cons (by simp [upd]) forall_nil⟩ (fun x => ⟨forall_cons (by simp [PV.ids, refInM]) (forall_cons rfl (forall_cons rfl (forall_cons rfl (forall_nil)))), forall_nil⟩) (fun x => ?_)
    obtain ⟨k, hk, id, hid⟩ := x
    simp only
    have hfl := flat_len (rs.take k) fun r hr => re r (List.mem_of_mem_take hr)
    have hfl' : (rs.take k).length ≤ 1000000 := by rw [List.length_take]; omega
    generalize hpre : hd.map lineM ++ ((rs.take k).map rowLines).flatten = pre
    have hpl : pre.length ≤ 2000000000 := by rw [← hpre]; simp at hfl hfl' ⊢; omega
    by_cases h : (k : Int) < (rs.length : Int)
    · have hka : k < rs.length := by omega
      have w1 := w64s hka rlm
      have i1 : (0 : Int) ≤ (k : Int) := by omega
      obtain ⟨ok1, ok2, ok3⟩ := re _ (getD_mem' hka (d := default))
      have hs := flat_take hka
      generalize hr : rs.getD k default = r at *
      have hrm : r.l.length ≤ maxLen := by rw [maxLen_eq]; omega
      rcases hid with rfl | rfl | rfl
      all_goals
        simp only [go_sem, reduceIte, Nat.reduceEqDiff, reduceCtorEq, Nat.reduceLT, Nat.reduceAdd, Nat.reduceSub, Nat.reduceMul, Nat.reduceLeDiff, Int.reduceLT, Int.reduceLE, Int.reduceToNat, Int.reduceEq, Int.reduceAdd, Int.reduceSub, Int.reduceNeg, Int.reduceBNe, Int.reduceBEq, h, i1, getD_row hka, hr, row]
        repeat ((with_reducible refine And.intro ?_ ?_); (focus ((repeat' (with_reducible apply And.intro)) <;> (first | omega | exact room_small (by omega) (by omega) | exact room_small (by simp; omega) (by omega) | exact sized_str _ | (simp; done) | (simp; omega)))))
        refine vLoopM (ι := LI3 r.l) 54 (fun x => [(3, .sl (.row x.id) ((pre ++ r.item :: (r.l.take x.k).map (entLine r.item)).map .str)), (7, .ptr 7 0), (24, .sl .no (rs.map row)), (25, .int .i64 (rs.length : Int)), (26, .int .i64 (k : Int)), (36, .sl .no (r.l.map ent)), (37, .int .i64 (r.l.length : Int)), (38, .int .i64 (x.k : Int))]) (fun x => [(7, [.str r.item, .sl .no (r.l.map ent)], false)]) (fun x => [(x.id, .live (pre ++ r.item :: (r.l.take x.k).map (entLine r.item)).length 1 9)]) (fun x => r.l.length - x.k) ⟨0, by omega, 34, .inl rfl⟩
          ⟨rfl, forall_cons (by simp [upd]) (forall_cons rfl (forall_cons rfl (forall_cons rfl (forall_cons rfl (forall_cons rfl (forall_cons rfl (forall_cons rfl (forall_nil)))))))), forall_cons ⟨rfl, rfl⟩ forall_nil, forall_cons (by simp [upd]) forall_nil⟩ (fun x => ⟨forall_cons (by simp [PV.ids, refInM]) (forall_cons rfl (forall_cons rfl (forall_cons rfl (forall_cons rfl (forall_cons rfl (forall_cons rfl (forall_cons rfl (forall_nil)))))))), (forall_cons rfl (forall_nil))⟩) (fun x => ?_)
        obtain ⟨k', hk', id, hid⟩ := x
        simp only
        by_cases h' : (k' : Int) < (r.l.length : Int)
        · have hka' : k' < r.l.length := by omega
          have w1' := w64s hka' hrm
          have i1' : (0 : Int) ≤ (k' : Int) := by omega
          have hok := ok3 _ (getD_mem' hka' (d := default))
          have hL := line_pure (r.l.getD k' default) hok.1 hok.2.1 hok.2.2
          have hLl := lineM_len hok
          have hs' := map_take_snoc (entLine r.item) hka'
          have b1 : (r.item.length : Int) + 1 ≤ 9223372036854775807 := by omega
          have b2 : (((r.item ++ [32]).length : Nat) : Int) + ((lineM (r.l.getD k' default)).length : Int) ≤ 9223372036854775807 := by rw [List.length_append]; simp only [List.length_cons, List.length_nil]; omega
          rcases hid with rfl | rfl
          all_goals
            simp only [go_sem, reduceIte, Nat.reduceEqDiff, reduceCtorEq, Nat.reduceLT, Nat.reduceAdd, Nat.reduceSub, Nat.reduceMul, Nat.reduceLeDiff, Int.reduceLT, Int.reduceLE, Int.reduceToNat, Int.reduceEq, Int.reduceAdd, Int.reduceSub, Int.reduceNeg, Int.reduceBNe, Int.reduceBEq, h', i1', getD_ent hka', ent]
            refine vDrawQ (by kernel_rfl) (by kernel_rfl) ?_
            simp only [go_sem, reduceIte, Nat.reduceEqDiff, reduceCtorEq, Nat.reduceLT, Nat.reduceAdd, Nat.reduceSub, Nat.reduceMul, Nat.reduceLeDiff, Int.reduceLT, Int.reduceLE, Int.reduceToNat, Int.reduceEq, Int.reduceAdd, Int.reduceSub, Int.reduceNeg, Int.reduceBNe, Int.reduceBEq, b1]
            refine vCall_of (hL) ?_ ?_ ?_; (focus simp only [go_sem, reduceIte, Nat.reduceEqDiff, reduceCtorEq, Nat.reduceLT, Nat.reduceAdd, Nat.reduceSub, Nat.reduceMul, Nat.reduceLeDiff, Int.reduceLT, Int.reduceLE, Int.reduceToNat, Int.reduceEq, Int.reduceAdd, Int.reduceSub, Int.reduceNeg, Int.reduceBNe, Int.reduceBEq, ent]); (focus simp only [go_sem, reduceIte, Nat.reduceEqDiff, reduceCtorEq, Nat.reduceLT, Nat.reduceAdd, Nat.reduceSub, Nat.reduceMul, Nat.reduceLeDiff, Int.reduceLT, Int.reduceLE, Int.reduceToNat, Int.reduceEq, Int.reduceAdd, Int.reduceSub, Int.reduceNeg, Int.reduceBNe, Int.reduceBEq, ent])
            simp only [go_sem, reduceIte, Nat.reduceEqDiff, reduceCtorEq, Nat.reduceLT, Nat.reduceAdd, Nat.reduceSub, Nat.reduceMul, Nat.reduceLeDiff, Int.reduceLT, Int.reduceLE, Int.reduceToNat, Int.reduceEq, Int.reduceAdd, Int.reduceSub, Int.reduceNeg, Int.reduceBNe, Int.reduceBEq, b1, b2]
            repeat ((with_reducible refine And.intro ?_ ?_); (focus ((repeat' (with_reducible apply And.intro)) <;> (first | omega | exact room_small (by omega) (by omega) | exact room_small (by simp; omega) (by omega) | exact sized_str _ | (simp; done) | (simp; omega)))))
            exact ⟨⟨k' + 1, by omega, 50, .inr rfl⟩, by show r.l.length - (k' + 1) < r.l.length - k'; omega, ⟨rfl, forall_cons (by rw [hs']; simp [upd, entLine]) (forall_cons rfl (forall_cons rfl (forall_cons rfl (forall_cons rfl (forall_cons rfl (forall_cons rfl (forall_cons (by rw [w1']; rfl) forall_nil))))))), forall_cons ⟨rfl, rfl⟩ forall_nil, forall_cons (by simp [upd]; omega) forall_nil⟩⟩
        · obtain rfl : k' = r.l.length := by omega
          have e2 : hd.map lineM ++ ((rs.take (k + 1)).map rowLines).flatten = pre ++ r.item :: r.l.map (entLine r.item) := by rw [hs, ← hpre, rowLines]; simp
          rcases hid with rfl | rfl
          · simp only [go_sem, reduceIte, Nat.reduceEqDiff, reduceCtorEq, Nat.reduceLT, Nat.reduceAdd, Nat.reduceSub, Nat.reduceMul, Nat.reduceLeDiff, Int.reduceLT, Int.reduceLE, Int.reduceToNat, Int.reduceEq, Int.reduceAdd, Int.reduceSub, Int.reduceNeg, Int.reduceBNe, Int.reduceBEq, h', List.take_length]
            exact ⟨⟨k + 1, hka, 34, .inr (.inl rfl)⟩, by show rs.length - (k + 1) < rs.length - k; omega, ⟨rfl, forall_cons (by rw [e2]; rfl) (forall_cons rfl (forall_cons rfl (forall_cons (by rw [w1]; rfl) forall_nil))), forall_nil, forall_cons (by rw [e2]; rfl) forall_nil⟩⟩
          · simp only [go_sem, reduceIte, Nat.reduceEqDiff, reduceCtorEq, Nat.reduceLT, Nat.reduceAdd, Nat.reduceSub, Nat.reduceMul, Nat.reduceLeDiff, Int.reduceLT, Int.reduceLE, Int.reduceToNat, Int.reduceEq, Int.reduceAdd, Int.reduceSub, Int.reduceNeg, Int.reduceBNe, Int.reduceBEq, h', List.take_length]
            exact ⟨⟨k + 1, hka, 50, .inr (.inr rfl)⟩, by show rs.length - (k + 1) < rs.length - k; omega, ⟨rfl, forall_cons (by rw [e2]; rfl) (forall_cons rfl (forall_cons rfl (forall_cons (by rw [w1]; rfl) forall_nil))), forall_nil, forall_cons (by rw [e2]; rfl) forall_nil⟩⟩
    · have hk2 : k ≤ rs.length := hk
      obtain rfl : k = rs.length := by omega
      rw [List.take_length] at hpre
      subst hpre
      rcases hid with rfl | rfl | rfl
      all_goals
        simp only [go_sem, reduceIte, Nat.reduceEqDiff, reduceCtorEq, Nat.reduceLT, Nat.reduceAdd, Nat.reduceSub, Nat.reduceMul, Nat.reduceLeDiff, Int.reduceLT, Int.reduceLE, Int.reduceToNat, Int.reduceEq, Int.reduceAdd, Int.reduceSub, Int.reduceNeg, Int.reduceBNe, Int.reduceBEq, h, List.take_length, strs, linesM]
