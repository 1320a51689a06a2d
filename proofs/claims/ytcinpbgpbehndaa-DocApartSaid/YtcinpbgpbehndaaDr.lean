/- Contracts of functions and laws of this seat, each for every input that it names: lemmas of the proof. -/
import Derived.Test.YtcinpbgpbehndaaDq
set_option linter.unusedSimpArgs false
set_option linter.unusedVariables false
set_option linter.unusedSimpArgs false
set_option linter.unusedVariables false
namespace Go.Proofs.Ytcinpbgpbehndaa
open Go.PL
open Go.RowKit
def quoteS (s : Str) : Str := if (s.length : Int) ≤ 40 then [34] ++ escs s ++ [34] else [63]
theorem quoteS_len (s : Str) : (quoteS s).length ≤ 122 := by
  unfold quoteS
  split
  · have := escs_len s; simp; omega
  · simp
def lineM (e : En) : Str := printM e.at' ++ [32] ++ (if e.l = [] then printZ e.n else Lib.join (e.l.map quoteS) [44])
theorem join_len (l : List Str) : (Lib.join (l.map quoteS) [44]).length ≤ 123 * l.length := by
  induction l with
  | nil => simp [Lib.join]
  | cons x l ih =>
    cases l with
    | nil => have := quoteS_len x; simp [Lib.join]; omega
    | cons y l =>
      have := quoteS_len x
      have e : ∀ (a b : Str) (m : List Str), ([44] : Str).intercalate (a :: b :: m) = a ++ ([44] ++ ([44] : Str).intercalate (b :: m)) := fun a b m => by
        cases m <;> simp [List.intercalate, List.intersperse]
      simp only [Lib.join, List.map_cons, List.length_append, List.length_cons, List.length_nil] at ih ⊢
      rw [e]
      simp only [List.length_append, List.length_cons, List.length_nil]
      omega
theorem dg_len (n : Nat) : (dg n).length ≤ n + 1 := by
  induction n using Nat.strongRecOn with
  | _ n ih =>
    unfold dg
    split
    · simp
    · have := ih (n / 10) (by omega)
      simp; omega
theorem dg_len20 (n k : Nat) (h : n < 10 ^ k) (hk : 1 ≤ k) : (dg n).length ≤ k := by
  induction k generalizing n with
  | zero => omega
  | succ k ih =>
    unfold dg
    split
    · simp
    · have hk0 : 1 ≤ k := by
        by_cases e : k = 0
        · subst e; omega
        · omega
      have := ih (n / 10) (by rw [Nat.pow_succ] at h; omega) hk0
      simp; omega
theorem printZ_len {n : Int} (h1 : -9223372036854775808 ≤ n) (h2 : n ≤ 9223372036854775807) : (printZ n).length ≤ 21 := by
  have := dg_len20 n.natAbs 20 (by omega) (by omega)
  unfold printZ
  split <;> simp <;> omega
theorem map_str_snoc (l : List Str) (s : Str) : l.map PV.str ++ [PV.str s] = (l ++ [s]).map PV.str := by simp
theorem map_take_snoc {α β : Type} [Inhabited α] (f : α → β) {l : List α} {k : Nat} (h : k < l.length) : (l.take (k + 1)).map f = (l.take k).map f ++ [f (l.getD k default)] := by
  rw [List.take_add_one, List.getElem?_eq_getElem h, List.map_append, List.getD_eq_getElem?_getD, List.getElem?_eq_getElem h]
  rfl
set_option maxRecDepth 20000 in
set_option maxHeartbeats 8000000 in
theorem line_pure (e : En) (hl : e.l.length ≤ 1000000) (h1 : -9223372036854775808 ≤ e.n) (h2 : e.n ≤ 9223372036854775807) : PL.Pure Try.prog 48 [ent e] (.str (lineM e)) := by
  obtain ⟨r, n, l⟩ := e
  simp only at hl h1 h2
  have hP := Print_pure r
  have hp := print_len r
  have b1 : ((printM r).length : Int) + 1 ≤ 9223372036854775807 := by omega
  by_cases h0 : l = []
  · subst h0
    have hN := NPrint_pure n h1 h2
    have hn := printZ_len h1 h2
    have b2 : (((printM r ++ [32]).length : Nat) : Int) + ((printZ n).length : Int) ≤ 9223372036854775807 := by simp; omega
    refine PL.Pure.of_v Try.func48 (by decide) rfl Try.ntmps48 Try.results48 (by simp) rfl ?_
    simp only [go_sem, reduceIte, Nat.reduceEqDiff, reduceCtorEq, Nat.reduceLT, Nat.reduceAdd, Nat.reduceSub, Nat.reduceMul, Nat.reduceLeDiff, Int.reduceLT, Int.reduceLE, Int.reduceToNat, Int.reduceEq, Int.reduceAdd, Int.reduceSub, Int.reduceNeg, Int.reduceBNe, Int.reduceBEq, ent]
    refine vCall_of (hP) ?_ ?_ ?_; (focus simp only [go_sem, reduceIte, Nat.reduceEqDiff, reduceCtorEq, Nat.reduceLT, Nat.reduceAdd, Nat.reduceSub, Nat.reduceMul, Nat.reduceLeDiff, Int.reduceLT, Int.reduceLE, Int.reduceToNat, Int.reduceEq, Int.reduceAdd, Int.reduceSub, Int.reduceNeg, Int.reduceBNe, Int.reduceBEq, ref]); (focus simp only [go_sem, reduceIte, Nat.reduceEqDiff, reduceCtorEq, Nat.reduceLT, Nat.reduceAdd, Nat.reduceSub, Nat.reduceMul, Nat.reduceLeDiff, Int.reduceLT, Int.reduceLE, Int.reduceToNat, Int.reduceEq, Int.reduceAdd, Int.reduceSub, Int.reduceNeg, Int.reduceBNe, Int.reduceBEq, ref])
    simp only [go_sem, reduceIte, Nat.reduceEqDiff, reduceCtorEq, Nat.reduceLT, Nat.reduceAdd, Nat.reduceSub, Nat.reduceMul, Nat.reduceLeDiff, Int.reduceLT, Int.reduceLE, Int.reduceToNat, Int.reduceEq, Int.reduceAdd, Int.reduceSub, Int.reduceNeg, Int.reduceBNe, Int.reduceBEq, b1, List.map_nil]
    repeat ((with_reducible refine And.intro ?_ ?_); (focus (first | omega | (simp; done))))
    refine vCall_of (hN) ?_ ?_ ?_; (focus simp only [go_sem, reduceIte, Nat.reduceEqDiff, reduceCtorEq, Nat.reduceLT, Nat.reduceAdd, Nat.reduceSub, Nat.reduceMul, Nat.reduceLeDiff, Int.reduceLT, Int.reduceLE, Int.reduceToNat, Int.reduceEq, Int.reduceAdd, Int.reduceSub, Int.reduceNeg, Int.reduceBNe, Int.reduceBEq]); (focus simp only [go_sem, reduceIte, Nat.reduceEqDiff, reduceCtorEq, Nat.reduceLT, Nat.reduceAdd, Nat.reduceSub, Nat.reduceMul, Nat.reduceLeDiff, Int.reduceLT, Int.reduceLE, Int.reduceToNat, Int.reduceEq, Int.reduceAdd, Int.reduceSub, Int.reduceNeg, Int.reduceBNe, Int.reduceBEq])
    simp only [go_sem, reduceIte, Nat.reduceEqDiff, reduceCtorEq, Nat.reduceLT, Nat.reduceAdd, Nat.reduceSub, Nat.reduceMul, Nat.reduceLeDiff, Int.reduceLT, Int.reduceLE, Int.reduceToNat, Int.reduceEq, Int.reduceAdd, Int.reduceSub, Int.reduceNeg, Int.reduceBNe, Int.reduceBEq, b2, lineM]
  · have hpos : 0 < l.length := List.length_pos_iff.2 h0
    have z0 : ((l.length : Int) == 0) = false := beq_eq_false_iff_ne.2 (by omega)
    have hml : l.length ≤ maxLen := by rw [maxLen_eq]; omega
    have hJl := join_len l
    have hJ := Join_pure (l.map quoteS) [44] (by simp; omega) (by omega)
    have b2 : (((printM r ++ [32]).length : Nat) : Int) + ((Lib.join (l.map quoteS) [44]).length : Int) ≤ 9223372036854775807 := by simp; omega
    refine PL.Pure.of_v Try.func48 (by decide) rfl Try.ntmps48 Try.results48 (by simp) rfl ?_
    simp only [go_sem, reduceIte, Nat.reduceEqDiff, reduceCtorEq, Nat.reduceLT, Nat.reduceAdd, Nat.reduceSub, Nat.reduceMul, Nat.reduceLeDiff, Int.reduceLT, Int.reduceLE, Int.reduceToNat, Int.reduceEq, Int.reduceAdd, Int.reduceSub, Int.reduceNeg, Int.reduceBNe, Int.reduceBEq, ent]
    refine vCall_of (hP) ?_ ?_ ?_; (focus simp only [go_sem, reduceIte, Nat.reduceEqDiff, reduceCtorEq, Nat.reduceLT, Nat.reduceAdd, Nat.reduceSub, Nat.reduceMul, Nat.reduceLeDiff, Int.reduceLT, Int.reduceLE, Int.reduceToNat, Int.reduceEq, Int.reduceAdd, Int.reduceSub, Int.reduceNeg, Int.reduceBNe, Int.reduceBEq, ref]); (focus simp only [go_sem, reduceIte, Nat.reduceEqDiff, reduceCtorEq, Nat.reduceLT, Nat.reduceAdd, Nat.reduceSub, Nat.reduceMul, Nat.reduceLeDiff, Int.reduceLT, Int.reduceLE, Int.reduceToNat, Int.reduceEq, Int.reduceAdd, Int.reduceSub, Int.reduceNeg, Int.reduceBNe, Int.reduceBEq, ref])
    simp only [go_sem, reduceIte, Nat.reduceEqDiff, reduceCtorEq, Nat.reduceLT, Nat.reduceAdd, Nat.reduceSub, Nat.reduceMul, Nat.reduceLeDiff, Int.reduceLT, Int.reduceLE, Int.reduceToNat, Int.reduceEq, Int.reduceAdd, Int.reduceSub, Int.reduceNeg, Int.reduceBNe, Int.reduceBEq, b1, z0, List.length_map]
    repeat ((with_reducible refine And.intro ?_ ?_); (focus (first | omega | (simp; done))))
    refine awp_moveRow 4 25 43 0 1 9 [] rfl rfl rfl ?_
    refine vLoopM (ι := { k : Nat // k ≤ l.length }) 49 (fun x => [(3, .str (printM r ++ [32])), (4, .sl (.row 43) (((l.take x.1).map quoteS).map .str)), (27, .sl .no (l.map .str)), (28, .int .i64 (l.length : Int)), (29, .int .i64 (x.1 : Int))]) (fun x => []) (fun x => [(43, .live x.1 1 9)]) (fun x => l.length - x.1) ⟨0, by omega⟩
      ⟨rfl, (forall_cons rfl (forall_cons rfl (forall_cons rfl (forall_cons rfl (forall_cons rfl (forall_nil)))))), forall_nil, (forall_cons rfl (forall_nil))⟩ (fun x => ⟨forall_cons rfl (forall_cons (by simp [PV.ids, refInM]) (forall_cons rfl (forall_cons rfl (forall_cons rfl (forall_nil))))), forall_nil⟩) (fun x => ?_)
    obtain ⟨k, hk⟩ := x
    simp only
    by_cases h : (k : Int) < (l.length : Int)
    · have hka : k < l.length := by omega
      have w1 := w64s hka hml
      have i1 : (0 : Int) ≤ (k : Int) := by omega
      have hQ := Quote_pure (l.getD k [])
      have hs := map_take_snoc quoteS hka
      have hlen : ((l.take k).map quoteS).length = k := by simp; omega
      by_cases h40 : ((l.getD k []).length : Int) ≤ 40
      · have hq : quoteS (l.getD k []) = [34] ++ escs (l.getD k []) ++ [34] := by simp only [quoteS, h40, if_true]
        simp only [go_sem, reduceIte, Nat.reduceEqDiff, reduceCtorEq, Nat.reduceLT, Nat.reduceAdd, Nat.reduceSub, Nat.reduceMul, Nat.reduceLeDiff, Int.reduceLT, Int.reduceLE, Int.reduceToNat, Int.reduceEq, Int.reduceAdd, Int.reduceSub, Int.reduceNeg, Int.reduceBNe, Int.reduceBEq, h, i1, getD_str hka]
        refine vCall_of (hQ) ?_ ?_ ?_; (focus simp only [go_sem, reduceIte, Nat.reduceEqDiff, reduceCtorEq, Nat.reduceLT, Nat.reduceAdd, Nat.reduceSub, Nat.reduceMul, Nat.reduceLeDiff, Int.reduceLT, Int.reduceLE, Int.reduceToNat, Int.reduceEq, Int.reduceAdd, Int.reduceSub, Int.reduceNeg, Int.reduceBNe, Int.reduceBEq]); (focus simp only [go_sem, reduceIte, Nat.reduceEqDiff, reduceCtorEq, Nat.reduceLT, Nat.reduceAdd, Nat.reduceSub, Nat.reduceMul, Nat.reduceLeDiff, Int.reduceLT, Int.reduceLE, Int.reduceToNat, Int.reduceEq, Int.reduceAdd, Int.reduceSub, Int.reduceNeg, Int.reduceBNe, Int.reduceBEq])
        simp only [go_sem, reduceIte, Nat.reduceEqDiff, reduceCtorEq, Nat.reduceLT, Nat.reduceAdd, Nat.reduceSub, Nat.reduceMul, Nat.reduceLeDiff, Int.reduceLT, Int.reduceLE, Int.reduceToNat, Int.reduceEq, Int.reduceAdd, Int.reduceSub, Int.reduceNeg, Int.reduceBNe, Int.reduceBEq, quoteC, h40]
        refine ⟨⟨by simp; omega, sized_str _, room_small (by simp; omega) (by omega)⟩, ⟨⟨k + 1, by omega⟩, by show l.length - (k + 1) < l.length - k; omega, ⟨rfl, forall_cons rfl (forall_cons (by rw [hs, List.map_append]; show _ = PV.sl _ (_ ++ [PV.str (quoteS (l.getD k []))]); rw [hq]; rfl) (forall_cons rfl (forall_cons rfl (forall_cons (by rw [w1]; rfl) forall_nil)))), forall_nil, forall_cons (by simp [upd, show min k l.length = k by omega]) forall_nil⟩⟩⟩
      · have hq : quoteS (l.getD k []) = [63] := by simp only [quoteS, h40, if_false]
        simp only [go_sem, reduceIte, Nat.reduceEqDiff, reduceCtorEq, Nat.reduceLT, Nat.reduceAdd, Nat.reduceSub, Nat.reduceMul, Nat.reduceLeDiff, Int.reduceLT, Int.reduceLE, Int.reduceToNat, Int.reduceEq, Int.reduceAdd, Int.reduceSub, Int.reduceNeg, Int.reduceBNe, Int.reduceBEq, h, i1, getD_str hka]
        refine vCall_of (hQ) ?_ ?_ ?_; (focus simp only [go_sem, reduceIte, Nat.reduceEqDiff, reduceCtorEq, Nat.reduceLT, Nat.reduceAdd, Nat.reduceSub, Nat.reduceMul, Nat.reduceLeDiff, Int.reduceLT, Int.reduceLE, Int.reduceToNat, Int.reduceEq, Int.reduceAdd, Int.reduceSub, Int.reduceNeg, Int.reduceBNe, Int.reduceBEq]); (focus simp only [go_sem, reduceIte, Nat.reduceEqDiff, reduceCtorEq, Nat.reduceLT, Nat.reduceAdd, Nat.reduceSub, Nat.reduceMul, Nat.reduceLeDiff, Int.reduceLT, Int.reduceLE, Int.reduceToNat, Int.reduceEq, Int.reduceAdd, Int.reduceSub, Int.reduceNeg, Int.reduceBNe, Int.reduceBEq])
        simp only [go_sem, reduceIte, Nat.reduceEqDiff, reduceCtorEq, Nat.reduceLT, Nat.reduceAdd, Nat.reduceSub, Nat.reduceMul, Nat.reduceLeDiff, Int.reduceLT, Int.reduceLE, Int.reduceToNat, Int.reduceEq, Int.reduceAdd, Int.reduceSub, Int.reduceNeg, Int.reduceBNe, Int.reduceBEq, quoteC, h40]
        refine ⟨⟨by simp; omega, sized_str _, room_small (by simp; omega) (by omega)⟩, ⟨⟨k + 1, by omega⟩, by show l.length - (k + 1) < l.length - k; omega, ⟨rfl, forall_cons rfl (forall_cons (by rw [hs, List.map_append]; show _ = PV.sl _ (_ ++ [PV.str (quoteS (l.getD k []))]); rw [hq]; rfl) (forall_cons rfl (forall_cons rfl (forall_cons (by rw [w1]; rfl) forall_nil)))), forall_nil, forall_cons (by simp [upd, show min k l.length = k by omega]) forall_nil⟩⟩⟩
    · obtain rfl : k = l.length := by omega
      rw [strs] at hJ
      simp only [go_sem, reduceIte, Nat.reduceEqDiff, reduceCtorEq, Nat.reduceLT, Nat.reduceAdd, Nat.reduceSub, Nat.reduceMul, Nat.reduceLeDiff, Int.reduceLT, Int.reduceLE, Int.reduceToNat, Int.reduceEq, Int.reduceAdd, Int.reduceSub, Int.reduceNeg, Int.reduceBNe, Int.reduceBEq, h, List.take_length]
      refine vCall_of (hJ) ?_ ?_ ?_; (focus simp only [go_sem, reduceIte, Nat.reduceEqDiff, reduceCtorEq, Nat.reduceLT, Nat.reduceAdd, Nat.reduceSub, Nat.reduceMul, Nat.reduceLeDiff, Int.reduceLT, Int.reduceLE, Int.reduceToNat, Int.reduceEq, Int.reduceAdd, Int.reduceSub, Int.reduceNeg, Int.reduceBNe, Int.reduceBEq]); (focus simp only [go_sem, reduceIte, Nat.reduceEqDiff, reduceCtorEq, Nat.reduceLT, Nat.reduceAdd, Nat.reduceSub, Nat.reduceMul, Nat.reduceLeDiff, Int.reduceLT, Int.reduceLE, Int.reduceToNat, Int.reduceEq, Int.reduceAdd, Int.reduceSub, Int.reduceNeg, Int.reduceBNe, Int.reduceBEq])
      simp only [go_sem, reduceIte, Nat.reduceEqDiff, reduceCtorEq, Nat.reduceLT, Nat.reduceAdd, Nat.reduceSub, Nat.reduceMul, Nat.reduceLeDiff, Int.reduceLT, Int.reduceLE, Int.reduceToNat, Int.reduceEq, Int.reduceAdd, Int.reduceSub, Int.reduceNeg, Int.reduceBNe, Int.reduceBEq, b2, lineM, h0]
