/- Contracts of functions and laws of this seat, each for every input that it names: lemmas of the proof. -/
import Derived.Test.YtcinpbgpbehndaaDn
set_option linter.unusedSimpArgs false
set_option linter.unusedVariables false
set_option linter.unusedSimpArgs false
set_option linter.unusedVariables false
namespace Go.Proofs.Ytcinpbgpbehndaa
open Go.PL
def plainB (n : Int) : Bool := decide (32 ≤ n) && (decide (n ≤ 126) && ((n != 34) && (n != 92)))
set_option maxHeartbeats 1000000 in
theorem plain_pure (n : Int) : PL.Pure Try.prog 122 [.int .u8 n] (.bool (plainB n)) := by
  refine PL.Pure.of_v Try.func122 (by decide) rfl Try.ntmps122 Try.results122 (by simp) rfl ?_
  simp only [go_sem, reduceIte, Nat.reduceEqDiff, reduceCtorEq, Nat.reduceLT, Nat.reduceAdd, Nat.reduceSub, Nat.reduceMul, Nat.reduceLeDiff, Int.reduceLT, Int.reduceLE, Int.reduceToNat, Int.reduceEq, Int.reduceAdd, Int.reduceSub, Int.reduceNeg, Int.reduceBNe, Int.reduceBEq]
  repeat' (first | (refine vGuard_t (fun h => ?_) (fun h => ?_) <;> (try simp only [go_sem, reduceIte, Nat.reduceEqDiff, reduceCtorEq, Nat.reduceLT, Nat.reduceAdd, Nat.reduceSub, Nat.reduceMul, Nat.reduceLeDiff, Int.reduceLT, Int.reduceLE, Int.reduceToNat, Int.reduceEq, Int.reduceAdd, Int.reduceSub, Int.reduceNeg, Int.reduceBNe, Int.reduceBEq, h])) | (refine vGuard_f (fun h => ?_) (fun h => ?_) <;> (try simp only [go_sem, reduceIte, Nat.reduceEqDiff, reduceCtorEq, Nat.reduceLT, Nat.reduceAdd, Nat.reduceSub, Nat.reduceMul, Nat.reduceLeDiff, Int.reduceLT, Int.reduceLE, Int.reduceToNat, Int.reduceEq, Int.reduceAdd, Int.reduceSub, Int.reduceNeg, Int.reduceBNe, Int.reduceBEq, h])) | (refine vCond_b (fun h => ?_) (fun h => ?_) <;> (try simp only [go_sem, reduceIte, Nat.reduceEqDiff, reduceCtorEq, Nat.reduceLT, Nat.reduceAdd, Nat.reduceSub, Nat.reduceMul, Nat.reduceLeDiff, Int.reduceLT, Int.reduceLE, Int.reduceToNat, Int.reduceEq, Int.reduceAdd, Int.reduceSub, Int.reduceNeg, Int.reduceBNe, Int.reduceBEq, h])))
  all_goals (simp_all [plainB]; try omega)
def digs : List UInt8 := [48, 49, 50, 51, 52, 53, 54, 55, 56, 57, 97, 98, 99, 100, 101, 102]
def hiN (c : UInt8) : Nat := c.toNat / 16
def loN (c : UInt8) : Nat := c.toNat % 16
def esc (c : UInt8) : Str := if plainB c.toNat = true then [c] else [92, digs.getD (hiN c) 0, digs.getD (loN c) 0]
def escs (s : Str) : Str := (s.map esc).flatten
theorem shr_hi (c : UInt8) : ((c.toNat : Int).fdiv 16) = ((hiN c : Nat) : Int) := by
  unfold hiN
  rw [Int.fdiv_eq_ediv_of_nonneg _ (by omega)]
  omega
theorem and_lo (c : UInt8) : IntKind.u8.wrap (((BitVec.ofInt 8 (c.toNat : Int)) &&& (BitVec.ofInt 8 15)).toNat : Int) = ((loN c : Nat) : Int) := by
  have key : ∀ n : Fin 256, IntKind.u8.wrap (((BitVec.ofInt 8 (n.val : Int)) &&& (BitVec.ofInt 8 15)).toNat : Int) = ((n.val % 16 : Nat) : Int) := by decide +kernel
  exact key ⟨c.toNat, c.toNat_lt⟩
theorem and_lo2 (c : UInt8) : IntKind.u8.wrap (((@HAnd.hAnd (BitVec IntKind.u8.bits) (BitVec IntKind.u8.bits) (BitVec IntKind.u8.bits) _ (BitVec.ofInt 8 (c.toNat : Int)) (BitVec.ofInt 8 15)).toNat : Nat) : Int) = ((loN c : Nat) : Int) := and_lo c
theorem shr_hi2 (c : UInt8) : ((c.toNat : Int).fdiv (2 ^ min 4 8)) = ((hiN c : Nat) : Int) := shr_hi c
theorem hi_lt (c : UInt8) : hiN c < 16 := by unfold hiN; have := c.toNat_lt; omega
theorem lo_lt (c : UInt8) : loN c < 16 := by unfold loN; omega
theorem bytesOf_bytesPV (l : Str) : bytesOf (bytesPV l) = some l := by
  induction l with
  | nil => rfl
  | cons c l ih =>
    have h := c.toNat_lt
    simp only [bytesPV, List.map_cons] at ih ⊢
    unfold bytesOf
    rw [if_pos (by omega), ih]
    simp

theorem getD_byte {s : Str} {k : Nat} : (s.getD k 0).toNat = (s.getD k 0).toNat := rfl
theorem sized_bytes (l : Str) : Sized 1 (bytesPV l) := fun e he => by
  obtain ⟨x, _, rfl⟩ := List.mem_map.1 he; rfl
theorem escs_snoc (s : Str) (c : UInt8) : escs (s ++ [c]) = escs s ++ esc c := by simp [escs]
theorem esc_len (c : UInt8) : (esc c).length ≤ 3 := by unfold esc; split <;> simp
theorem escs_len (s : Str) : (escs s).length ≤ 3 * s.length := by
  induction s with
  | nil => simp [escs]
  | cons c s ih =>
    have := esc_len c
    simp only [escs, List.map_cons, List.flatten_cons, List.length_append, List.length_cons] at ih ⊢
    omega
def quoteC (s : Str) : PV := if (s.length : Int) ≤ 40 then .tup [.str ([34] ++ escs s ++ [34]), .int .i64 0] else .tup [.str [], .int .i64 14]
theorem quoteC_dids (s : Str) : (quoteC s).dids = [] := by unfold quoteC; split <;> rfl
theorem bytesPV_len (l : Str) : (bytesPV l).length = l.length := by simp [bytesPV]
theorem bytesPV_append (a b : Str) : bytesPV (a ++ b) = bytesPV a ++ bytesPV b := by simp [bytesPV]
structure QI (s : Str) where
  k : Nat
  hk : k ≤ s.length
  id : Nat
  hid : id = 9 ∨ id = 24 ∨ id = 37
set_option maxRecDepth 20000 in
set_option maxHeartbeats 8000000 in
theorem Quote_pure (s : Str) : PL.Pure Try.prog 90 [.str s] (quoteC s) := by
  have hT := Text_pure s
  by_cases h40 : (s.length : Int) ≤ 40
  · rw [decide_eq_true h40] at hT
    refine PL.Pure.of_v Try.func90 (by decide) rfl Try.ntmps90 Try.results90 (by simp) (quoteC_dids _) ?_
    simp only [go_sem, reduceIte, Nat.reduceEqDiff, reduceCtorEq, Nat.reduceLT, Nat.reduceAdd, Nat.reduceSub, Nat.reduceMul, Nat.reduceLeDiff, Int.reduceLT, Int.reduceLE, Int.reduceToNat, Int.reduceEq, Int.reduceAdd, Int.reduceSub, Int.reduceNeg, Int.reduceBNe, Int.reduceBEq]
    refine vCall_of (hT) ?_ ?_ ?_; (focus simp only [go_sem, reduceIte, Nat.reduceEqDiff, reduceCtorEq, Nat.reduceLT, Nat.reduceAdd, Nat.reduceSub, Nat.reduceMul, Nat.reduceLeDiff, Int.reduceLT, Int.reduceLE, Int.reduceToNat, Int.reduceEq, Int.reduceAdd, Int.reduceSub, Int.reduceNeg, Int.reduceBNe, Int.reduceBEq]); (focus simp only [go_sem, reduceIte, Nat.reduceEqDiff, reduceCtorEq, Nat.reduceLT, Nat.reduceAdd, Nat.reduceSub, Nat.reduceMul, Nat.reduceLeDiff, Int.reduceLT, Int.reduceLE, Int.reduceToNat, Int.reduceEq, Int.reduceAdd, Int.reduceSub, Int.reduceNeg, Int.reduceBNe, Int.reduceBEq])
    simp only [go_sem, reduceIte, Nat.reduceEqDiff, reduceCtorEq, Nat.reduceLT, Nat.reduceAdd, Nat.reduceSub, Nat.reduceMul, Nat.reduceLeDiff, Int.reduceLT, Int.reduceLE, Int.reduceToNat, Int.reduceEq, Int.reduceAdd, Int.reduceSub, Int.reduceNeg, Int.reduceBNe, Int.reduceBEq]
    refine vLoopM (ι := QI s) 43 (fun x => [(0, .str s), (4, .sl (.row x.id) (bytesPV (34 :: escs (s.take x.k)))), (11, .int .i64 (s.length : Int)), (12, .int .i64 (x.k : Int))]) (fun x => []) (fun x => [(x.id, .live (34 :: escs (s.take x.k)).length 1 5)]) (fun x => s.length - x.k) ⟨0, by omega, 9, .inl rfl⟩
      ⟨rfl, (forall_cons rfl (forall_cons rfl (forall_cons rfl (forall_cons rfl (forall_nil))))), forall_nil, (forall_cons rfl (forall_nil))⟩ (fun x => ⟨forall_cons rfl (forall_cons (by simp [PV.ids, refInM]) (forall_cons rfl (forall_cons rfl (forall_nil)))), forall_nil⟩) (fun x => ?_)
    obtain ⟨k, hk, id, hid⟩ := x
    simp only
    by_cases h : (k : Int) < (s.length : Int)
    · have hka : k < s.length := by omega
      have w1 : IntKind.i64.wrap ((k : Int) + 1) = ((k + 1 : Nat) : Int) := by rw [w64 (by omega)]; rfl
      have i1 : (0 : Int) ≤ (k : Int) := by omega
      have hP := plain_pure ((s.getD k 0).toNat : Int)
      have hs : escs (s.take (k + 1)) = escs (s.take k) ++ esc (s.getD k 0) := by rw [take_snoc hka (d := 0), escs_snoc]
      have hlen := escs_len (s.take k)
      have hlen2 : (s.take k).length ≤ k := List.length_take_le _ _
      cases hp : plainB ((s.getD k 0).toNat : Int)
      · rw [hp] at hP
        rcases hid with rfl | rfl | rfl
        all_goals
          simp only [go_sem, reduceIte, Nat.reduceEqDiff, reduceCtorEq, Nat.reduceLT, Nat.reduceAdd, Nat.reduceSub, Nat.reduceMul, Nat.reduceLeDiff, Int.reduceLT, Int.reduceLE, Int.reduceToNat, Int.reduceEq, Int.reduceAdd, Int.reduceSub, Int.reduceNeg, Int.reduceBNe, Int.reduceBEq, h, i1]
          refine vCall_of (hP) ?_ ?_ ?_; (focus simp only [go_sem, reduceIte, Nat.reduceEqDiff, reduceCtorEq, Nat.reduceLT, Nat.reduceAdd, Nat.reduceSub, Nat.reduceMul, Nat.reduceLeDiff, Int.reduceLT, Int.reduceLE, Int.reduceToNat, Int.reduceEq, Int.reduceAdd, Int.reduceSub, Int.reduceNeg, Int.reduceBNe, Int.reduceBEq]); (focus simp only [go_sem, reduceIte, Nat.reduceEqDiff, reduceCtorEq, Nat.reduceLT, Nat.reduceAdd, Nat.reduceSub, Nat.reduceMul, Nat.reduceLeDiff, Int.reduceLT, Int.reduceLE, Int.reduceToNat, Int.reduceEq, Int.reduceAdd, Int.reduceSub, Int.reduceNeg, Int.reduceBNe, Int.reduceBEq])
          simp only [go_sem, reduceIte, Nat.reduceEqDiff, reduceCtorEq, Nat.reduceLT, Nat.reduceAdd, Nat.reduceSub, Nat.reduceMul, Nat.reduceLeDiff, Int.reduceLT, Int.reduceLE, Int.reduceToNat, Int.reduceEq, Int.reduceAdd, Int.reduceSub, Int.reduceNeg, Int.reduceBNe, Int.reduceBEq]
          refine vDrawQ (by kernel_rfl) (by kernel_rfl) ?_
          simp only [go_sem, reduceIte, Nat.reduceEqDiff, reduceCtorEq, Nat.reduceLT, Nat.reduceAdd, Nat.reduceSub, Nat.reduceMul, Nat.reduceLeDiff, Int.reduceLT, Int.reduceLE, Int.reduceToNat, Int.reduceEq, Int.reduceAdd, Int.reduceSub, Int.reduceNeg, Int.reduceBNe, Int.reduceBEq, h, i1, shr_hi2]
          erw [and_lo]
          have h1 := hi_lt (s.getD k 0)
          have h2 := lo_lt (s.getD k 0)
          have he : esc (s.getD k 0) = [92, digs.getD (hiN (s.getD k 0)) 0, digs.getD (loN (s.getD k 0)) 0] := by simp only [esc, hp]; rfl
          have hb : bytesPV (34 :: escs (s.take k)) ++ bytesPV (esc (s.getD k 0)) = bytesPV (34 :: escs (s.take (k + 1))) := by rw [hs, ← bytesPV_append]; rfl
          have hlL : (34 :: escs (s.take (k + 1))).length = (bytesPV (34 :: escs (s.take k))).length + 3 := by rw [hs, he, bytesPV_len]; simp
          rw [he] at hb
          refine ⟨⟨by omega, by omega⟩, by omega, ⟨by rw [bytesPV_len]; rfl, sized_bytes _, room_small (by rw [bytesPV_len]; simp only [List.length_cons]; omega) (by omega)⟩, ?_⟩
          exact ⟨⟨k + 1, by omega, 37, .inr (.inr rfl)⟩, by show s.length - (k + 1) < s.length - k; omega, ⟨rfl, forall_cons rfl (forall_cons (congrArg (PV.sl (.row 37)) hb) (forall_cons rfl (forall_cons (by rw [w1]; rfl) forall_nil))), forall_nil, forall_cons (congrArg (fun n => some (Row.live n 1 5)) hlL.symm) forall_nil⟩⟩
      · rw [hp] at hP
        rcases hid with rfl | rfl | rfl
        all_goals
          simp only [go_sem, reduceIte, Nat.reduceEqDiff, reduceCtorEq, Nat.reduceLT, Nat.reduceAdd, Nat.reduceSub, Nat.reduceMul, Nat.reduceLeDiff, Int.reduceLT, Int.reduceLE, Int.reduceToNat, Int.reduceEq, Int.reduceAdd, Int.reduceSub, Int.reduceNeg, Int.reduceBNe, Int.reduceBEq, h, i1]
          refine vCall_of (hP) ?_ ?_ ?_; (focus simp only [go_sem, reduceIte, Nat.reduceEqDiff, reduceCtorEq, Nat.reduceLT, Nat.reduceAdd, Nat.reduceSub, Nat.reduceMul, Nat.reduceLeDiff, Int.reduceLT, Int.reduceLE, Int.reduceToNat, Int.reduceEq, Int.reduceAdd, Int.reduceSub, Int.reduceNeg, Int.reduceBNe, Int.reduceBEq]); (focus simp only [go_sem, reduceIte, Nat.reduceEqDiff, reduceCtorEq, Nat.reduceLT, Nat.reduceAdd, Nat.reduceSub, Nat.reduceMul, Nat.reduceLeDiff, Int.reduceLT, Int.reduceLE, Int.reduceToNat, Int.reduceEq, Int.reduceAdd, Int.reduceSub, Int.reduceNeg, Int.reduceBNe, Int.reduceBEq])
          simp only [go_sem, reduceIte, Nat.reduceEqDiff, reduceCtorEq, Nat.reduceLT, Nat.reduceAdd, Nat.reduceSub, Nat.reduceMul, Nat.reduceLeDiff, Int.reduceLT, Int.reduceLE, Int.reduceToNat, Int.reduceEq, Int.reduceAdd, Int.reduceSub, Int.reduceNeg, Int.reduceBNe, Int.reduceBEq, h, i1, sized_bytes, w1]
          have he : esc (s.getD k 0) = [s.getD k 0] := by simp only [esc, hp]; rfl
          have hb : bytesPV (34 :: escs (s.take k)) ++ bytesPV (esc (s.getD k 0)) = bytesPV (34 :: escs (s.take (k + 1))) := by rw [hs, ← bytesPV_append]; rfl
          have hlL : (34 :: escs (s.take (k + 1))).length = (bytesPV (34 :: escs (s.take k))).length + 1 := by rw [hs, he, bytesPV_len]; simp
          rw [he] at hb
          refine ⟨⟨by rw [bytesPV_len]; rfl, room_small (by rw [bytesPV_len]; simp only [List.length_cons]; omega) (by omega)⟩, ?_⟩
          exact ⟨⟨k + 1, by omega, 24, .inr (.inl rfl)⟩, by show s.length - (k + 1) < s.length - k; omega, ⟨rfl, forall_cons rfl (forall_cons (congrArg (PV.sl (.row 24)) hb) (forall_cons rfl (forall_cons rfl forall_nil))), forall_nil, forall_cons (congrArg (fun n => some (Row.live n 1 5)) hlL.symm) forall_nil⟩⟩
    · obtain rfl : k = s.length := by omega
      have hlen := escs_len s
      have hb : bytesPV (34 :: escs s) ++ bytesPV [34] = bytesPV ([34] ++ escs s ++ [34]) := by rw [← bytesPV_append]; rfl
      have hbo : bytesOf (bytesPV (34 :: escs s) ++ [PV.int .u8 34]) = some ([34] ++ escs s ++ [34]) := by
        have := bytesOf_bytesPV ([34] ++ escs s ++ [34])
        rw [← hb] at this
        exact this
      have hro := room_small (show (escs s).length + 1 + 1 ≤ 100000000000 by omega) (show 1 ≤ 1000 by omega)
      have hq : quoteC s = .tup [.str ([34] ++ escs s ++ [34]), .int .i64 0] := by simp only [quoteC, h40, if_true]
      rcases hid with rfl | rfl | rfl
      all_goals
        simp only [go_sem, reduceIte, Nat.reduceEqDiff, reduceCtorEq, Nat.reduceLT, Nat.reduceAdd, Nat.reduceSub, Nat.reduceMul, Nat.reduceLeDiff, Int.reduceLT, Int.reduceLE, Int.reduceToNat, Int.reduceEq, Int.reduceAdd, Int.reduceSub, Int.reduceNeg, Int.reduceBNe, Int.reduceBEq, h, List.take_length, sized_bytes, bytesPV_len, hbo, hro, hq]
  · rw [decide_eq_false h40] at hT
    refine PL.Pure.of_v Try.func90 (by decide) rfl Try.ntmps90 Try.results90 (by simp) (quoteC_dids _) ?_
    simp only [go_sem, reduceIte, Nat.reduceEqDiff, reduceCtorEq, Nat.reduceLT, Nat.reduceAdd, Nat.reduceSub, Nat.reduceMul, Nat.reduceLeDiff, Int.reduceLT, Int.reduceLE, Int.reduceToNat, Int.reduceEq, Int.reduceAdd, Int.reduceSub, Int.reduceNeg, Int.reduceBNe, Int.reduceBEq]
    refine vCall_of (hT) ?_ ?_ ?_; (focus simp only [go_sem, reduceIte, Nat.reduceEqDiff, reduceCtorEq, Nat.reduceLT, Nat.reduceAdd, Nat.reduceSub, Nat.reduceMul, Nat.reduceLeDiff, Int.reduceLT, Int.reduceLE, Int.reduceToNat, Int.reduceEq, Int.reduceAdd, Int.reduceSub, Int.reduceNeg, Int.reduceBNe, Int.reduceBEq]); (focus simp only [go_sem, reduceIte, Nat.reduceEqDiff, reduceCtorEq, Nat.reduceLT, Nat.reduceAdd, Nat.reduceSub, Nat.reduceMul, Nat.reduceLeDiff, Int.reduceLT, Int.reduceLE, Int.reduceToNat, Int.reduceEq, Int.reduceAdd, Int.reduceSub, Int.reduceNeg, Int.reduceBNe, Int.reduceBEq])
    simp only [go_sem, reduceIte, Nat.reduceEqDiff, reduceCtorEq, Nat.reduceLT, Nat.reduceAdd, Nat.reduceSub, Nat.reduceMul, Nat.reduceLeDiff, Int.reduceLT, Int.reduceLE, Int.reduceToNat, Int.reduceEq, Int.reduceAdd, Int.reduceSub, Int.reduceNeg, Int.reduceBNe, Int.reduceBEq, quoteC, h40]
