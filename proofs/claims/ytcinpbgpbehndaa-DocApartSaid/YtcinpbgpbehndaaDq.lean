/- Contracts of functions and laws of this seat, each for every input that it names: lemmas of the proof. -/
import Derived.Test.YtcinpbgpbehndaaDp
set_option linter.unusedSimpArgs false
set_option linter.unusedVariables false
set_option linter.unusedSimpArgs false
set_option linter.unusedVariables false
namespace Go.Proofs.Ytcinpbgpbehndaa
open Go.PL
open Go.RowKit
def dg (n : Nat) : Str := if h : n < 10 then [UInt8.ofNat (48 + n)] else dg (n / 10) ++ [UInt8.ofNat (48 + n % 10)]
termination_by n
decreasing_by omega
def printZ (n : Int) : Str := if n < 0 then 45 :: dg n.natAbs else dg n.natAbs
theorem idsL_bytes (l : Str) : PV.idsL (bytesPV l) = [] := by
  induction l with
  | nil => rfl
  | cons c l ih => simp only [bytesPV, List.map_cons, PV.idsL, PV.ids, List.nil_append] at ih ⊢; exact ih
structure NI (N : Nat) where
  at' : Nat
  left : Nat
  l : Str
  hl : l.length = 20
  h2 : 2 ≤ at'
  h20 : at' ≤ 20
  hb : left < 10 ^ (at' - 1)
  hd : dg N = dg left ++ l.drop at'
theorem pow_le19 {a : Nat} (h : a ≤ 20) : 10 ^ (a - 1) ≤ 10 ^ 19 := Nat.pow_le_pow_right (by omega) (by omega)
theorem set_bytes (l : Str) (i : Nat) (v : UInt8) : (bytesPV l).take i ++ PV.int .u8 (v.toNat : Int) :: (bytesPV l).drop (i + 1) = if i < l.length then bytesPV (l.set i v) else bytesPV l ++ [PV.int .u8 (v.toNat : Int)] := by
  split
  · rename_i h
    simp only [bytesPV, List.map_set, ← List.map_take, ← List.map_drop]
    rw [List.set_eq_take_append_cons_drop, if_pos (by simpa using h)]
    simp
  · rename_i h
    rw [List.take_of_length_le (by simp [bytesPV]; omega), List.drop_of_length_le (by simp [bytesPV]; omega)]
theorem set_bytes2 (l : Str) (i : Nat) (v : UInt8) (h : i < l.length) : (bytesPV l).take i ++ [PV.int .u8 (v.toNat : Int)] ++ (bytesPV l).drop (i + 1) = bytesPV (l.set i v) := by
  have := set_bytes l i v
  rw [if_pos h] at this
  rw [← this]; simp
theorem bytesOf_tail (l : Str) (i : Nat) (h : l.length = 20) : bytesOf (((bytesPV l).drop i).take (20 - i)) = some (l.drop i) := by
  have e : ((bytesPV l).drop i).take (20 - i) = bytesPV (l.drop i) := by
    rw [List.take_of_length_le (by simp [bytesPV]; omega)]; simp [bytesPV]
  rw [e, bytesOf_bytesPV]
theorem drop_set (l : Str) (i : Nat) (v : UInt8) (h : i < l.length) : (l.set i v).drop i = v :: l.drop (i + 1) := by
  rw [List.set_eq_take_append_cons_drop, if_pos h, List.drop_append_of_le_length (by simp; omega), List.drop_of_length_le (by simp; omega)]
  simp
theorem digit_toNat (x : Nat) : ((UInt8.ofNat (48 + x % 10)).toNat : Int) = 48 + (x : Int) % 10 := by
  rw [UInt8.toNat_ofNat']
  have : x % 10 < 10 := Nat.mod_lt _ (by omega)
  rw [Nat.mod_eq_of_lt (by omega)]
  omega
theorem dg_step {x : Nat} (h : ¬ x < 10) : dg x = dg (x / 10) ++ [UInt8.ofNat (48 + x % 10)] := by rw [dg, dif_neg h]
theorem dg_small {x : Nat} (h : x < 10) : dg x = [UInt8.ofNat (48 + x % 10)] := by rw [dg, dif_pos h, Nat.mod_eq_of_lt h]
theorem wu64 {x : Int} (h : 0 ≤ x ∧ x ≤ 18446744073709551615) : IntKind.u64.wrap x = x := by
  show x % (2 ^ 64 : Int) = x
  omega
theorem wu8 {x : Int} (h : 0 ≤ x ∧ x ≤ 255) : IntKind.u8.wrap x = x := by
  show x % (2 ^ 8 : Int) = x
  omega
theorem wneg {n : Int} (h : -9223372036854775808 ≤ n) (h' : n < 0) : IntKind.u64.wrap (0 - IntKind.u64.wrap n) = (n.natAbs : Int) := by
  show (0 - (n % (2 ^ 64 : Int))) % (2 ^ 64 : Int) = _
  omega
theorem wpos {n : Int} (h : n ≤ 9223372036854775807) (h' : ¬ n < 0) : IntKind.u64.wrap n = (n.natAbs : Int) := by
  rw [wu64 (by omega)]; omega
theorem zeros20 : bytesPV (List.replicate 20 0) = [.int .u8 0, .int .u8 0, .int .u8 0, .int .u8 0, .int .u8 0, .int .u8 0, .int .u8 0, .int .u8 0, .int .u8 0, .int .u8 0, .int .u8 0, .int .u8 0, .int .u8 0, .int .u8 0, .int .u8 0, .int .u8 0, .int .u8 0, .int .u8 0, .int .u8 0, .int .u8 0] := by rfl
theorem NI.next {N : Nat} (x : NI N) (h : ¬ x.left < 10) : ∃ y : NI N, y.at' = x.at' - 1 ∧ y.left = x.left / 10 ∧ y.l = x.l.set (x.at' - 1) (UInt8.ofNat (48 + x.left % 10)) := by
  have h2 := x.h2
  have h20 := x.h20
  have hb := x.hb
  have hp : 10 ^ (x.at' - 1) = 10 ^ (x.at' - 1 - 1) * 10 := by
    conv => lhs; rw [show x.at' - 1 = (x.at' - 1 - 1) + 1 by omega, Nat.pow_succ]
  have hb' : x.left / 10 < 10 ^ (x.at' - 1 - 1) := by rw [hp] at hb; omega
  have h3 : 3 ≤ x.at' := by
    by_cases e : x.at' = 2
    · rw [e] at hb; omega
    · omega
  refine ⟨⟨x.at' - 1, x.left / 10, x.l.set (x.at' - 1) (UInt8.ofNat (48 + x.left % 10)), by simp [x.hl], by omega, by omega, hb', ?_⟩, rfl, rfl, rfl⟩
  rw [drop_set _ _ _ (by have := x.hl; omega), x.hd, dg_step h, show x.at' - 1 + 1 = x.at' by omega]
  simp
set_option maxRecDepth 20000 in
set_option maxHeartbeats 8000000 in
theorem NPrint_pure (n : Int) (h1 : -9223372036854775808 ≤ n) (h2 : n ≤ 9223372036854775807) : PL.Pure Try.prog 89 [.int .i64 n] (.str (printZ n)) := by
  refine PL.Pure.of_v Try.func89 (by decide) rfl Try.ntmps89 Try.results89 (by simp) rfl ?_
  simp only [go_sem, reduceIte, Nat.reduceEqDiff, reduceCtorEq, Nat.reduceLT, Nat.reduceAdd, Nat.reduceSub, Nat.reduceMul, Nat.reduceLeDiff, Int.reduceLT, Int.reduceLE, Int.reduceToNat, Int.reduceEq, Int.reduceAdd, Int.reduceSub, Int.reduceNeg, Int.reduceBNe, Int.reduceBEq]
  refine vScopeM (ι := NI n.natAbs) 33 (fun x => [(0, .int .i64 n), (3, .ptr 3 0), (4, .int .i64 (x.at' : Int)), (5, .int .u64 (x.left : Int))]) (fun x => [(3, bytesPV x.l, false)]) (fun x => []) (fun x => x.left) 0 _ (by exact rfl) (fun x => ⟨(forall_cons rfl (forall_cons rfl (forall_cons rfl (forall_cons rfl (forall_nil))))), forall_cons (by show (PV.idsL (bytesPV x.l)).all _ = true; rw [idsL_bytes]; rfl) forall_nil⟩) (fun x => ?_) (fun cut => ?_)
  · have g2 := x.h2
    have g20 := x.h20
    have gl := x.hl
    have gb := x.hb
    have gp := pow_le19 g20
    have w1 : IntKind.i64.wrap ((x.at' : Int) - 1) = ((x.at' - 1 : Nat) : Int) := by rw [w64 (by omega)]; omega
    have r1 : (x.left : Int).tmod 10 = ((x.left % 10 : Nat) : Int) := rfl
    have r2 : IntKind.u64.wrap ((x.left % 10 : Nat) : Int) = ((x.left % 10 : Nat) : Int) := wu64 (by omega)
    have r3 : IntKind.u8.wrap ((x.left % 10 : Nat) : Int) = ((x.left % 10 : Nat) : Int) := wu8 (by omega)
    have r4 : IntKind.u8.wrap (48 + ((x.left % 10 : Nat) : Int)) = ((UInt8.ofNat (48 + x.left % 10)).toNat : Int) := by rw [digit_toNat, wu8 (by omega)]; omega
    have q1 : (x.left : Int).tdiv 10 = ((x.left / 10 : Nat) : Int) := rfl
    have q2 : IntKind.u64.wrap ((x.left / 10 : Nat) : Int) = ((x.left / 10 : Nat) : Int) := wu64 (by omega)
    have lt1 : x.at' - 1 < x.l.length := by omega
    have s1 := set_bytes2 x.l (x.at' - 1) (UInt8.ofNat (48 + x.left % 10)) lt1
    simp only [go_sem, reduceIte, Nat.reduceEqDiff, reduceCtorEq, Nat.reduceLT, Nat.reduceAdd, Nat.reduceSub, Nat.reduceMul, Nat.reduceLeDiff, Int.reduceLT, Int.reduceLE, Int.reduceToNat, Int.reduceEq, Int.reduceAdd, Int.reduceSub, Int.reduceNeg, Int.reduceBNe, Int.reduceBEq, w1, r1, r2, r3, r4, q1, q2, s1, Int.toNat_natCast, Nat.mul_one, Nat.zero_add]
    refine ⟨⟨by omega, by omega⟩, by rw [bytesPV_len]; omega, ?_⟩
    by_cases h : x.left < 10
    · have z1 : ¬ (0 : Int) < ((x.left / 10 : Nat) : Int) := by omega
      by_cases hn : n < 0
      · have w2 : IntKind.i64.wrap (((x.at' - 1 : Nat) : Int) - 1) = ((x.at' - 2 : Nat) : Int) := by rw [w64 (by omega)]; omega
        have lt2 : x.at' - 2 < (x.l.set (x.at' - 1) (UInt8.ofNat (48 + x.left % 10))).length := by rw [List.length_set]; omega
        have s2 := set_bytes2 (x.l.set (x.at' - 1) (UInt8.ofNat (48 + x.left % 10))) (x.at' - 2) 45 lt2
        have bt2 := bytesOf_tail ((x.l.set (x.at' - 1) (UInt8.ofNat (48 + x.left % 10))).set (x.at' - 2) 45) (x.at' - 2) (by simp [gl])
        have bl2 : (bytesPV (x.l.set (x.at' - 1) (UInt8.ofNat (48 + x.left % 10)))).length = 20 := by rw [bytesPV_len]; simp [gl]
        have pz : printZ n = ((x.l.set (x.at' - 1) (UInt8.ofNat (48 + x.left % 10))).set (x.at' - 2) 45).drop (x.at' - 2) := by
          rw [drop_set _ _ _ lt2, show x.at' - 2 + 1 = x.at' - 1 by omega, drop_set _ _ _ lt1, show x.at' - 1 + 1 = x.at' by omega, printZ, if_pos hn, x.hd, dg_small h]; rfl
        have c45 : (PV.int .u8 45) = PV.int .u8 ((45 : UInt8).toNat : Int) := rfl
        simp only [go_sem, reduceIte, Nat.reduceEqDiff, reduceCtorEq, Nat.reduceLT, Nat.reduceAdd, Nat.reduceSub, Nat.reduceMul, Nat.reduceLeDiff, Int.reduceLT, Int.reduceLE, Int.reduceToNat, Int.reduceEq, Int.reduceAdd, Int.reduceSub, Int.reduceNeg, Int.reduceBNe, Int.reduceBEq, z1, hn, w2, c45, s1, s2, bt2, bl2, pz, Int.toNat_natCast, Nat.mul_one, Nat.zero_add]
        refine ⟨⟨by omega, by omega⟩, by omega, ⟨by omega, by omega⟩, by rw [bytesPV_len]; simp [gl]; omega⟩
      · have bt2 := bytesOf_tail (x.l.set (x.at' - 1) (UInt8.ofNat (48 + x.left % 10))) (x.at' - 1) (by simp [gl])
        have bl2 : (bytesPV (x.l.set (x.at' - 1) (UInt8.ofNat (48 + x.left % 10)))).length = 20 := by rw [bytesPV_len]; simp [gl]
        have pz : printZ n = (x.l.set (x.at' - 1) (UInt8.ofNat (48 + x.left % 10))).drop (x.at' - 1) := by
          rw [drop_set _ _ _ lt1, show x.at' - 1 + 1 = x.at' by omega, printZ, if_neg hn, x.hd, dg_small h]; rfl
        simp only [go_sem, reduceIte, Nat.reduceEqDiff, reduceCtorEq, Nat.reduceLT, Nat.reduceAdd, Nat.reduceSub, Nat.reduceMul, Nat.reduceLeDiff, Int.reduceLT, Int.reduceLE, Int.reduceToNat, Int.reduceEq, Int.reduceAdd, Int.reduceSub, Int.reduceNeg, Int.reduceBNe, Int.reduceBEq, z1, hn, s1, bt2, bl2, pz, Int.toNat_natCast, Nat.mul_one, Nat.zero_add]
        refine ⟨⟨by omega, by omega⟩, by omega⟩
    · have z1 : (0 : Int) < ((x.left / 10 : Nat) : Int) := by omega
      obtain ⟨y, y1, y2, y3⟩ := x.next h
      simp only [go_sem, reduceIte, Nat.reduceEqDiff, reduceCtorEq, Nat.reduceLT, Nat.reduceAdd, Nat.reduceSub, Nat.reduceMul, Nat.reduceLeDiff, Int.reduceLT, Int.reduceLE, Int.reduceToNat, Int.reduceEq, Int.reduceAdd, Int.reduceSub, Int.reduceNeg, Int.reduceBNe, Int.reduceBEq, z1]
      refine ⟨y, by show y.left < x.left; rw [y2]; omega, ⟨rfl, ?_, ?_, forall_nil⟩⟩
      · exact forall_cons rfl (forall_cons rfl (forall_cons (by show PV.int _ _ = PV.int _ (y.at' : Int); rw [y1]) (forall_cons (by show PV.int _ _ = PV.int _ (y.left : Int); rw [y2]) forall_nil)))
      · exact forall_cons ⟨by show some _ = some (bytesPV y.l); rw [y3], rfl⟩ forall_nil
  · by_cases hn : n < 0
    · simp only [go_sem, reduceIte, Nat.reduceEqDiff, reduceCtorEq, Nat.reduceLT, Nat.reduceAdd, Nat.reduceSub, Nat.reduceMul, Nat.reduceLeDiff, Int.reduceLT, Int.reduceLE, Int.reduceToNat, Int.reduceEq, Int.reduceAdd, Int.reduceSub, Int.reduceNeg, Int.reduceBNe, Int.reduceBEq, hn, wneg h1 hn]
      refine awp_label_seq (cut ⟨20, n.natAbs, List.replicate 20 0, rfl, by omega, by omega, by omega, by simp⟩ _ ?_)
      exact ⟨rfl, (forall_cons rfl (forall_cons rfl (forall_cons rfl (forall_cons rfl (forall_nil))))), forall_cons ⟨rfl, rfl⟩ forall_nil, forall_nil⟩
    · simp only [go_sem, reduceIte, Nat.reduceEqDiff, reduceCtorEq, Nat.reduceLT, Nat.reduceAdd, Nat.reduceSub, Nat.reduceMul, Nat.reduceLeDiff, Int.reduceLT, Int.reduceLE, Int.reduceToNat, Int.reduceEq, Int.reduceAdd, Int.reduceSub, Int.reduceNeg, Int.reduceBNe, Int.reduceBEq, hn, wpos h2 hn]
      refine awp_label_seq (cut ⟨20, n.natAbs, List.replicate 20 0, rfl, by omega, by omega, by omega, by simp⟩ _ ?_)
      exact ⟨rfl, (forall_cons rfl (forall_cons rfl (forall_cons rfl (forall_cons rfl (forall_nil))))), forall_cons ⟨rfl, rfl⟩ forall_nil, forall_nil⟩
