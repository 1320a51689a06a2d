/- Contracts of functions and laws of this seat, each for every input that it names: lemmas of the proof. -/
import Derived.Test.YtmnibpgmcgdfpaaXAm
import Derived.Test.YtmnibpgmcgdfpaaXAa
import Derived.Lib.Strings
set_option linter.unusedSimpArgs false
set_option linter.unusedVariables false
set_option linter.unusedSimpArgs false
set_option linter.unusedVariables false
namespace Go.Proofs.Ytmnibpgmcgdfpaa
open Go.PL
def plainB (n : Int) : Bool := decide (32 ≤ n) && (decide (n ≤ 126) && ((n != 34) && (n != 92)))
set_option maxHeartbeats 1000000 in
theorem plain_pure (n : Int) : PL.Pure Try.prog 122 [.int .u8 n] (.bool (plainB n)) := by
  refine PL.Pure.of_v Try.func122 (by decide) rfl Try.ntmps122 Try.results122 (by simp) rfl ?_
  simp only [go_sem]
  repeat' (first | (refine vGuard_t (fun h => ?_) (fun h => ?_) <;> (try simp only [go_sem, h])) | (refine vGuard_f (fun h => ?_) (fun h => ?_) <;> (try simp only [go_sem, h])) | (refine vCond_b (fun h => ?_) (fun h => ?_) <;> (try simp only [go_sem, h])) | ((refine vDrawQ (by kernel_rfl) (by kernel_rfl) ?_); (try simp only [go_sem])))
  all_goals (simp_all [plainB]; try omega)
def digs : List UInt8 := [48, 49, 50, 51, 52, 53, 54, 55, 56, 57, 97, 98, 99, 100, 101, 102]
def hiN (c : UInt8) : Nat := c.toNat / 16
def loN (c : UInt8) : Nat := c.toNat % 16
def esc (c : UInt8) : Str := if plainB c.toNat = true then [c] else [92, digs.getD (hiN c) 0, digs.getD (loN c) 0]
def escs (s : Str) : Str := (s.map esc).flatten
theorem shr_hi (c : UInt8) : ((c.toNat : Int).fdiv 16) = ((hiN c : Nat) : Int) := by
  unfold hiN
  rw [Int.fdiv_eq_ediv_of_nonneg _ (by omega)]
  omega
theorem and_lo (c : UInt8) : IntKind.u8.wrap (((BitVec.ofInt 8 (c.toNat : Int)) &&& (BitVec.ofInt 8 15)).toNat : Int) = ((loN c : Nat) : Int) := by
  have key : ∀ n : Fin 256, IntKind.u8.wrap (((BitVec.ofInt 8 (n.val : Int)) &&& (BitVec.ofInt 8 15)).toNat : Int) = ((n.val % 16 : Nat) : Int) := by decide +kernel
  exact key ⟨c.toNat, c.toNat_lt⟩
theorem shr_hi2 (c : UInt8) : ((c.toNat : Int).fdiv (2 ^ min 4 8)) = ((hiN c : Nat) : Int) := shr_hi c
theorem hi_lt (c : UInt8) : hiN c < 16 := by unfold hiN; have := c.toNat_lt; omega
theorem lo_lt (c : UInt8) : loN c < 16 := by unfold loN; omega
theorem bytesOf_bytesPV (l : Str) : bytesOf (bytesPV l) = some l := by
  induction l with
  | nil => rfl
  | cons c l ih =>
    have h := c.toNat_lt
    simp only [bytesPV, List.map_cons] at ih ⊢
    unfold bytesOf
    rw [if_pos (by omega), ih]
    simp

theorem sized_bytes (l : Str) : Sized 1 (bytesPV l) := fun e he => by
  obtain ⟨x, _, rfl⟩ := List.mem_map.1 he; rfl
theorem escs_snoc (s : Str) (c : UInt8) : escs (s ++ [c]) = escs s ++ esc c := by simp [escs]
theorem esc_len (c : UInt8) : (esc c).length ≤ 3 := by unfold esc; split <;> simp
theorem escs_len (s : Str) : (escs s).length ≤ 3 * s.length := by
  induction s with
  | nil => simp [escs]
  | cons c s ih =>
    have := esc_len c
    simp only [escs, List.map_cons, List.flatten_cons, List.length_append, List.length_cons] at ih ⊢
    omega
def quoteC (s : Str) : PV := if (s.length : Int) ≤ 40 then .tup [.str ([34] ++ escs s ++ [34]), .int .i64 0] else .tup [.str [], .int .i64 14]
theorem quoteC_dids (s : Str) : (quoteC s).dids = [] := by unfold quoteC; split <;> rfl
theorem bytesPV_len (l : Str) : (bytesPV l).length = l.length := by simp [bytesPV]
theorem bytesPV_append (a b : Str) : bytesPV (a ++ b) = bytesPV a ++ bytesPV b := by simp [bytesPV]
structure QI (s : Str) where
  k : Nat
  hk : k ≤ s.length
  id : Nat
  hid : id = 9 ∨ id = 24 ∨ id = 37
set_option maxRecDepth 20000 in
set_option maxHeartbeats 8000000 in
theorem Quote_pure (s : Str) : PL.Pure Try.prog 95 [.str s] (quoteC s) := by
  have hT := Text_pure s
  by_cases h40 : (s.length : Int) ≤ 40
  · rw [decide_eq_true h40] at hT
    refine PL.Pure.of_v Try.func95 (by decide) rfl Try.ntmps95 Try.results95 (by simp) (quoteC_dids _) ?_
    simp only [go_sem]
    refine vCall_of (hT) ?_ ?_ ?_; (focus simp only [go_sem]); (focus simp only [go_sem])
    simp only [go_sem]
    refine vLoopM (ι := QI s) 43 (fun x => [(0, .str s), (4, .sl (.row x.id) (bytesPV (34 :: escs (s.take x.k)))), (11, .int .i64 (s.length : Int)), (12, .int .i64 (x.k : Int))]) (fun x => []) (fun x => [(x.id, .live (34 :: escs (s.take x.k)).length 1 5)]) (fun x => s.length - x.k) ⟨0, by omega, 9, .inl rfl⟩
      ⟨rfl, (forall_cons rfl (forall_cons rfl (forall_cons rfl (forall_cons rfl (forall_nil))))), forall_nil, (forall_cons rfl (forall_nil))⟩ (fun x => ⟨forall_cons rfl (forall_cons (by simp [PV.ids, refInM]) (forall_cons rfl (forall_cons rfl (forall_nil)))), forall_nil⟩) (fun x => ?_)
    obtain ⟨k, hk, id, hid⟩ := x
    simp only
    by_cases h : (k : Int) < (s.length : Int)
    · have hka : k < s.length := by omega
      have w1 : IntKind.i64.wrap ((k : Int) + 1) = ((k + 1 : Nat) : Int) := by rw [w64 (by omega)]; rfl
      have i1 : (0 : Int) ≤ (k : Int) := by omega
      have hP := plain_pure ((s.getD k 0).toNat : Int)
      have hs : escs (s.take (k + 1)) = escs (s.take k) ++ esc (s.getD k 0) := by rw [take_snoc hka (d := 0), escs_snoc]
      have hlen := escs_len (s.take k)
      have hlen2 : (s.take k).length ≤ k := List.length_take_le _ _
      cases hp : plainB ((s.getD k 0).toNat : Int)
      · rw [hp] at hP
        rcases hid with rfl | rfl | rfl
        all_goals
          simp only [go_sem, h, i1]
          refine vCall_of (hP) ?_ ?_ ?_; (focus simp only [go_sem]); (focus simp only [go_sem])
          simp only [go_sem]
          refine vDrawQ (by kernel_rfl) (by kernel_rfl) ?_
          simp only [go_sem, h, i1, shr_hi2]
          erw [and_lo]
          have h1 := hi_lt (s.getD k 0)
          have h2 := lo_lt (s.getD k 0)
          have he : esc (s.getD k 0) = [92, digs.getD (hiN (s.getD k 0)) 0, digs.getD (loN (s.getD k 0)) 0] := by simp only [esc, hp]; rfl
          have hb : bytesPV (34 :: escs (s.take k)) ++ bytesPV (esc (s.getD k 0)) = bytesPV (34 :: escs (s.take (k + 1))) := by rw [hs, ← bytesPV_append]; rfl
          have hlL : (34 :: escs (s.take (k + 1))).length = (bytesPV (34 :: escs (s.take k))).length + 3 := by rw [hs, he, bytesPV_len]; simp
          rw [he] at hb
          refine ⟨⟨by omega, by omega⟩, by omega, ⟨by rw [bytesPV_len]; rfl, sized_bytes _, room_small (by rw [bytesPV_len]; simp only [List.length_cons]; omega) (by omega)⟩, ?_⟩
          exact ⟨⟨k + 1, by omega, 37, .inr (.inr rfl)⟩, by show s.length - (k + 1) < s.length - k; omega, ⟨rfl, forall_cons rfl (forall_cons (congrArg (PV.sl (.row 37)) hb) (forall_cons rfl (forall_cons (by rw [w1]; rfl) forall_nil))), forall_nil, forall_cons (congrArg (fun n => some (Row.live n 1 5)) hlL.symm) forall_nil⟩⟩
      · rw [hp] at hP
        rcases hid with rfl | rfl | rfl
        all_goals
          simp only [go_sem, h, i1]
          refine vCall_of (hP) ?_ ?_ ?_; (focus simp only [go_sem]); (focus simp only [go_sem])
          simp only [go_sem, h, i1, sized_bytes, w1]
          have he : esc (s.getD k 0) = [s.getD k 0] := by simp only [esc, hp]; rfl
          have hb : bytesPV (34 :: escs (s.take k)) ++ bytesPV (esc (s.getD k 0)) = bytesPV (34 :: escs (s.take (k + 1))) := by rw [hs, ← bytesPV_append]; rfl
          have hlL : (34 :: escs (s.take (k + 1))).length = (bytesPV (34 :: escs (s.take k))).length + 1 := by rw [hs, he, bytesPV_len]; simp
          rw [he] at hb
          refine ⟨⟨by rw [bytesPV_len]; rfl, room_small (by rw [bytesPV_len]; simp only [List.length_cons]; omega) (by omega)⟩, ?_⟩
          exact ⟨⟨k + 1, by omega, 24, .inr (.inl rfl)⟩, by show s.length - (k + 1) < s.length - k; omega, ⟨rfl, forall_cons rfl (forall_cons (congrArg (PV.sl (.row 24)) hb) (forall_cons rfl (forall_cons rfl forall_nil))), forall_nil, forall_cons (congrArg (fun n => some (Row.live n 1 5)) hlL.symm) forall_nil⟩⟩
    · obtain rfl : k = s.length := by omega
      have hlen := escs_len s
      have hb : bytesPV (34 :: escs s) ++ bytesPV [34] = bytesPV ([34] ++ escs s ++ [34]) := by rw [← bytesPV_append]; rfl
      have hbo : bytesOf (bytesPV (34 :: escs s) ++ [PV.int .u8 34]) = some ([34] ++ escs s ++ [34]) := by
        have := bytesOf_bytesPV ([34] ++ escs s ++ [34])
        rw [← hb] at this
        exact this
      have hro := room_small (show (escs s).length + 1 + 1 ≤ 100000000000 by omega) (show 1 ≤ 1000 by omega)
      have hq : quoteC s = .tup [.str ([34] ++ escs s ++ [34]), .int .i64 0] := by simp only [quoteC, h40, if_true]
      rcases hid with rfl | rfl | rfl
      all_goals
        simp only [go_sem, h, List.take_length, sized_bytes, bytesPV_len, hbo, hro, hq]
  · rw [decide_eq_false h40] at hT
    refine PL.Pure.of_v Try.func95 (by decide) rfl Try.ntmps95 Try.results95 (by simp) (quoteC_dids _) ?_
    simp only [go_sem]
    refine vCall_of (hT) ?_ ?_ ?_; (focus simp only [go_sem]); (focus simp only [go_sem])
    simp only [go_sem, quoteC, h40]
end Go.Proofs.Ytmnibpgmcgdfpaa

set_option linter.unusedSimpArgs false
set_option linter.unusedVariables false
set_option linter.unusedSimpArgs false
set_option linter.unusedVariables false
namespace Go.Proofs.Ytmnibpgmcgdfpaa
open Go.PL
open Go.RowKit
theorem Join_pure (l : List Str) (sep : Str) (hN : l.length ≤ 140737488355328) (hlen : (Lib.join l sep).length ≤ 140737488355328) : PL.Pure Try.prog 96 [strs l, .str sep] (.str (Lib.join l sep)) := by
  refine ⟨⟨_, Try.func96, by decide, rfl⟩, rfl, fun w S vs hst _ hl hr => ?_⟩
  match vs, hl with
  | [v0, v1], _ =>
    have r0 : Rep S v0 (.sl .no (l.map .str)) := hr 0 (by simp)
    have r1 : Rep S v1 (.str sep) := hr 1 (by simp)
    have e1 : v1 = .string ⟨⟨sep⟩⟩ := by cases r1; rfl
    subst e1
    have fin : ∀ (e : Ending) (w' : World), e = .returned (.string ⟨(Lib.join l sep).toArray⟩) ∧ Below w.heap.size w w' → ∃ v S', e = .returned v ∧ Rep S' v (.str (Lib.join l sep)) ∧ StabS S' w' ∧ SLe S S' ∧ (∀ b, b < w.heap.size → (∀ o, S' b o = S b o) ∧ S'.m b = S.m b) ∧ Below w.heap.size w w' := by
      rintro e w' ⟨rfl, hb⟩
      exact ⟨_, S, rfl, .str _, hst.old fun k hk => hb.block k hk, SLe.refl S, fun _ _ => ⟨fun _ => rfl, rfl⟩, hb⟩
    generalize he : l.map PV.str = es at r0
    cases r0 with
    | sl0 a cap =>
      have hl0 : l = [] := by simpa using he
      subst hl0
      exact (strJoin_none a cap ⟨⟨sep⟩⟩ w).mono fun e w' ⟨h1, h2⟩ => fin e w' ⟨h1, h2 ▸ Below.refl _ _⟩
    | sl b o cap sz _ vals hsz hcap hS hR =>
      subst he
      have hxs : (l.map fun s => (⟨⟨s⟩⟩ : ByteArray)).map (·.data.toList) = l := by simp [Function.comp_def]
      have hcells : ∀ (j : Nat) x, (l.map fun s => (⟨⟨s⟩⟩ : ByteArray))[j]? = some x → w.cell? ⟨b, o + j, none⟩ = some (.string x) := by
        intro j x hj
        have hjl : j < l.length := by
          have := (List.getElem?_eq_some_iff.1 hj).1
          simpa using this
        have hx : x = ⟨⟨l.getD j []⟩⟩ := by
          rw [List.getElem?_eq_getElem (by simpa using hjl)] at hj
          simp only [List.getElem_map, Option.some.injEq] at hj
          rw [← hj, List.getD_eq_getElem?_getD, List.getElem?_eq_getElem hjl]; rfl
        subst hx
        have hjm : j < (l.map PV.str).length := by simpa using hjl
        have s1 : sz = 1 := by have := hsz j hjm; rw [getD_str hjl] at this; simpa [PV.cells] using this.symm
        subst s1
        have r := hR j 0 hjm (by omega)
        rw [getD_str hjl] at r
        have e2 : vals j 0 = .string ⟨⟨l.getD j []⟩⟩ := (RepS.clean (M := ⟨id, id, id⟩) (q := fun _ => none) r).str_inv
        have := hst.c _ _ _ (hS j 0 hjm (by omega))
        rw [e2, Nat.mul_one, Nat.add_zero] at this
        exact this
      by_cases h0 : l = []
      · subst h0
        exact (strJoin_none (some ⟨b, o, none⟩) cap ⟨⟨sep⟩⟩ w).mono fun e w' ⟨h1, h2⟩ => fin e w' ⟨h1, h2 ▸ Below.refl _ _⟩
      · have hpos : 0 < l.length := List.length_pos_iff.2 h0
        have hbk : b < w.heap.size := cell_lt (hcells 0 _ (List.getElem?_eq_getElem (by simpa using hpos)))
        have key := strJoin b o cap (l.map fun s => (⟨⟨s⟩⟩ : ByteArray)) ⟨⟨sep⟩⟩ w hcells hbk (by simpa using hN) (by simpa using hcap) (by rw [hxs]; exact hlen)
        rw [hxs, List.length_map] at key
        rw [List.length_map]
        exact key.mono fin
end Go.Proofs.Ytmnibpgmcgdfpaa

set_option linter.unusedSimpArgs false
set_option linter.unusedVariables false
set_option linter.unusedSimpArgs false
set_option linter.unusedVariables false
namespace Go.Proofs.Ytmnibpgmcgdfpaa
open Go.PL
open Go.RowKit
def dg (n : Nat) : Str := if h : n < 10 then [UInt8.ofNat (48 + n)] else dg (n / 10) ++ [UInt8.ofNat (48 + n % 10)]
termination_by n
decreasing_by omega
def printZ (n : Int) : Str := if n < 0 then 45 :: dg n.natAbs else dg n.natAbs
theorem idsL_bytes (l : Str) : PV.idsL (bytesPV l) = [] := by
  induction l with
  | nil => rfl
  | cons c l ih => simp only [bytesPV, List.map_cons, PV.idsL, PV.ids, List.nil_append] at ih ⊢; exact ih
structure NI (N : Nat) where
  at' : Nat
  left : Nat
  l : Str
  hl : l.length = 20
  h2 : 2 ≤ at'
  h20 : at' ≤ 20
  hb : left < 10 ^ (at' - 1)
  hd : dg N = dg left ++ l.drop at'
theorem pow_le19 {a : Nat} (h : a ≤ 20) : 10 ^ (a - 1) ≤ 10 ^ 19 := Nat.pow_le_pow_right (by omega) (by omega)
theorem set_bytes (l : Str) (i : Nat) (v : UInt8) : (bytesPV l).take i ++ PV.int .u8 (v.toNat : Int) :: (bytesPV l).drop (i + 1) = if i < l.length then bytesPV (l.set i v) else bytesPV l ++ [PV.int .u8 (v.toNat : Int)] := by
  split
  · rename_i h
    simp only [bytesPV, List.map_set, ← List.map_take, ← List.map_drop]
    rw [List.set_eq_take_append_cons_drop, if_pos (by simpa using h)]
    simp
  · rename_i h
    rw [List.take_of_length_le (by simp [bytesPV]; omega), List.drop_of_length_le (by simp [bytesPV]; omega)]
theorem set_bytes2 (l : Str) (i : Nat) (v : UInt8) (h : i < l.length) : (bytesPV l).take i ++ [PV.int .u8 (v.toNat : Int)] ++ (bytesPV l).drop (i + 1) = bytesPV (l.set i v) := by
  have := set_bytes l i v
  rw [if_pos h] at this
  rw [← this]; simp
theorem bytesOf_tail (l : Str) (i : Nat) (h : l.length = 20) : bytesOf (((bytesPV l).drop i).take (20 - i)) = some (l.drop i) := by
  have e : ((bytesPV l).drop i).take (20 - i) = bytesPV (l.drop i) := by
    rw [List.take_of_length_le (by simp [bytesPV]; omega)]; simp [bytesPV]
  rw [e, bytesOf_bytesPV]
theorem drop_set (l : Str) (i : Nat) (v : UInt8) (h : i < l.length) : (l.set i v).drop i = v :: l.drop (i + 1) := by
  rw [List.set_eq_take_append_cons_drop, if_pos h, List.drop_append_of_le_length (by simp; omega), List.drop_of_length_le (by simp; omega)]
  simp
theorem digit_toNat (x : Nat) : ((UInt8.ofNat (48 + x % 10)).toNat : Int) = 48 + (x : Int) % 10 := by
  rw [UInt8.toNat_ofNat']
  have : x % 10 < 10 := Nat.mod_lt _ (by omega)
  rw [Nat.mod_eq_of_lt (by omega)]
  omega
theorem dg_step {x : Nat} (h : ¬ x < 10) : dg x = dg (x / 10) ++ [UInt8.ofNat (48 + x % 10)] := by rw [dg, dif_neg h]
theorem dg_small {x : Nat} (h : x < 10) : dg x = [UInt8.ofNat (48 + x % 10)] := by rw [dg, dif_pos h, Nat.mod_eq_of_lt h]
theorem wu64 {x : Int} (h : 0 ≤ x ∧ x ≤ 18446744073709551615) : IntKind.u64.wrap x = x := by
  show x % (2 ^ 64 : Int) = x
  omega
theorem wu8 {x : Int} (h : 0 ≤ x ∧ x ≤ 255) : IntKind.u8.wrap x = x := by
  show x % (2 ^ 8 : Int) = x
  omega
theorem wneg {n : Int} (h : -9223372036854775808 ≤ n) (h' : n < 0) : IntKind.u64.wrap (0 - IntKind.u64.wrap n) = (n.natAbs : Int) := by
  show (0 - (n % (2 ^ 64 : Int))) % (2 ^ 64 : Int) = _
  omega
theorem wpos {n : Int} (h : n ≤ 9223372036854775807) (h' : ¬ n < 0) : IntKind.u64.wrap n = (n.natAbs : Int) := by
  rw [wu64 (by omega)]; omega
theorem NI.next {N : Nat} (x : NI N) (h : ¬ x.left < 10) : ∃ y : NI N, y.at' = x.at' - 1 ∧ y.left = x.left / 10 ∧ y.l = x.l.set (x.at' - 1) (UInt8.ofNat (48 + x.left % 10)) := by
  have h2 := x.h2
  have h20 := x.h20
  have hb := x.hb
  have hp : 10 ^ (x.at' - 1) = 10 ^ (x.at' - 1 - 1) * 10 := by
    conv => lhs; rw [show x.at' - 1 = (x.at' - 1 - 1) + 1 by omega, Nat.pow_succ]
  have hb' : x.left / 10 < 10 ^ (x.at' - 1 - 1) := by rw [hp] at hb; omega
  have h3 : 3 ≤ x.at' := by
    by_cases e : x.at' = 2
    · rw [e] at hb; omega
    · omega
  refine ⟨⟨x.at' - 1, x.left / 10, x.l.set (x.at' - 1) (UInt8.ofNat (48 + x.left % 10)), by simp [x.hl], by omega, by omega, hb', ?_⟩, rfl, rfl, rfl⟩
  rw [drop_set _ _ _ (by have := x.hl; omega), x.hd, dg_step h, show x.at' - 1 + 1 = x.at' by omega]
  simp
set_option maxRecDepth 20000 in
set_option maxHeartbeats 8000000 in
theorem NPrint_pure (n : Int) (h1 : -9223372036854775808 ≤ n) (h2 : n ≤ 9223372036854775807) : PL.Pure Try.prog 94 [.int .i64 n] (.str (printZ n)) := by
  refine PL.Pure.of_v Try.func94 (by decide) rfl Try.ntmps94 Try.results94 (by simp) rfl ?_
  simp only [go_sem]
  refine vScopeM (ι := NI n.natAbs) 33 (fun x => [(0, .int .i64 n), (3, .ptr 3 0), (4, .int .i64 (x.at' : Int)), (5, .int .u64 (x.left : Int))]) (fun x => [(3, bytesPV x.l, false)]) (fun x => []) (fun x => x.left) 0 _ (by exact rfl) (fun x => ⟨(forall_cons rfl (forall_cons rfl (forall_cons rfl (forall_cons rfl (forall_nil))))), forall_cons (by show (PV.idsL (bytesPV x.l)).all _ = true; rw [idsL_bytes]; rfl) forall_nil⟩) (fun x => ?_) (fun cut => ?_)
  · have g2 := x.h2
    have g20 := x.h20
    have gl := x.hl
    have gb := x.hb
    have gp := pow_le19 g20
    have w1 : IntKind.i64.wrap ((x.at' : Int) - 1) = ((x.at' - 1 : Nat) : Int) := by rw [w64 (by omega)]; omega
    have r1 : (x.left : Int).tmod 10 = ((x.left % 10 : Nat) : Int) := rfl
    have r2 : IntKind.u64.wrap ((x.left % 10 : Nat) : Int) = ((x.left % 10 : Nat) : Int) := wu64 (by omega)
    have r3 : IntKind.u8.wrap ((x.left % 10 : Nat) : Int) = ((x.left % 10 : Nat) : Int) := wu8 (by omega)
    have r4 : IntKind.u8.wrap (48 + ((x.left % 10 : Nat) : Int)) = ((UInt8.ofNat (48 + x.left % 10)).toNat : Int) := by rw [digit_toNat, wu8 (by omega)]; omega
    have q1 : (x.left : Int).tdiv 10 = ((x.left / 10 : Nat) : Int) := rfl
    have q2 : IntKind.u64.wrap ((x.left / 10 : Nat) : Int) = ((x.left / 10 : Nat) : Int) := wu64 (by omega)
    have lt1 : x.at' - 1 < x.l.length := by omega
    have s1 := set_bytes2 x.l (x.at' - 1) (UInt8.ofNat (48 + x.left % 10)) lt1
    simp only [go_sem, w1, r1, r2, r3, r4, q1, q2, s1, Int.toNat_natCast, Nat.mul_one, Nat.zero_add]
    refine ⟨⟨by omega, by omega⟩, by rw [bytesPV_len]; omega, ?_⟩
    by_cases h : x.left < 10
    · have z1 : ¬ (0 : Int) < ((x.left / 10 : Nat) : Int) := by omega
      by_cases hn : n < 0
      · have w2 : IntKind.i64.wrap (((x.at' - 1 : Nat) : Int) - 1) = ((x.at' - 2 : Nat) : Int) := by rw [w64 (by omega)]; omega
        have lt2 : x.at' - 2 < (x.l.set (x.at' - 1) (UInt8.ofNat (48 + x.left % 10))).length := by rw [List.length_set]; omega
        have s2 := set_bytes2 (x.l.set (x.at' - 1) (UInt8.ofNat (48 + x.left % 10))) (x.at' - 2) 45 lt2
        have bt2 := bytesOf_tail ((x.l.set (x.at' - 1) (UInt8.ofNat (48 + x.left % 10))).set (x.at' - 2) 45) (x.at' - 2) (by simp [gl])
        have bl2 : (bytesPV (x.l.set (x.at' - 1) (UInt8.ofNat (48 + x.left % 10)))).length = 20 := by rw [bytesPV_len]; simp [gl]
        have pz : printZ n = ((x.l.set (x.at' - 1) (UInt8.ofNat (48 + x.left % 10))).set (x.at' - 2) 45).drop (x.at' - 2) := by
          rw [drop_set _ _ _ lt2, show x.at' - 2 + 1 = x.at' - 1 by omega, drop_set _ _ _ lt1, show x.at' - 1 + 1 = x.at' by omega, printZ, if_pos hn, x.hd, dg_small h]; rfl
        have c45 : (PV.int .u8 45) = PV.int .u8 ((45 : UInt8).toNat : Int) := rfl
        simp only [go_sem, z1, hn, w2, c45, s1, s2, bt2, bl2, pz, Int.toNat_natCast, Nat.mul_one, Nat.zero_add]
        refine ⟨⟨by omega, by omega⟩, by omega, ⟨by omega, by omega⟩, by rw [bytesPV_len]; simp [gl]; omega⟩
      · have bt2 := bytesOf_tail (x.l.set (x.at' - 1) (UInt8.ofNat (48 + x.left % 10))) (x.at' - 1) (by simp [gl])
        have bl2 : (bytesPV (x.l.set (x.at' - 1) (UInt8.ofNat (48 + x.left % 10)))).length = 20 := by rw [bytesPV_len]; simp [gl]
        have pz : printZ n = (x.l.set (x.at' - 1) (UInt8.ofNat (48 + x.left % 10))).drop (x.at' - 1) := by
          rw [drop_set _ _ _ lt1, show x.at' - 1 + 1 = x.at' by omega, printZ, if_neg hn, x.hd, dg_small h]; rfl
        simp only [go_sem, z1, hn, s1, bt2, bl2, pz, Int.toNat_natCast, Nat.mul_one, Nat.zero_add]
        refine ⟨⟨by omega, by omega⟩, by omega⟩
    · have z1 : (0 : Int) < ((x.left / 10 : Nat) : Int) := by omega
      obtain ⟨y, y1, y2, y3⟩ := x.next h
      simp only [go_sem, z1]
      refine ⟨y, by show y.left < x.left; rw [y2]; omega, ⟨rfl, ?_, ?_, forall_nil⟩⟩
      · exact forall_cons rfl (forall_cons rfl (forall_cons (by show PV.int _ _ = PV.int _ (y.at' : Int); rw [y1]) (forall_cons (by show PV.int _ _ = PV.int _ (y.left : Int); rw [y2]) forall_nil)))
      · exact forall_cons ⟨by show some _ = some (bytesPV y.l); rw [y3], rfl⟩ forall_nil
  · by_cases hn : n < 0
    · simp only [go_sem, hn, wneg h1 hn]
      refine awp_label_seq (cut ⟨20, n.natAbs, List.replicate 20 0, rfl, by omega, by omega, by omega, by simp⟩ _ ?_)
      exact ⟨rfl, (forall_cons rfl (forall_cons rfl (forall_cons rfl (forall_cons rfl (forall_nil))))), forall_cons ⟨rfl, rfl⟩ forall_nil, forall_nil⟩
    · simp only [go_sem, hn, wpos h2 hn]
      refine awp_label_seq (cut ⟨20, n.natAbs, List.replicate 20 0, rfl, by omega, by omega, by omega, by simp⟩ _ ?_)
      exact ⟨rfl, (forall_cons rfl (forall_cons rfl (forall_cons rfl (forall_cons rfl (forall_nil))))), forall_cons ⟨rfl, rfl⟩ forall_nil, forall_nil⟩
end Go.Proofs.Ytmnibpgmcgdfpaa

set_option linter.unusedSimpArgs false
set_option linter.unusedVariables false
set_option linter.unusedSimpArgs false
set_option linter.unusedVariables false
namespace Go.Proofs.Ytmnibpgmcgdfpaa
open Go.PL
open Go.RowKit
def quoteS (s : Str) : Str := if (s.length : Int) ≤ 40 then [34] ++ escs s ++ [34] else [63]
theorem quoteS_len (s : Str) : (quoteS s).length ≤ 122 := by
  unfold quoteS
  split
  · have := escs_len s; simp; omega
  · simp
def lineM (e : En) : Str := printM e.at' ++ [32] ++ (if e.l = [] then printZ e.n else Lib.join (e.l.map quoteS) [44])
theorem join_len (l : List Str) : (Lib.join (l.map quoteS) [44]).length ≤ 123 * l.length := by
  induction l with
  | nil => simp [Lib.join]
  | cons x l ih =>
    cases l with
    | nil => have := quoteS_len x; simp [Lib.join]; omega
    | cons y l =>
      have := quoteS_len x
      have e : ∀ (a b : Str) (m : List Str), ([44] : Str).intercalate (a :: b :: m) = a ++ ([44] ++ ([44] : Str).intercalate (b :: m)) := fun a b m => by
        cases m <;> simp [List.intercalate, List.intersperse]
      simp only [Lib.join, List.map_cons, List.length_append, List.length_cons, List.length_nil] at ih ⊢
      rw [e]
      simp only [List.length_append, List.length_cons, List.length_nil]
      omega
theorem dg_len20 (n k : Nat) (h : n < 10 ^ k) (hk : 1 ≤ k) : (dg n).length ≤ k := by
  induction k generalizing n with
  | zero => omega
  | succ k ih =>
    unfold dg
    split
    · simp
    · have hk0 : 1 ≤ k := by
        by_cases e : k = 0
        · subst e; omega
        · omega
      have := ih (n / 10) (by rw [Nat.pow_succ] at h; omega) hk0
      simp; omega
theorem printZ_len {n : Int} (h1 : -9223372036854775808 ≤ n) (h2 : n ≤ 9223372036854775807) : (printZ n).length ≤ 21 := by
  have := dg_len20 n.natAbs 20 (by omega) (by omega)
  unfold printZ
  split <;> simp <;> omega
theorem map_take_snoc {α β : Type} [Inhabited α] (f : α → β) {l : List α} {k : Nat} (h : k < l.length) : (l.take (k + 1)).map f = (l.take k).map f ++ [f (l.getD k default)] := by
  rw [List.take_add_one, List.getElem?_eq_getElem h, List.map_append, List.getD_eq_getElem?_getD, List.getElem?_eq_getElem h]
  rfl
set_option maxRecDepth 20000 in
set_option maxHeartbeats 8000000 in
theorem line_pure (e : En) (hl : e.l.length ≤ 1000000) (h1 : -9223372036854775808 ≤ e.n) (h2 : e.n ≤ 9223372036854775807) : PL.Pure Try.prog 64 [ent e] (.str (lineM e)) := by
  obtain ⟨r, n, l⟩ := e
  simp only at hl h1 h2
  have hP := Print_pure r
  have hp := print_len r
  have b1 : ((printM r).length : Int) + 1 ≤ 9223372036854775807 := by omega
  by_cases h0 : l = []
  · subst h0
    have hN := NPrint_pure n h1 h2
    have hn := printZ_len h1 h2
    have b2 : (((printM r ++ [32]).length : Nat) : Int) + ((printZ n).length : Int) ≤ 9223372036854775807 := by simp; omega
    refine PL.Pure.of_v Try.func64 (by decide) rfl Try.ntmps64 Try.results64 (by simp) rfl ?_
    simp only [go_sem, ent]
    refine vCall_of (hP) ?_ ?_ ?_; (focus simp only [go_sem, ref]); (focus simp only [go_sem, ref])
    simp only [go_sem, b1, List.map_nil]
    repeat ((with_reducible refine And.intro ?_ ?_); (focus (first | omega | (simp; done))))
    refine vCall_of (hN) ?_ ?_ ?_; (focus simp only [go_sem]); (focus simp only [go_sem])
    simp only [go_sem, b2, lineM]
  · have hpos : 0 < l.length := List.length_pos_iff.2 h0
    have z0 : ((l.length : Int) == 0) = false := beq_eq_false_iff_ne.2 (by omega)
    have hml : l.length ≤ maxLen := by rw [maxLen_eq]; omega
    have hJl := join_len l
    have hJ := Join_pure (l.map quoteS) [44] (by simp; omega) (by omega)
    have b2 : (((printM r ++ [32]).length : Nat) : Int) + ((Lib.join (l.map quoteS) [44]).length : Int) ≤ 9223372036854775807 := by simp; omega
    refine PL.Pure.of_v Try.func64 (by decide) rfl Try.ntmps64 Try.results64 (by simp) rfl ?_
    simp only [go_sem, ent]
    refine vCall_of (hP) ?_ ?_ ?_; (focus simp only [go_sem, ref]); (focus simp only [go_sem, ref])
    simp only [go_sem, b1, z0, List.length_map]
    repeat ((with_reducible refine And.intro ?_ ?_); (focus (first | omega | (simp; done))))
    refine awp_moveRow 4 25 43 0 1 9 [] rfl rfl rfl ?_
    refine vLoopM (ι := { k : Nat // k ≤ l.length }) 49 (fun x => [(3, .str (printM r ++ [32])), (4, .sl (.row 43) (((l.take x.1).map quoteS).map .str)), (27, .sl .no (l.map .str)), (28, .int .i64 (l.length : Int)), (29, .int .i64 (x.1 : Int))]) (fun x => []) (fun x => [(43, .live x.1 1 9)]) (fun x => l.length - x.1) ⟨0, by omega⟩
      ⟨rfl, (forall_cons rfl (forall_cons rfl (forall_cons rfl (forall_cons rfl (forall_cons rfl (forall_nil)))))), forall_nil, (forall_cons rfl (forall_nil))⟩ (fun x => ⟨forall_cons rfl (forall_cons (by simp [PV.ids, refInM]) (forall_cons rfl (forall_cons rfl (forall_cons rfl (forall_nil))))), forall_nil⟩) (fun x => ?_)
    obtain ⟨k, hk⟩ := x
    simp only
    by_cases h : (k : Int) < (l.length : Int)
    · have hka : k < l.length := by omega
      have w1 := w64s hka hml
      have i1 : (0 : Int) ≤ (k : Int) := by omega
      have hQ := Quote_pure (l.getD k [])
      have hs := map_take_snoc quoteS hka
      have hlen : ((l.take k).map quoteS).length = k := by simp; omega
      by_cases h40 : ((l.getD k []).length : Int) ≤ 40
      · have hq : quoteS (l.getD k []) = [34] ++ escs (l.getD k []) ++ [34] := by simp only [quoteS, h40, if_true]
        simp only [go_sem, h, i1, getD_str hka]
        refine vCall_of (hQ) ?_ ?_ ?_; (focus simp only [go_sem]); (focus simp only [go_sem])
        simp only [go_sem, quoteC, h40]
        refine ⟨⟨by simp; omega, sized_str _, room_small (by simp; omega) (by omega)⟩, ⟨⟨k + 1, by omega⟩, by show l.length - (k + 1) < l.length - k; omega, ⟨rfl, forall_cons rfl (forall_cons (by rw [hs, List.map_append]; show _ = PV.sl _ (_ ++ [PV.str (quoteS (l.getD k []))]); rw [hq]; rfl) (forall_cons rfl (forall_cons rfl (forall_cons (by rw [w1]; rfl) forall_nil)))), forall_nil, forall_cons (by simp [upd, show min k l.length = k by omega]) forall_nil⟩⟩⟩
      · have hq : quoteS (l.getD k []) = [63] := by simp only [quoteS, h40, if_false]
        simp only [go_sem, h, i1, getD_str hka]
        refine vCall_of (hQ) ?_ ?_ ?_; (focus simp only [go_sem]); (focus simp only [go_sem])
        simp only [go_sem, quoteC, h40]
        refine ⟨⟨by simp; omega, sized_str _, room_small (by simp; omega) (by omega)⟩, ⟨⟨k + 1, by omega⟩, by show l.length - (k + 1) < l.length - k; omega, ⟨rfl, forall_cons rfl (forall_cons (by rw [hs, List.map_append]; show _ = PV.sl _ (_ ++ [PV.str (quoteS (l.getD k []))]); rw [hq]; rfl) (forall_cons rfl (forall_cons rfl (forall_cons (by rw [w1]; rfl) forall_nil)))), forall_nil, forall_cons (by simp [upd, show min k l.length = k by omega]) forall_nil⟩⟩⟩
    · obtain rfl : k = l.length := by omega
      rw [strs] at hJ
      simp only [go_sem, h, List.take_length]
      refine vCall_of (hJ) ?_ ?_ ?_; (focus simp only [go_sem]); (focus simp only [go_sem])
      simp only [go_sem, b2, lineM, h0]
end Go.Proofs.Ytmnibpgmcgdfpaa

set_option linter.unusedSimpArgs false
set_option linter.unusedVariables false
set_option linter.unusedSimpArgs false
set_option linter.unusedVariables false
namespace Go.Proofs.Ytmnibpgmcgdfpaa
open Go.PL
open Go.RowKit
def EnOk (e : En) : Prop := e.l.length ≤ 1000000 ∧ -9223372036854775808 ≤ e.n ∧ e.n ≤ 9223372036854775807
def RwOk (r : Rw) : Prop := r.item.length ≤ 1000000 ∧ r.l.length ≤ 1000 ∧ ∀ e ∈ r.l, EnOk e
structure LnOk (d : Dc) : Prop where
  hl : d.head.length ≤ 1000000
  rl : d.rows.length ≤ 1000000
  he : ∀ e ∈ d.head, EnOk e
  re : ∀ r ∈ d.rows, RwOk r
def entLine (it : Str) (e : En) : Str := it ++ [32] ++ lineM e
def rowLines (r : Rw) : List Str := r.item :: r.l.map (entLine r.item)
def linesM (d : Dc) : List Str := d.head.map lineM ++ (d.rows.map rowLines).flatten
theorem lineM_len {e : En} (h : EnOk e) : (lineM e).length ≤ 200000000 := by
  have h1 := print_len e.at'
  have h2 := printZ_len h.2.1 h.2.2
  have h3 := join_len e.l
  have h4 := h.1
  unfold lineM
  split <;> simp <;> omega
theorem flat_len (l : List Rw) (h : ∀ r ∈ l, RwOk r) : ((l.map rowLines).flatten).length ≤ 1001 * l.length := by
  induction l with
  | nil => simp
  | cons r l ih =>
    have h1 := (h r (by simp)).2.1
    have h2 := ih fun x hx => h x (by simp [hx])
    simp only [List.map_cons, List.flatten_cons, List.length_append, rowLines, List.length_cons, List.length_map] at h2 ⊢
    omega
theorem flat_take {l : List Rw} {k : Nat} (h : k < l.length) : ((l.take (k + 1)).map rowLines).flatten = ((l.take k).map rowLines).flatten ++ rowLines (l.getD k default) := by
  rw [map_take_snoc rowLines h]; simp
structure LI2 (d : Dc) where
  k : Nat
  hk : k ≤ d.rows.length
  id : Nat
  hid : id = 21 ∨ id = 34 ∨ id = 50
structure LI3 (l : List En) where
  k : Nat
  hk : k ≤ l.length
  id : Nat
  hid : id = 34 ∨ id = 50
set_option maxRecDepth 20000 in
set_option maxHeartbeats 8000000 in
theorem Lines_pure (d : Dc) (ok : LnOk d) : PL.Pure Try.prog 27 [doc d] (strs (linesM d)) := by
  obtain ⟨hd, rs⟩ := d
  obtain ⟨hl, rl, he, re⟩ := ok
  simp only at hl rl he re
  have hlm : hd.length ≤ maxLen := by rw [maxLen_eq]; omega
  have rlm : rs.length ≤ maxLen := by rw [maxLen_eq]; omega
  refine PL.Pure.of_v Try.func27 (by decide) rfl Try.ntmps27 Try.results27 (by simp) (strs_dids _) ?_
  simp only [go_sem, doc]
  refine awp_nilRow 3 21 1 9 rfl rfl ?_
  refine vLoopM (ι := { k : Nat // k ≤ hd.length }) 54 (fun x => [(1, .ptr 1 0), (3, .sl (.row 21) (((hd.take x.1).map lineM).map .str)), (11, .sl .no (hd.map ent)), (12, .int .i64 (hd.length : Int)), (13, .int .i64 (x.1 : Int))]) (fun x => [(1, [.sl .no (hd.map ent), .sl .no (rs.map row)], false)]) (fun x => [(21, .live x.1 1 9)]) (fun x => hd.length - x.1) ⟨0, by omega⟩
    ⟨rfl, (forall_cons rfl (forall_cons rfl (forall_cons rfl (forall_cons rfl (forall_cons rfl (forall_nil)))))), forall_cons ⟨rfl, rfl⟩ forall_nil, (forall_cons rfl (forall_nil))⟩ (fun x => ⟨forall_cons rfl (forall_cons (by simp [PV.ids, refInM]) (forall_cons rfl (forall_cons rfl (forall_cons rfl (forall_nil))))), (forall_cons rfl (forall_nil))⟩) (fun x => ?_)
  obtain ⟨k, hk⟩ := x
  simp only
  by_cases h : (k : Int) < (hd.length : Int)
  · have hka : k < hd.length := by omega
    have w1 := w64s hka hlm
    have i1 : (0 : Int) ≤ (k : Int) := by omega
    have hok := he _ (getD_mem' hka (d := default))
    have hL := line_pure (hd.getD k default) hok.1 hok.2.1 hok.2.2
    have hs := map_take_snoc lineM hka
    simp only [go_sem, h, i1, getD_ent hka, ent]
    refine vCall_of (hL) ?_ ?_ ?_; (focus simp only [go_sem, ent]); (focus simp only [go_sem, ent])
    simp only [go_sem]
    refine ⟨⟨by simp; omega, sized_str _, room_small (by simp; omega) (by omega)⟩, ⟨⟨k + 1, by omega⟩, by show hd.length - (k + 1) < hd.length - k; omega, ⟨rfl, forall_cons rfl (forall_cons (by rw [hs, List.map_append]; rfl) (forall_cons rfl (forall_cons rfl (forall_cons (by rw [w1]; rfl) forall_nil)))), forall_cons ⟨rfl, rfl⟩ forall_nil, forall_cons (by simp [upd, show min k hd.length = k by omega]) forall_nil⟩⟩⟩
  · obtain rfl : k = hd.length := by omega
    simp only [go_sem, h, List.take_length]
    refine vLoopM (ι := LI2 ⟨hd, rs⟩) 54 (fun x => [(3, .sl (.row x.id) ((hd.map lineM ++ ((rs.take x.k).map rowLines).flatten).map .str)), (24, .sl .no (rs.map row)), (25, .int .i64 (rs.length : Int)), (26, .int .i64 (x.k : Int))]) (fun x => []) (fun x => [(x.id, .live (hd.map lineM ++ ((rs.take x.k).map rowLines).flatten).length 1 9)]) (fun x => rs.length - x.k) ⟨0, by omega, 21, .inl rfl⟩
      ⟨rfl, forall_cons (by simp [upd]) (forall_cons rfl (forall_cons rfl (forall_cons rfl (forall_nil)))), forall_nil, forall_cons (by simp [upd]) forall_nil⟩ (fun x => ⟨forall_cons (by simp [PV.ids, refInM]) (forall_cons rfl (forall_cons rfl (forall_cons rfl (forall_nil)))), forall_nil⟩) (fun x => ?_)
    obtain ⟨k, hk, id, hid⟩ := x
    simp only
    have hfl := flat_len (rs.take k) fun r hr => re r (List.mem_of_mem_take hr)
    have hfl' : (rs.take k).length ≤ 1000000 := by rw [List.length_take]; omega
    generalize hpre : hd.map lineM ++ ((rs.take k).map rowLines).flatten = pre
    have hpl : pre.length ≤ 2000000000 := by rw [← hpre]; simp at hfl hfl' ⊢; omega
    by_cases h : (k : Int) < (rs.length : Int)
    · have hka : k < rs.length := by omega
      have w1 := w64s hka rlm
      have i1 : (0 : Int) ≤ (k : Int) := by omega
      obtain ⟨ok1, ok2, ok3⟩ := re _ (getD_mem' hka (d := default))
      have hs := flat_take hka
      generalize hr : rs.getD k default = r at *
      have hrm : r.l.length ≤ maxLen := by rw [maxLen_eq]; omega
      rcases hid with rfl | rfl | rfl
      all_goals
        simp only [go_sem, h, i1, getD_row hka, hr, row]
        repeat ((with_reducible refine And.intro ?_ ?_); (focus ((repeat' (with_reducible apply And.intro)) <;> (first | omega | exact room_small (by omega) (by omega) | exact room_small (by simp; omega) (by omega) | exact sized_str _ | (simp; done) | (simp; omega)))))
        refine vLoopM (ι := LI3 r.l) 54 (fun x => [(3, .sl (.row x.id) ((pre ++ r.item :: (r.l.take x.k).map (entLine r.item)).map .str)), (7, .ptr 7 0), (24, .sl .no (rs.map row)), (25, .int .i64 (rs.length : Int)), (26, .int .i64 (k : Int)), (36, .sl .no (r.l.map ent)), (37, .int .i64 (r.l.length : Int)), (38, .int .i64 (x.k : Int))]) (fun x => [(7, [.str r.item, .sl .no (r.l.map ent)], false)]) (fun x => [(x.id, .live (pre ++ r.item :: (r.l.take x.k).map (entLine r.item)).length 1 9)]) (fun x => r.l.length - x.k) ⟨0, by omega, 34, .inl rfl⟩
          ⟨rfl, forall_cons (by simp [upd]) (forall_cons rfl (forall_cons rfl (forall_cons rfl (forall_cons rfl (forall_cons rfl (forall_cons rfl (forall_cons rfl (forall_nil)))))))), forall_cons ⟨rfl, rfl⟩ forall_nil, forall_cons (by simp [upd]) forall_nil⟩ (fun x => ⟨forall_cons (by simp [PV.ids, refInM]) (forall_cons rfl (forall_cons rfl (forall_cons rfl (forall_cons rfl (forall_cons rfl (forall_cons rfl (forall_cons rfl (forall_nil)))))))), (forall_cons rfl (forall_nil))⟩) (fun x => ?_)
        obtain ⟨k', hk', id, hid⟩ := x
        simp only
        by_cases h' : (k' : Int) < (r.l.length : Int)
        · have hka' : k' < r.l.length := by omega
          have w1' := w64s hka' hrm
          have i1' : (0 : Int) ≤ (k' : Int) := by omega
          have hok := ok3 _ (getD_mem' hka' (d := default))
          have hL := line_pure (r.l.getD k' default) hok.1 hok.2.1 hok.2.2
          have hLl := lineM_len hok
          have hs' := map_take_snoc (entLine r.item) hka'
          have b1 : (r.item.length : Int) + 1 ≤ 9223372036854775807 := by omega
          have b2 : (((r.item ++ [32]).length : Nat) : Int) + ((lineM (r.l.getD k' default)).length : Int) ≤ 9223372036854775807 := by rw [List.length_append]; simp only [List.length_cons, List.length_nil]; omega
          rcases hid with rfl | rfl
          all_goals
            simp only [go_sem, h', i1', getD_ent hka', ent]
            refine vDrawQ (by kernel_rfl) (by kernel_rfl) ?_
            simp only [go_sem, b1]
            refine vCall_of (hL) ?_ ?_ ?_; (focus simp only [go_sem, ent]); (focus simp only [go_sem, ent])
            simp only [go_sem, b1, b2]
            repeat ((with_reducible refine And.intro ?_ ?_); (focus ((repeat' (with_reducible apply And.intro)) <;> (first | omega | exact room_small (by omega) (by omega) | exact room_small (by simp; omega) (by omega) | exact sized_str _ | (simp; done) | (simp; omega)))))
            exact ⟨⟨k' + 1, by omega, 50, .inr rfl⟩, by show r.l.length - (k' + 1) < r.l.length - k'; omega, ⟨rfl, forall_cons (by rw [hs']; simp [upd, entLine]) (forall_cons rfl (forall_cons rfl (forall_cons rfl (forall_cons rfl (forall_cons rfl (forall_cons rfl (forall_cons (by rw [w1']; rfl) forall_nil))))))), forall_cons ⟨rfl, rfl⟩ forall_nil, forall_cons (by simp [upd]; omega) forall_nil⟩⟩
        · obtain rfl : k' = r.l.length := by omega
          have e2 : hd.map lineM ++ ((rs.take (k + 1)).map rowLines).flatten = pre ++ r.item :: r.l.map (entLine r.item) := by rw [hs, ← hpre, rowLines]; simp
          rcases hid with rfl | rfl
          · simp only [go_sem, h', List.take_length]
            exact ⟨⟨k + 1, hka, 34, .inr (.inl rfl)⟩, by show rs.length - (k + 1) < rs.length - k; omega, ⟨rfl, forall_cons (by rw [e2]; rfl) (forall_cons rfl (forall_cons rfl (forall_cons (by rw [w1]; rfl) forall_nil))), forall_nil, forall_cons (by rw [e2]; rfl) forall_nil⟩⟩
          · simp only [go_sem, h', List.take_length]
            exact ⟨⟨k + 1, hka, 50, .inr (.inr rfl)⟩, by show rs.length - (k + 1) < rs.length - k; omega, ⟨rfl, forall_cons (by rw [e2]; rfl) (forall_cons rfl (forall_cons rfl (forall_cons (by rw [w1]; rfl) forall_nil))), forall_nil, forall_cons (by rw [e2]; rfl) forall_nil⟩⟩
    · have hk2 : k ≤ rs.length := hk
      obtain rfl : k = rs.length := by omega
      rw [List.take_length] at hpre
      subst hpre
      rcases hid with rfl | rfl | rfl
      all_goals
        simp only [go_sem, h, List.take_length, strs, linesM]
end Go.Proofs.Ytmnibpgmcgdfpaa
