/- A logic of values for functions that only read and build, over the model (part 7): no statement of the seat is proved here. -/
import Derived.Test.YtnadlkjmdimjkaaGreatPlF
import Derived.Test.YtnadlkjmdimjkaaGreatPlA
set_option linter.unusedSimpArgs false
set_option linter.unusedVariables false
namespace Go.PL
open Go.RowKit
set_option linter.unusedVariables false
/-- the same, or a row told as a plain slice -/
def Plain (p q : PV) : Prop := q = p ∨ ∃ d es, p = .sl (.row d) es ∧ q = .sl .no es
theorem Plain.same {p q : PV} (h : p = q) : Plain p q := .inl h.symm
theorem Plain.row (d : Nat) (es : List PV) : Plain (.sl (.row d) es) (.sl .no es) := .inr ⟨d, es, rfl, rfl⟩
structure WeakP (s' s : St) : Prop where
  n : s'.n = s.n
  fr : ∀ i, s'.fr i = .any ∨ Plain (s.fr i) (s'.fr i)
  h : ∀ i, s'.m.h i = none ∨ (s'.m.h i = s.m.h i ∧ s'.m.z i = s.m.z i)
  q : ∀ i, s'.m.q i = none ∨ s'.m.q i = s.m.q i
  o : ∀ i, s'.m.o i = none ∨ s'.m.o i = s.m.o i
  it : ∀ i, s'.m.it i = none ∨ s'.m.it i = s.m.it i
section
variable {P : Program} {B : Frm} {S : Stable} {M : Maps} {s s' : St} {a : Act} {w : World} {Q Q' : Exit → St → Prop}
/-- first the rows that a state tells are told as plain slices, then less is told -/
theorem Sim.weakP (hs : Sim B S M s a w) (hw : WeakP s' s) (hr : Refs s') : Sim B S M s' a w := by
  have rep : ∀ {v p}, RepS S M s.m.q v p → (∀ r ∈ p.ids, Live s'.m r) → RepS S M s'.m.q v p := fun r _ =>
    r.heap (SLe.refl _) (fun _ _ => rfl) (fun i hi n sz e hq => by
      rcases hw.q i with h | h
      · rw [h] at hq; cases hq
      · exact .inl ⟨by rw [← h]; exact hq, rfl, rfl⟩)
  have hh : ∀ {i cs}, s'.m.h i = some cs → s.m.h i = some cs ∧ s'.m.z i = s.m.z i := fun {i cs} hi => by
    rcases hw.h i with h | ⟨h, hz⟩
    · rw [h] at hi; cases hi
    · exact ⟨by rw [← h]; exact hi, hz⟩
  have hq : ∀ {i r}, s'.m.q i = some r → s.m.q i = some r := fun {i r} hi => by
    rcases hw.q i with h | h
    · rw [h] at hi; cases hi
    · rw [← h]; exact hi
  refine ⟨hs.defers, by rw [hs.hn, hw.n], hs.hB, ⟨hs.stable.s, fun b c hc => hs.stable.o b c ?_, fun b x hx => hs.stable.i b x ?_⟩, fun i => ?_, hr.fr, fun i cs hi => ?_, fun i r hi => hs.row i r (hq hi), ?_, ?_, ?_⟩
  · rcases hw.o b with h | h
    · rw [h] at hc; cases hc
    · rw [← h]; exact hc
  · rcases hw.it b with h | h
    · rw [h] at hx; cases hx
    · rw [← h]; exact hx
  · rcases hw.fr i with h | h | ⟨d, es, h1, h2⟩
    · rw [h]; exact .clean (.any _)
    · rw [h]; exact rep (hs.fr i) (by rw [← h]; exact hr.fr i)
    · rw [h2]
      have := hs.fr i
      rw [h1] at this
      exact .clean this.sl_inv
  · obtain ⟨h1, hz⟩ := hh hi
    have hb := hs.blk i cs h1
    rw [hz]
    cases hzi : s.m.z i with
    | false =>
      rw [hzi] at hb
      obtain ⟨g1, g2, ⟨us, t', g3, g4, g5⟩, g6⟩ := hb
      exact ⟨g1, g2, ⟨us, t', g3, g4, fun k hk => rep (g5 k hk) (fun r hr' => hr.h i cs hi _ (getD_mem hk) r hr')⟩, hr.h i cs hi⟩
    | true => rw [hzi] at hb; exact hb
  · intro i j cs cs' hi hj zi zj hij
    obtain ⟨h1, e1⟩ := hh hi
    obtain ⟨h2, e2⟩ := hh hj
    exact hs.inj i j _ _ h1 h2 (by rw [← e1]; exact zi) (by rw [← e2]; exact zj) hij
  · intro i j n1 z1 t1 n2 z2 t2 hi hj ki kj hij
    exact hs.injq i j _ _ _ _ _ _ (hq hi) (hq hj) ki kj hij
  · intro i j cs n1 z1 t1 hi zi hj kj
    obtain ⟨h1, e1⟩ := hh hi
    exact hs.injx i j _ _ _ _ h1 (by rw [← e1]; exact zi) (hq hj) kj

structure HasP (n : Nat) (L : List (Nat × PV)) (H : List (Nat × List PV × Bool)) (R : List (Nat × Row)) (s : St) : Prop where
  n : s.n = n
  fr : ∀ x ∈ L, Plain (s.fr x.1) x.2
  h : ∀ x ∈ H, s.m.h x.1 = some x.2.1 ∧ s.m.z x.1 = x.2.2
  q : ∀ x ∈ R, s.m.q x.1 = some x.2
theorem HasP.weak {n : Nat} {L : List (Nat × PV)} {H : List (Nat × List PV × Bool)} {R : List (Nat × Row)} (h : HasP n L H R s) : WeakP (mkSt n L H R) s := by
  have hk : Has n [] H R s := ⟨h.n, fun x hx => (by cases hx), h.h, h.q⟩
  refine ⟨h.n.symm, fun i => ?_, hk.weak.h, hk.weak.q, fun _ => .inl rfl, fun _ => .inl rfl⟩
  by_cases hi : (L.map (·.1)).contains i = true
  · exact .inr (upds_all (R := fun i v => Plain (s.fr i) v) (fun x hx => h.fr x hx) hi)
  · exact .inl (upds_ne (by simpa using hi))
end
end Go.PL

namespace Go.PL
set_option linter.unusedVariables false
set_option linter.unusedSimpArgs false
/-! whole numbers as floats: all of at most 53 digits are there, exactly -/

/-- a whole number's word -/
def flOf (n : Int) : Nat := FloatKind.f64.nearest n

theorem cut_zero (way : Ieee.Toward) (neg : Bool) (n : Nat) : way.cut neg n 0 = n := by
  unfold Ieee.Toward.cut
  simp only [Nat.zero_min, Nat.shiftLeft_zero, Nat.div_one, Nat.mod_one]
  cases way <;> simp
theorem nearest_norm (neg : Bool) (m : Nat) (h0 : m ≠ 0) (h : m.log2 ≤ 52) : Ieee.double.nearest neg m 0 = Ieee.double.word neg ((m.log2 + 1022) * 2 ^ 52 + m <<< (52 - m.log2)) := by
  unfold Ieee.Format.nearest
  rw [if_neg h0]
  have e1 : Ieee.double.leastPlace = -1074 := by decide
  have e2 : (Ieee.double.fractionBits : Int) = 52 := rfl
  have e3 : Ieee.double.binade = 2 ^ 52 := rfl
  have e4 : Ieee.double.infRung = 2047 * 2 ^ 52 := by decide
  have e5 : max (0 + (m.log2 : Int) - (Ieee.double.fractionBits : Int)) Ieee.double.leastPlace = (m.log2 : Int) - 52 := by rw [e1, e2]; omega
  rw [e1] at e5
  simp only [e1, e3, e4, e5]
  have t1 : (0 - ((m.log2 : Int) - 52)).toNat = 52 - m.log2 := by omega
  have t2 : ((m.log2 : Int) - 52 - 0).toNat = 0 := by omega
  have t3 : ((m.log2 : Int) - 52 - -1074).toNat = m.log2 + 1022 := by omega
  rw [t1, t2, t3, cut_zero]
  have hlt : m < 2 ^ (m.log2 + 1) := Nat.lt_log2_self
  have hs : m <<< (52 - m.log2) < 2 ^ 53 := by
    rw [Nat.shiftLeft_eq]
    calc m * 2 ^ (52 - m.log2) < 2 ^ (m.log2 + 1) * 2 ^ (52 - m.log2) := Nat.mul_lt_mul_of_pos_right hlt (Nat.two_pow_pos _)
      _ = 2 ^ 53 := by rw [← Nat.pow_add]; congr 1; omega
  congr 1
  rw [Nat.min_eq_left]
  omega
theorem read_word (neg : Bool) (rung : Nat) (h1 : 2 ^ 52 ≤ rung) (h2 : rung < 2047 * 2 ^ 52) : Ieee.double.read (Ieee.double.word neg rung) = .number neg (2 ^ 52 + rung % 2 ^ 52) (-1074 + (rung / 2 ^ 52 - 1 : Nat)) := by
  have e1 : Ieee.double.leastPlace = -1074 := by decide
  have e3 : Ieee.double.binade = 2 ^ 52 := rfl
  have e4 : Ieee.double.infRung = 2047 * 2 ^ 52 := by decide
  have e5 : Ieee.double.signWeight = 2 ^ 63 := rfl
  unfold Ieee.Format.read Ieee.Format.word
  cases neg
  · simp only [Bool.false_eq_true, if_false, e1, e3, e4, e5]
    have d1 : rung / 2 ^ 63 = 0 := by omega
    have d2 : rung % 2 ^ 63 = rung := by omega
    rw [d1, d2, if_neg (by omega), if_pos h2]
    rfl
  · simp only [if_true, e1, e3, e4, e5]
    have d1 : (2 ^ 63 + rung) / 2 ^ 63 = 1 := by omega
    have d2 : (2 ^ 63 + rung) % 2 ^ 63 = rung := by omega
    rw [d1, d2, if_neg (by omega), if_pos h2]
    rfl
/-- A WHOLE NUMBER OF AT MOST 53 DIGITS IS READ BACK -/
theorem read_fl (n : Int) (h : n.natAbs < 2 ^ 53) : ∃ p : Int, p ≤ 0 ∧ FloatKind.f64.decode (flOf n) = .number (decide (n < 0)) (n.natAbs <<< (-p).toNat) p := by
  show ∃ p : Int, p ≤ 0 ∧ Ieee.double.read (Ieee.double.nearest (decide (n < 0)) n.natAbs 0) = _
  by_cases h0 : n = 0
  · subst h0
    exact ⟨-1074, by omega, by decide +kernel⟩
  · have hm : n.natAbs ≠ 0 := by omega
    have hl : n.natAbs.log2 ≤ 52 := by
      have : n.natAbs.log2 < 53 := (Nat.log2_lt hm).2 h
      omega
    rw [nearest_norm _ _ hm hl]
    generalize n.natAbs = m at *
    have hlt : m < 2 ^ (m.log2 + 1) := Nat.lt_log2_self
    have hge : 2 ^ m.log2 ≤ m := Nat.log2_self_le hm
    have hs : m <<< (52 - m.log2) < 2 ^ 53 := by
      rw [Nat.shiftLeft_eq]
      calc m * 2 ^ (52 - m.log2) < 2 ^ (m.log2 + 1) * 2 ^ (52 - m.log2) := Nat.mul_lt_mul_of_pos_right hlt (Nat.two_pow_pos _)
        _ = 2 ^ 53 := by rw [← Nat.pow_add]; congr 1; omega
    have hs2 : 2 ^ 52 ≤ m <<< (52 - m.log2) := by
      rw [Nat.shiftLeft_eq]
      calc 2 ^ 52 = 2 ^ m.log2 * 2 ^ (52 - m.log2) := by rw [← Nat.pow_add]; congr 1; omega
        _ ≤ m * 2 ^ (52 - m.log2) := Nat.mul_le_mul_right _ hge
    generalize hsg : m <<< (52 - m.log2) = sg at *
    rw [read_word _ _ (by omega) (by omega)]
    refine ⟨(m.log2 : Int) - 52, by omega, ?_⟩
    have t1 : (-((m.log2 : Int) - 52)).toNat = 52 - m.log2 := by omega
    have t2 : 2 ^ 52 + ((m.log2 + 1022) * 2 ^ 52 + sg) % 2 ^ 52 = sg := by omega
    have t3 : (-1074 : Int) + (((m.log2 + 1022) * 2 ^ 52 + sg) / 2 ^ 52 - 1 : Nat) = (m.log2 : Int) - 52 := by omega
    rw [t1, hsg, t2, t3]
theorem signed_eq (n : Int) (k : Nat) : Ieee.signed (decide (n < 0)) (n.natAbs <<< k) 0 = n * 2 ^ k := by
  unfold Ieee.signed
  rw [Nat.shiftLeft_zero, Nat.shiftLeft_eq]
  by_cases h : n < 0
  · simp only [h, decide_true, if_true]
    have : (n.natAbs : Int) = -n := by omega
    push_cast
    rw [this, Int.neg_mul, Int.neg_neg]
  · simp only [h, decide_false, Bool.false_eq_true, if_false]
    have : (n.natAbs : Int) = n := by omega
    push_cast
    rw [this]
theorem signed_up (neg : Bool) (m k : Nat) : Ieee.signed neg m k = Ieee.signed neg (m <<< k) 0 := rfl
theorem compare_scale (a b : Int) (k : Nat) : compare (a * 2 ^ k) (b * 2 ^ k) = compare a b := by
  have hp : (0 : Int) < 2 ^ k := Int.pow_pos (by omega)
  rcases Int.lt_trichotomy a b with h | h | h
  · rw [Int.compare_eq_lt.2 h, Int.compare_eq_lt.2 (Int.mul_lt_mul_of_pos_right h hp)]
  · subst h; simp
  · rw [Int.compare_eq_gt.2 h, Int.compare_eq_gt.2 (Int.mul_lt_mul_of_pos_right h hp)]
/-- two of them stand to each other as the numbers do -/
theorem order_fl (a b : Int) (ha : a.natAbs < 2 ^ 53) (hb : b.natAbs < 2 ^ 53) : FloatKind.f64.format.order (flOf a) (flOf b) = some (compare a b) := by
  obtain ⟨p, p0, hp⟩ := read_fl a ha
  obtain ⟨q, q0, hq⟩ := read_fl b hb
  unfold FloatKind.decode at hp hq
  unfold Ieee.Format.order
  rw [hp, hq]
  simp only [Ieee.Datum.order]
  congr 1
  rw [signed_up _ _ (p - min p q).toNat, signed_up _ _ (q - min p q).toNat, ← Nat.shiftLeft_add, ← Nat.shiftLeft_add]
  have e1 : (-p).toNat + (p - min p q).toNat = (-(min p q)).toNat := by omega
  have e2 : (-q).toNat + (q - min p q).toNat = (-(min p q)).toNat := by omega
  rw [e1, e2, signed_eq, signed_eq, compare_scale]
theorem cut_whole (neg : Bool) (m k : Nat) : Ieee.Toward.zero.cut neg (m <<< k) k = m := by
  unfold Ieee.Toward.cut
  by_cases hm : m = 0
  · subst hm; simp
  · have h : k ≤ (m <<< k).log2 := by
      have hne : m <<< k ≠ 0 := by rw [Nat.shiftLeft_eq]; exact Nat.mul_ne_zero hm (by have := Nat.two_pow_pos k; omega)
      rw [Nat.le_log2 hne, Nat.shiftLeft_eq]
      exact Nat.le_mul_of_pos_left _ (by omega)
    rw [Nat.min_eq_left (by omega), Nat.shiftLeft_eq m, Nat.shiftLeft_eq 1, Nat.one_mul]
    simp only [Nat.mul_div_cancel _ (Nat.two_pow_pos k)]
    simp
theorem integral_fl (n : Int) (h : n.natAbs < 2 ^ 53) : (FloatKind.f64.decode (flOf n)).integral .zero = .number (decide (n < 0)) n.natAbs 0 := by
  obtain ⟨p, p0, hp⟩ := read_fl n h
  rw [hp]
  simp only [Ieee.Datum.integral]
  have e : p.toNat = 0 := by omega
  rw [e, Nat.shiftLeft_zero, cut_whole]
theorem toInt_fl (n : Int) (h : n.natAbs < 2 ^ 53) : (FloatKind.f64.decode (flOf n)).toInt .zero = some n := by
  unfold Ieee.Datum.toInt
  rw [integral_fl n h]
  simp only
  have := signed_eq n 0
  rw [Nat.shiftLeft_zero] at this
  rw [this]
  simp
theorem trunc_fl (n : Int) (h : n.natAbs < 2 ^ 53) : FloatKind.f64.encode ((FloatKind.f64.decode (flOf n)).integral .zero) = flOf n := by
  rw [integral_fl n h]; rfl
theorem number_fl (n : Int) (h : n.natAbs < 2 ^ 53) : ∃ s m p, FloatKind.f64.decode (flOf n) = .number s m p := by
  obtain ⟨p, _, hp⟩ := read_fl n h
  exact ⟨_, _, _, hp⟩
end Go.PL
