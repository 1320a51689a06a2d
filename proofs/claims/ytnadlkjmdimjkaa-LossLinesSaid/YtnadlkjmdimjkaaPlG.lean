/- A logic of values for functions that only read and build, over the model (part 7): no statement of the seat is proved here. -/
import Derived.Test.YtnadlkjmdimjkaaPlF
import Derived.Test.YtnadlkjmdimjkaaPlA
set_option linter.unusedSimpArgs false
set_option linter.unusedVariables false
namespace Go.PL
open Go.RowKit
set_option linter.unusedVariables false
/-- the same, or a row told as a plain slice -/
def Plain (p q : PV) : Prop := q = p ∨ ∃ d es, p = .sl (.row d) es ∧ q = .sl .no es
theorem Plain.same {p q : PV} (h : p = q) : Plain p q := .inl h.symm
theorem Plain.row (d : Nat) (es : List PV) : Plain (.sl (.row d) es) (.sl .no es) := .inr ⟨d, es, rfl, rfl⟩
structure WeakP (s' s : St) : Prop where
  n : s'.n = s.n
  fr : ∀ i, s'.fr i = .any ∨ Plain (s.fr i) (s'.fr i)
  h : ∀ i, s'.m.h i = none ∨ (s'.m.h i = s.m.h i ∧ s'.m.z i = s.m.z i)
  q : ∀ i, s'.m.q i = none ∨ s'.m.q i = s.m.q i
  o : ∀ i, s'.m.o i = none ∨ s'.m.o i = s.m.o i
  it : ∀ i, s'.m.it i = none ∨ s'.m.it i = s.m.it i
section
variable {P : Program} {B : Frm} {S : Stable} {M : Maps} {s s' : St} {a : Act} {w : World} {Q Q' : Exit → St → Prop}
/-- first the rows that a state tells are told as plain slices, then less is told -/
theorem Sim.weakP (hs : Sim B S M s a w) (hw : WeakP s' s) (hr : Refs s') : Sim B S M s' a w := by
  have rep : ∀ {v p}, RepS S M s.m.q v p → (∀ r ∈ p.ids, Live s'.m r) → RepS S M s'.m.q v p := fun r _ =>
    r.heap (SLe.refl _) (fun _ _ => rfl) (fun i hi n sz e hq => by
      rcases hw.q i with h | h
      · rw [h] at hq; cases hq
      · exact .inl ⟨by rw [← h]; exact hq, rfl, rfl⟩)
  have hh : ∀ {i cs}, s'.m.h i = some cs → s.m.h i = some cs ∧ s'.m.z i = s.m.z i := fun {i cs} hi => by
    rcases hw.h i with h | ⟨h, hz⟩
    · rw [h] at hi; cases hi
    · exact ⟨by rw [← h]; exact hi, hz⟩
  have hq : ∀ {i r}, s'.m.q i = some r → s.m.q i = some r := fun {i r} hi => by
    rcases hw.q i with h | h
    · rw [h] at hi; cases hi
    · rw [← h]; exact hi
  refine ⟨hs.defers, by rw [hs.hn, hw.n], hs.hB, ⟨hs.stable.s, fun b c hc => hs.stable.o b c ?_, fun b x hx => hs.stable.i b x ?_⟩, fun i => ?_, hr.fr, fun i cs hi => ?_, fun i r hi => hs.row i r (hq hi), ?_, ?_, ?_⟩
  · rcases hw.o b with h | h
    · rw [h] at hc; cases hc
    · rw [← h]; exact hc
  · rcases hw.it b with h | h
    · rw [h] at hx; cases hx
    · rw [← h]; exact hx
  · rcases hw.fr i with h | h | ⟨d, es, h1, h2⟩
    · rw [h]; exact .clean (.any _)
    · rw [h]; exact rep (hs.fr i) (by rw [← h]; exact hr.fr i)
    · rw [h2]
      have := hs.fr i
      rw [h1] at this
      exact .clean this.sl_inv
  · obtain ⟨h1, hz⟩ := hh hi
    have hb := hs.blk i cs h1
    rw [hz]
    cases hzi : s.m.z i with
    | false =>
      rw [hzi] at hb
      obtain ⟨g1, g2, ⟨us, t', g3, g4, g5⟩, g6⟩ := hb
      exact ⟨g1, g2, ⟨us, t', g3, g4, fun k hk => rep (g5 k hk) (fun r hr' => hr.h i cs hi _ (getD_mem hk) r hr')⟩, hr.h i cs hi⟩
    | true => rw [hzi] at hb; exact hb
  · intro i j cs cs' hi hj zi zj hij
    obtain ⟨h1, e1⟩ := hh hi
    obtain ⟨h2, e2⟩ := hh hj
    exact hs.inj i j _ _ h1 h2 (by rw [← e1]; exact zi) (by rw [← e2]; exact zj) hij
  · intro i j n1 z1 t1 n2 z2 t2 hi hj ki kj hij
    exact hs.injq i j _ _ _ _ _ _ (hq hi) (hq hj) ki kj hij
  · intro i j cs n1 z1 t1 hi zi hj kj
    obtain ⟨h1, e1⟩ := hh hi
    exact hs.injx i j _ _ _ _ h1 (by rw [← e1]; exact zi) (hq hj) kj

structure HasP (n : Nat) (L : List (Nat × PV)) (H : List (Nat × List PV × Bool)) (R : List (Nat × Row)) (s : St) : Prop where
  n : s.n = n
  fr : ∀ x ∈ L, Plain (s.fr x.1) x.2
  h : ∀ x ∈ H, s.m.h x.1 = some x.2.1 ∧ s.m.z x.1 = x.2.2
  q : ∀ x ∈ R, s.m.q x.1 = some x.2
theorem HasP.weak {n : Nat} {L : List (Nat × PV)} {H : List (Nat × List PV × Bool)} {R : List (Nat × Row)} (h : HasP n L H R s) : WeakP (mkSt n L H R) s := by
  have hk : Has n [] H R s := ⟨h.n, fun x hx => (by cases hx), h.h, h.q⟩
  refine ⟨h.n.symm, fun i => ?_, hk.weak.h, hk.weak.q, fun _ => .inl rfl, fun _ => .inl rfl⟩
  by_cases hi : (L.map (·.1)).contains i = true
  · exact .inr (upds_all (R := fun i v => Plain (s.fr i) v) (fun x hx => h.fr x hx) hi)
  · exact .inl (upds_ne (by simpa using hi))
end
end Go.PL

namespace Go.PL
set_option linter.unusedVariables false
set_option linter.unusedSimpArgs false
/-! whole numbers as floats: all of at most 53 digits are there, exactly -/

end Go.PL
