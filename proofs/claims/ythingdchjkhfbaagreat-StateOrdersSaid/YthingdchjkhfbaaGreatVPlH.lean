/- A logic of values for functions that only read and build, over the model (part 8): no statement of the seat is proved here. -/
import Derived.Test.YthingdchjkhfbaaGreatVPlG
import Derived.Test.YthingdchjkhfbaaGreatVPlA
set_option linter.unusedSimpArgs false
set_option linter.unusedVariables false
namespace Go.PL
open Go.RowKit
set_option linter.unusedVariables false
section
variable {P : Program} {s : St} {Q : Exit → St → Prop}
def NextL {ι : Type} (n : Nat) (L : ι → List (Nat × PV)) (H : ι → List (Nat × List PV × Bool)) (R : ι → List (Nat × Row)) (μ : ι → Nat) (lab : ι → Nat) (i : ι) : Nat → St → Prop := fun l s' => ∃ j, lab j = l ∧ μ j < μ i ∧ Has n (L j) (H j) (R j) s'
def SomeL {ι : Type} (n : Nat) (L : ι → List (Nat × PV)) (H : ι → List (Nat × List PV × Bool)) (R : ι → List (Nat × Row)) (lab : ι → Nat) : Nat → St → Prop := fun l s' => ∃ j, lab j = l ∧ Has n (L j) (H j) (R j) s'
theorem vScopeL {c : Code} {ι : Type} (n : Nat) (L : ι → List (Nat × PV)) (H : ι → List (Nat × List PV × Bool)) (R : ι → List (Nat × Row)) (μ : ι → Nat) (lab : ι → Nat) (z : ι → Code)
  (hf : ∀ i, findLabel c (lab i) = some (.seq .skip (z i))) (hr : ∀ i, toldB (L i) (H i) (R i))
  (pass : ∀ i, (∀ j s', μ j < μ i → Has n (L j) (H j) (R j) s' → awp P (z j) (gotoQ (NextL n L H R μ lab i) Q) s') → @vC P ⟨z i⟩ ⟨gotoQ (NextL n L H R μ lab i) Q⟩ (mkSt n (L i) (H i) (R i)))
  (first : (∀ j s', Has n (L j) (H j) (R j) s' → awp P (z j) (gotoQ (SomeL n L H R lab) Q) s') → @vC P ⟨c⟩ ⟨gotoQ (SomeL n L H R lab) Q⟩ s) : awp P (.scope c) Q s := by
 have sk : ∀ {z : Code} {Q : Exit → St → Prop} {s : St}, awp P z Q s → awp P (.seq .skip z) Q s := fun h => awp_seq (awp_skip h)
 have all : ∀ m i, μ i = m → awp P (z i) (gotoQ (NextL n L H R μ lab i) Q) (mkSt n (L i) (H i) (R i)) := by
  intro m
  induction m using Nat.strongRecOn with
  | _ m ih =>
   intro i hi
   refine vc_sound _ _ _ (pass i fun j s' hj hh => ?_)
   refine awp_weak hh.weak (fun _ => Refs.mkSt (hr j)) (awp_mono (fun e s'' h => ?_) (ih (μ j) (by omega) j rfl))
   cases e with
   | goto l => obtain ⟨k, h1, h2, h3⟩ := h; exact ⟨k, h1, by omega, h3⟩
   | _ => exact h
 refine awp_scope lab (fun i => .seq .skip (z i)) (fun i => mkSt n (L i) (H i) (R i)) μ hf (fun _ i => Refs.mkSt (hr i)) (fun i _ => ?_) fun _ => ?_
 ·refine sk (awp_mono (fun e s' h => ?_) (all _ i rfl))
  cases e with
  | goto l => obtain ⟨k, h1, h2, h3⟩ := h; exact ⟨k, h1, h2, h3.weak⟩
  | _ => exact h
 ·refine awp_mono (fun e s' h => ?_) (vc_sound _ _ _ (first fun j s' hh => ?_))
  ·cases e with
   | goto l => obtain ⟨k, h1, h3⟩ := h; exact ⟨k, h1, h3.weak⟩
   | _ => exact h
  ·refine awp_weak hh.weak (fun _ => Refs.mkSt (hr j)) (awp_mono (fun e s'' h => ?_) (all _ j rfl))
   cases e with
   | goto l => obtain ⟨k, h1, h2, h3⟩ := h; exact ⟨k, h1, h3⟩
   | _ => exact h
def gotoJ2 (l0 : Nat) (J0 : St → Prop) (l1 : Nat) (J1 : St → Prop) : Nat → St → Prop := fun l s => (l = l0 ∧ J0 s) ∨ (l = l1 ∧ J1 s)
theorem vScope2 {c : Code} {ι0 ι1 : Type} (n : Nat) (L0 : ι0 → List (Nat × PV)) (H0 : ι0 → List (Nat × List PV × Bool)) (R0 : ι0 → List (Nat × Row)) (μ0 : ι0 → Nat)
  (L1 : ι1 → List (Nat × PV)) (H1 : ι1 → List (Nat × List PV × Bool)) (R1 : ι1 → List (Nat × Row)) (μ1 : ι1 → Nat) (B : Nat) (hB : ∀ j, μ1 j < B)
  (l0 l1 : Nat) (z0 z1 : Code) (hf0 : findLabel c l0 = some (.seq .skip z0)) (hf1 : findLabel c l1 = some (.seq .skip z1)) (hr0 : ∀ i, toldB (L0 i) (H0 i) (R0 i)) (hr1 : ∀ i, toldB (L1 i) (H1 i) (R1 i))
  (pass0 : ∀ i, (∀ j s', Has n (L1 j) (H1 j) (R1 j) s' → awp P z1 (gotoQ (gotoJ2 l0 (Next n L0 H0 R0 μ0 i) l1 (Some' n L1 H1 R1)) Q) s') → @vC P ⟨z0⟩ ⟨gotoQ (gotoJ2 l0 (Next n L0 H0 R0 μ0 i) l1 (Some' n L1 H1 R1)) Q⟩ (mkSt n (L0 i) (H0 i) (R0 i)))
  (pass1 : ∀ i, @vC P ⟨z1⟩ ⟨gotoQ (gotoJ l1 (Next n L1 H1 R1 μ1 i)) Q⟩ (mkSt n (L1 i) (H1 i) (R1 i)))
  (first : (∀ j s', Has n (L0 j) (H0 j) (R0 j) s' → awp P z0 (gotoQ (gotoJ2 l0 (Some' n L0 H0 R0) l1 (Some' n L1 H1 R1)) Q) s') → @vC P ⟨c⟩ ⟨gotoQ (gotoJ2 l0 (Some' n L0 H0 R0) l1 (Some' n L1 H1 R1)) Q⟩ s) : awp P (.scope c) Q s := by
 refine vScopeL (ι := ι0 ⊕ ι1) n (Sum.elim L0 L1) (Sum.elim H0 H1) (Sum.elim R0 R1) (Sum.elim (fun i => B + μ0 i) μ1) (Sum.elim (fun _ => l0) (fun _ => l1)) (Sum.elim (fun _ => z0) (fun _ => z1)) ?_ ?_ ?_ ?_
 ·rintro (i | i)
  ·exact hf0
  ·exact hf1
 ·rintro (i | i)
  ·exact hr0 i
  ·exact hr1 i
 ·rintro (i | i) cut
  ·have hm : ∀ l s', gotoJ2 l0 (Next n L0 H0 R0 μ0 i) l1 (Some' n L1 H1 R1) l s' → NextL n (Sum.elim L0 L1) (Sum.elim H0 H1) (Sum.elim R0 R1) (Sum.elim (fun i => B + μ0 i) μ1) (Sum.elim (fun _ => l0) (fun _ => l1)) (.inl i) l s' := by
    rintro l s' (⟨rfl, j, h1, h2⟩ | ⟨rfl, j, h2⟩)
    ·exact ⟨.inl j, rfl, by simp only [Sum.elim_inl]; omega, h2⟩
    ·exact ⟨.inr j, rfl, by have := hB j; simp only [Sum.elim_inl, Sum.elim_inr]; omega, h2⟩
   have hm' : ∀ l s', NextL n (Sum.elim L0 L1) (Sum.elim H0 H1) (Sum.elim R0 R1) (Sum.elim (fun i => B + μ0 i) μ1) (Sum.elim (fun _ => l0) (fun _ => l1)) (.inl i) l s' → gotoJ2 l0 (Next n L0 H0 R0 μ0 i) l1 (Some' n L1 H1 R1) l s' := by
    rintro l s' ⟨j | j, h0, h1, h2⟩
    ·exact .inl ⟨h0.symm, j, by simp only [Sum.elim_inl] at h1; omega, h2⟩
    ·exact .inr ⟨h0.symm, j, h2⟩
   have e : (gotoJ2 l0 (Next n L0 H0 R0 μ0 i) l1 (Some' n L1 H1 R1)) = NextL n (Sum.elim L0 L1) (Sum.elim H0 H1) (Sum.elim R0 R1) (Sum.elim (fun i => B + μ0 i) μ1) (Sum.elim (fun _ => l0) (fun _ => l1)) (.inl i) := by
    funext l s'; exact propext ⟨hm l s', hm' l s'⟩
   have := pass0 i fun j s' hh => by rw [e]; exact cut (.inr j) s' (by have := hB j; simp only [Sum.elim_inl, Sum.elim_inr]; omega) hh
   rw [e] at this
   exact this
  ·have hp := vc_sound _ _ _ (pass1 i)
   have e : ∀ l s', gotoJ l1 (Next n L1 H1 R1 μ1 i) l s' → NextL n (Sum.elim L0 L1) (Sum.elim H0 H1) (Sum.elim R0 R1) (Sum.elim (fun i => B + μ0 i) μ1) (Sum.elim (fun _ => l0) (fun _ => l1)) (.inr i) l s' := by
    rintro l s' ⟨rfl, j, h1, h2⟩
    exact ⟨.inr j, rfl, h1, h2⟩
   have e' : ∀ l s', NextL n (Sum.elim L0 L1) (Sum.elim H0 H1) (Sum.elim R0 R1) (Sum.elim (fun i => B + μ0 i) μ1) (Sum.elim (fun _ => l0) (fun _ => l1)) (.inr i) l s' → gotoJ l1 (Next n L1 H1 R1 μ1 i) l s' := by
    rintro l s' ⟨j | j, h0, h1, h2⟩
    ·have := hB i; simp only [Sum.elim_inl, Sum.elim_inr] at h1; omega
    ·exact ⟨h0.symm, j, h1, h2⟩
   have ee : gotoJ l1 (Next n L1 H1 R1 μ1 i) = NextL n (Sum.elim L0 L1) (Sum.elim H0 H1) (Sum.elim R0 R1) (Sum.elim (fun i => B + μ0 i) μ1) (Sum.elim (fun _ => l0) (fun _ => l1)) (.inr i) := by
    funext l s'; exact propext ⟨e l s', e' l s'⟩
   have := pass1 i
   rw [ee] at this
   exact this
 ·intro cut
  have e : gotoJ2 l0 (Some' n L0 H0 R0) l1 (Some' n L1 H1 R1) = SomeL n (Sum.elim L0 L1) (Sum.elim H0 H1) (Sum.elim R0 R1) (Sum.elim (fun _ => l0) (fun _ => l1)) := by
   funext l s'
   refine propext ⟨?_, ?_⟩
   ·rintro (⟨rfl, j, h2⟩ | ⟨rfl, j, h2⟩)
    ·exact ⟨.inl j, rfl, h2⟩
    ·exact ⟨.inr j, rfl, h2⟩
   ·rintro ⟨j | j, h0, h2⟩
    ·exact .inl ⟨h0.symm, j, h2⟩
    ·exact .inr ⟨h0.symm, j, h2⟩
  have := first fun j s' hh => by rw [e]; exact cut (.inl j) s' hh
  rw [e] at this
  exact this
end
end Go.PL
namespace Go.PL
open Go.RowKit
set_option linter.unusedVariables false
section
variable {P : Program} {ops : Array Oper} {md : Region.Mode}
theorem yield_swap' {s s1 s2 : St} {oi oj : Oper} (hap : oi.apart ops oj = true)
  (core : ∀ vi mi vj mj, StepM P oi s.eval s.m vi mi → StepM P oj s.eval mi vj mj → ∃ ma, StepM P oj s.eval s.m vj ma ∧ StepM P oi s.eval ma vi mj)
  (h1 : Yield P ops oi s s1) (h2 : Yield P ops oj s1 s2) : ∃ s1', Yield P ops oj s s1' ∧ Yield P ops oi s1' s2 := by
 obtain ⟨a1, a2, a3⟩ := Oper.apart_spec hap
 obtain ⟨d1, h1⟩ := h1
 obtain ⟨d2, h2⟩ := h2
 have n1 : s1.n = s.n := by rcases h1 with ⟨_, v, m', _, rfl⟩ | ⟨_, rfl⟩ <;> simp [put_n, St.with]
 rw [n1] at d2
 have ej : ∀ x ∈ oj.op.operands, s1.eval x = s.eval x := fun x hx => by
  rcases h1 with ⟨_, v, m', _, rfl⟩ | ⟨_, rfl⟩
  ·rw [put_eval (looks_ops a1 x hx), with_eval]
  ·rw [put_eval (looks_ops a1 x hx)]
 have gj : gd ops s1 oj = gd ops s oj := by
  rcases h1 with ⟨_, v, m', _, rfl⟩ | ⟨_, rfl⟩
  ·exact put_gd a1
  ·exact put_gd (m := s.m) a1
 have a2' : ∀ d, oj.dst = some d → oi.dst ≠ some d := fun d hd e => a2 d e hd
 rcases h1 with ⟨g1, vi, mi, st1, rfl⟩ | ⟨g1, rfl⟩
 ·rcases h2 with ⟨g2, vj, mj, st2, rfl⟩ | ⟨g2, rfl⟩
  ·rw [put_m] at st2
   have st2' : StepM P oj s.eval mi vj mj := stepM_congr ej st2
   obtain ⟨ma, sta, stb⟩ := core vi mi vj mj st1 st2'
   refine ⟨(s.with ma).put oj.dst vj, ⟨d2, .inl ⟨by rw [← gj]; exact g2, vj, ma, sta, rfl⟩⟩, by rw [put_n]; exact d1, .inl ⟨by rw [put_gd a3]; exact g1, vi, mj, ?_, ?_⟩⟩
   ·rw [put_m]
    refine stepM_congr (fun x hx => ?_) stb
    rw [put_eval (looks_ops a3 x hx), with_eval]
   ·rw [put_with, put_with, put_comm _ _ _ a2]; rfl
  ·refine ⟨s.put oj.dst (.tup []), ⟨d2, .inr ⟨by rw [← gj]; exact g2, rfl⟩⟩, by rw [put_n]; exact d1, .inl ⟨by rw [show s.put oj.dst (.tup []) = (s.with s.m).put oj.dst (.tup []) from rfl, put_gd a3]; exact g1, vi, mi, ?_, ?_⟩⟩
   ·rw [put_m]
    exact stepM_congr (fun x hx => by rw [put_eval (looks_ops a3 x hx)]) st1
   ·rw [put_with, put_comm _ _ _ a2]
 ·rcases h2 with ⟨g2, vj, mj, st2, rfl⟩ | ⟨g2, rfl⟩
  ·rw [put_m] at st2
   refine ⟨(s.with mj).put oj.dst vj, ⟨d2, .inl ⟨by rw [← gj]; exact g2, vj, mj, stepM_congr ej st2, rfl⟩⟩, by rw [put_n]; exact d1, .inr ⟨by rw [put_gd a3]; exact g1, ?_⟩⟩
   rw [put_with, put_comm _ _ _ a2]
  ·refine ⟨s.put oj.dst (.tup []), ⟨d2, .inr ⟨by rw [← gj]; exact g2, rfl⟩⟩, by rw [put_n]; exact d1, .inr ⟨by rw [show s.put oj.dst (.tup []) = (s.with s.m).put oj.dst (.tup []) from rfl, put_gd a3]; exact g1, ?_⟩⟩
   rw [put_comm _ _ _ a2]
theorem aStore_h {t : TypeId} {x v : PV} {m : Hp} {r : Ref} (hi : r ∉ x.dids) : ((aStore P t x v m).m).hv r = m.hv r ∨ ¬ (aStore P t x v m).ok := by
 unfold aStore
 cases x with
 | ptr id off =>
  cases hh : m.h id with
  | none => right; simp only [hh]; exact fun h => h
  | some cs =>
   left; simp only [hh]
   cases r with
   | b i => exact upd_ne _ _ fun e => hi (by simp [PV.dids, e])
   | r i => rfl
 | vptr id n z k off =>
  cases hh : m.v id with
  | none => right; simp only [hh]; exact fun h => h
  | some es =>
   left; simp only [hh]
   cases r with
   | b i => rfl
   | r i => exact upd_ne _ _ fun e => hi (by simp [PV.dids, e])
 | _ => exact .inr (fun h => h.elim)
theorem step_store {o : Oper} {t : TypeId} {y w : Operand} (ho : o.op = .store t y w) {ρ : Operand → PV} {m m' : Hp} {v : PV} (h : StepM P o ρ m v m') : ∀ r, r ∉ (ρ y).dids → m'.hv r = m.hv r := by
 rcases h with ⟨h1, h2, h3⟩ | ⟨c, g, args, hc, _⟩
 ·intro i hi
  have hop : aop P o ρ m = if tkn P t then aStore P t (ρ y) (ρ w) m else .fail := by unfold aop; rw [ho]
  rw [h3]
  rw [hop] at h1 ⊢
  split at h1
  ·rename_i hk
   simp only [hk, if_true] at h1 ⊢
   rcases aStore_h (P := P) (t := t) (x := ρ y) (v := ρ w) (m := m) hi with h | h
   ·exact h
   ·exact absurd h1 h
  ·exact h1.elim
 ·rw [ho] at hc; cases hc
theorem step_load {o : Oper} {t : TypeId} {x : Operand} (ho : o.op = .load t x) {ρ : Operand → PV} {m m' : Hp} {v : PV} (h : StepM P o ρ m v m') :
  m' = m ∧ ∀ m2 : Hp, (∀ r, r ∈ (ρ x).dids → m2.hv r = m.hv r) → StepM P o ρ m2 v m2 := by
 rcases h with ⟨h1, h2, h3⟩ | ⟨c, g, args, hc, _⟩
 ·have hop : ∀ m, aop P o ρ m = if tkn P t then aLoad P t (ρ x) m else .fail := fun m => by unfold aop; rw [ho]
  have key : ∀ m2 : Hp, (∀ r, r ∈ (ρ x).dids → m2.hv r = m.hv r) → (aop P o ρ m).m = m ∧ (aop P o ρ m2).ok ∧ (aop P o ρ m2).v = (aop P o ρ m).v ∧ (aop P o ρ m2).m = m2 := by
   intro m2 hm2
   rw [hop] at h1 ⊢
   rw [hop]
   split at h1
   ·rename_i hk
    simp only [hk, if_true]
    revert h1
    unfold aLoad
    cases hx : ρ x with
    | rptr cs => exact fun h => ⟨rfl, h, rfl, rfl⟩
    | ptr id off =>
     have : m2.h id = m.h id := hm2 (.b id) (by rw [hx]; simp [PV.dids])
     simp only [this]
     cases m.h id with
     | none => exact fun h => h.elim
     | some cs => exact fun h => ⟨rfl, h, rfl, rfl⟩
    | vptr id n z k off =>
     have : m2.v id = m.v id := hm2 (.r id) (by rw [hx]; simp [PV.dids])
     simp only [this]
     cases m.v id with
     | none => exact fun h => h.elim
     | some es => exact fun h => ⟨rfl, h, rfl, rfl⟩
    | _ => exact fun h => h.elim
   ·exact h1.elim
  refine ⟨by rw [h3]; exact (key m fun _ _ => rfl).1, fun m2 hm2 => ?_⟩
  obtain ⟨_, g1, g2, g3⟩ := key m2 hm2
  exact .inl ⟨g1, by rw [g2]; exact h2, g3.symm⟩
 ·rw [ho] at hc; cases hc
theorem core_ls {s : St} {oi oj : Oper} {t u : TypeId} {x y w : Operand} (hi : oi.op = .load t x) (hj : oj.op = .store u y w) (hd : ∀ r ∈ (s.eval x).dids, r ∉ (s.eval y).dids) :
  ∀ vi mi vj mj, StepM P oi s.eval s.m vi mi → StepM P oj s.eval mi vj mj → ∃ ma, StepM P oj s.eval s.m vj ma ∧ StepM P oi s.eval ma vi mj := by
 intro vi mi vj mj st1 st2
 obtain ⟨e, h⟩ := step_load hi st1
 subst e
 exact ⟨mj, st2, h mj fun i hi => step_store hj st2 i (hd _ hi)⟩
theorem core_sl {s : St} {oi oj : Oper} {t u : TypeId} {x y w : Operand} (hi : oi.op = .store u y w) (hj : oj.op = .load t x) (hd : ∀ r ∈ (s.eval x).dids, r ∉ (s.eval y).dids) :
  ∀ vi mi vj mj, StepM P oi s.eval s.m vi mi → StepM P oj s.eval mi vj mj → ∃ ma, StepM P oj s.eval s.m vj ma ∧ StepM P oi s.eval ma vi mj := by
 intro vi mi vj mj st1 st2
 obtain ⟨e, h⟩ := step_load hj st2
 subst e
 exact ⟨s.m, h s.m fun i hi' => (step_store hi st1 i (hd _ hi')).symm, st1⟩
def isDst (ops : Array Oper) (t : Nat) : Bool := ops.toList.any fun o => o.dst == some t
def adrOf (o : Oper) : Option Nat := match o.op with | .fieldAddr _ (.tmp x) _ => some x | _ => none
def rootOf (ops : Array Oper) : Nat → Nat → Nat
 | 0, t => t
 | n + 1, t => match ops.toList.find? (fun o => o.dst == some t) with
  | some o => match adrOf o with | some x => rootOf ops n x | none => t
  | none => t
def srcOk (md : Region.Mode) (ops : Array Oper) (root : Nat → Nat) (o : Oper) (x : Nat) : Bool :=
 (!isDst ops x && root x == x) || o.after.any fun e => Region.binds md e && match ops[e.on]? with
  | some o' => o'.dst == some x && match adrOf o' with | some x' => root x' == root x | none => false
  | none => false
def adrOk (md : Region.Mode) (ops : Array Oper) (root : Nat → Nat) : Bool := ops.toList.all fun o => match adrOf o with | some x => srcOk md ops root o x | none => true
def onceB : List Oper → Bool
 | [] => true
 | o :: l => (match o.dst with | some d => l.all fun o' => o'.dst != some d | none => true) && onceB l
def isAl (o : Oper) : Bool := match o.op with | .alloc _ => true | _ => false
def alB (md : Region.Mode) (ops : Array Oper) (o : Oper) (y : Nat) : Bool := o.after.any fun e => Region.binds md e && match ops[e.on]? with
  | some o' => o'.dst == some y && isAl o'
  | none => false
structure Good (ops : Array Oper) (root : Nat → Nat) (s0 : St) (listed : Array Bool) (s : St) : Prop where
 ext : ∀ t, isDst ops t = false → s.fr t = s0.fr t
 adr : ∀ k o d x, ops[k]? = some o → adrOf o = some x → o.dst = some d → listed.getD k false = true → ∀ r ∈ (s.fr d).dids, r ∈ (s0.fr (root x)).dids
 al : ∀ k o d, ops[k]? = some o → isAl o = true → o.dst = some d → listed.getD k false = true → ∀ r ∈ (s.fr d).dids, r = .b d
theorem Good.alloc {root : Nat → Nat} {s0 s : St} {listed : Array Bool} (g : Good ops root s0 listed s) {k : Nat} {o : Oper} {y : Nat} (ho : ops[k]? = some o) (hr : k ∈ Region.ready md ops listed) (hs : alB md ops o y = true) : ∀ r ∈ (s.fr y).dids, r = .b y := by
 obtain ⟨e, he, hb⟩ := Array.any_eq_true'.1 hs
 simp only [Bool.and_eq_true] at hb
 obtain ⟨hb, hm⟩ := hb
 obtain ⟨_, o1, ho1, hall⟩ := mem_ready.1 hr
 rw [ho] at ho1; cases ho1
 have hl := hall e he hb
 cases ho' : ops[e.on]? with
 | none => rw [ho'] at hm; cases hm
 | some o' =>
  rw [ho'] at hm
  simp only [Bool.and_eq_true, beq_iff_eq] at hm
  exact g.al e.on o' y ho' hm.2 hm.1 hl
theorem al_step {o : Oper} {d : Nat} (ha : isAl o = true) (hd : o.dst = some d) {ρ : Operand → PV} {m m' : Hp} {v : PV} (h : StepM P o ρ m v m') : ∀ r ∈ v.dids, r = .b d := by
 unfold isAl at ha
 split at ha
 ·rename_i t heq
  rcases h with ⟨h1, h2, h3⟩ | ⟨c, g, args, hc, _⟩
  ·have hop : aop P o ρ m = match o.dst, tzero P t with
    | some d, some z => ⟨m.h d = none, .ptr d 0, m.new d z⟩
    | _, _ => .fail := by unfold aop; rw [heq]; rfl
   rw [hd] at hop
   cases hz : tzero P t with
   | none => rw [hz] at hop; rw [hop] at h1; exact h1.elim
   | some z =>
    rw [hz] at hop
    rw [h2, hop]
    intro r hr
    simpa [PV.dids] using hr
  ·rw [heq] at hc; cases hc
 ·cases ha
theorem Good.src {root : Nat → Nat} {s0 s : St} {listed : Array Bool} (g : Good ops root s0 listed s) {k : Nat} {o : Oper} {x : Nat} (ho : ops[k]? = some o) (hr : k ∈ Region.ready md ops listed) (hs : srcOk md ops root o x = true) :
  ∀ r ∈ (s.fr x).dids, r ∈ (s0.fr (root x)).dids := by
 simp only [srcOk, Bool.or_eq_true, Bool.and_eq_true, Bool.not_eq_true', beq_iff_eq] at hs
 rcases hs with ⟨h1, h2⟩ | h
 ·rw [g.ext x h1, h2]; exact fun r hr => hr
 ·obtain ⟨e, he, hb⟩ := Array.any_eq_true'.1 h
  simp only [Bool.and_eq_true] at hb
  obtain ⟨hb, hm⟩ := hb
  obtain ⟨_, o1, ho1, hall⟩ := mem_ready.1 hr
  rw [ho] at ho1; cases ho1
  have hl := hall e he hb
  cases ho' : ops[e.on]? with
  | none => rw [ho'] at hm; cases hm
  | some o' =>
   rw [ho'] at hm
   simp only [Bool.and_eq_true, beq_iff_eq] at hm
   obtain ⟨hd, hm⟩ := hm
   cases ha : adrOf o' with
   | none => rw [ha] at hm; cases hm
   | some x' =>
    rw [ha] at hm
    simp only [beq_iff_eq] at hm
    rw [← hm]
    exact g.adr e.on o' x x' ho' ha hd hl
theorem isDst_of {k : Nat} {o : Oper} {d : Nat} (ho : ops[k]? = some o) (hd : o.dst = some d) : isDst ops d = true := by
 unfold isDst
 rw [List.any_eq_true]
 obtain ⟨hk, rfl⟩ := Array.getElem?_eq_some_iff.1 ho
 exact ⟨ops[k], by simp, by simp [hd]⟩
theorem onceB_spec : ∀ {l : List Oper}, onceB l = true → ∀ (i j : Nat) (oi oj : Oper) (d : Nat), l[i]? = some oi → l[j]? = some oj → oi.dst = some d → oj.dst = some d → i = j
 | [], _, i, j, oi, oj, d, h, _, _, _ => by simp at h
 | o :: l, hB, i, j, oi, oj, d, hi, hj, di, dj => by
  simp only [onceB, Bool.and_eq_true] at hB
  obtain ⟨h1, h2⟩ := hB
  cases i with
  | zero =>
   cases j with
   | zero => rfl
   | succ j =>
    simp only [List.getElem?_cons_zero, Option.some.injEq] at hi
    simp only [List.getElem?_cons_succ] at hj
    subst hi
    rw [di] at h1
    have := List.all_eq_true.1 h1 oj (List.mem_of_getElem? hj)
    simp [dj] at this
  | succ i =>
   cases j with
   | zero =>
    simp only [List.getElem?_cons_zero, Option.some.injEq] at hj
    simp only [List.getElem?_cons_succ] at hi
    subst hj
    rw [dj] at h1
    have := List.all_eq_true.1 h1 oi (List.mem_of_getElem? hi)
    simp [di] at this
   | succ j =>
    simp only [List.getElem?_cons_succ] at hi hj
    rw [onceB_spec h2 i j oi oj d hi hj di dj]
theorem adr_step {o : Oper} {x : Nat} (ha : adrOf o = some x) {ρ : Operand → PV} {m m' : Hp} {v : PV} (h : StepM P o ρ m v m') : ∀ r ∈ v.dids, r ∈ (ρ (.tmp x)).dids := by
 unfold adrOf at ha
 split at ha
 ·rename_i t y f heq
  cases ha
  rcases h with ⟨h1, h2, h3⟩ | ⟨c, g, args, hc, _⟩
  ·rw [h2]
   have hop : aop P o ρ m = aFieldAddr P t (ρ (.tmp x)) f m := by unfold aop; rw [heq]
   rw [hop]
   exact v_fieldAddr
  ·rw [heq] at hc; cases hc
 ·cases ha
theorem Good.next {root : Nat → Nat} {s0 s s' : St} {listed : Array Bool} (g : Good ops root s0 listed s) (h1 : adrOk md ops root = true) (h2 : onceB ops.toList = true) {k : Nat} {o : Oper} (ho : ops[k]? = some o)
  (hr : k ∈ Region.ready md ops listed) (hy : Yield P ops o s s') : Good ops root s0 (listed.setIfInBounds k true) s' := by
 have hfr : ∀ t, o.dst ≠ some t → s'.fr t = s.fr t := fun t ht => by
  obtain ⟨_, hy⟩ := hy
  rcases hy with ⟨_, v, m', _, rfl⟩ | ⟨_, rfl⟩
  ·rw [put_fr ht]; rfl
  ·rw [put_fr ht]
 refine ⟨fun t ht => ?_, fun k2 o2 d x ho2 ha hd hl r hr' => ?_, fun k2 o2 d ho2 ha hd hl r hr' => ?_⟩
 rotate_left 2
 ·by_cases hk : k = k2
  ·subst hk
   rw [ho] at ho2; cases ho2
   obtain ⟨_, hy⟩ := hy
   rcases hy with ⟨_, v, m', st, rfl⟩ | ⟨_, rfl⟩
   ·have hv : ((s.with m').put o.dst v).fr d = v := by rw [hd]; simp [St.put, upd]
    rw [hv] at hr'
    exact al_step ha hd st r hr'
   ·have hv : (s.put o.dst (.tup [])).fr d = .tup [] := by rw [hd]; simp [St.put, upd]
    rw [hv] at hr'
    simp [PV.dids, PV.didsL] at hr'
  ·rw [getD_set_ne false hk] at hl
   have hne : o.dst ≠ some d := fun e => hk (onceB_spec h2 k k2 o o2 d (by simpa using ho) (by simpa using ho2) e hd)
   rw [hfr d hne] at hr'
   exact g.al k2 o2 d ho2 ha hd hl r hr'
 ·rw [hfr t (fun e => by rw [isDst_of ho e] at ht; cases ht), g.ext t ht]
 ·by_cases hk : k = k2
  ·subst hk
   rw [ho] at ho2; cases ho2
   have hs : srcOk md ops root o x = true := by
    have := List.all_eq_true.1 h1 o (by obtain ⟨hk, rfl⟩ := Array.getElem?_eq_some_iff.1 ho; simp)
    rw [ha] at this; exact this
   obtain ⟨_, hy⟩ := hy
   rcases hy with ⟨_, v, m', st, rfl⟩ | ⟨_, rfl⟩
   ·have hv : ((s.with m').put o.dst v).fr d = v := by rw [hd]; simp [St.put, upd]
    rw [hv] at hr'
    exact g.src ho hr hs r (adr_step ha st r hr')
   ·have hv : (s.put o.dst (.tup [])).fr d = .tup [] := by rw [hd]; simp [St.put, upd]
    rw [hv] at hr'
    simp [PV.dids, PV.didsL] at hr'
  ·rw [getD_set_ne false hk] at hl
   have hne : o.dst ≠ some d := fun e => hk (onceB_spec h2 k k2 o o2 d (by simpa using ho) (by simpa using ho2) e hd)
   rw [hfr d hne] at hr'
   exact g.adr k2 o2 d x ho2 ha hd hl r hr'
def lsB (md : Region.Mode) (ops : Array Oper) (root : Nat → Nat) (D D2 : List (Nat × Nat)) (a b : Oper) : Bool :=
 match a.op, b.op with
 | .load _ (.tmp x), .store _ (.tmp y) _ => (srcOk md ops root a x && srcOk md ops root b y && D.contains (root x, root y)) || (srcOk md ops root a x && alB md ops b y && D2.contains (root x, y))
 | .store _ (.tmp y) _, .load _ (.tmp x) => (srcOk md ops root b x && srcOk md ops root a y && D.contains (root x, root y)) || (srcOk md ops root b x && alB md ops a y && D2.contains (root x, y))
 | _, _ => false
theorem swap_ls {root : Nat → Nat} {D D2 : List (Nat × Nat)} {s0 s s1 s2 : St} {listed : Array Bool} {i j : Nat} {oi oj : Oper} (hD : ∀ p ∈ D, ∀ r ∈ (s0.fr p.1).dids, r ∉ (s0.fr p.2).dids) (hD2 : ∀ p ∈ D2, ∀ r ∈ (s0.fr p.1).dids, r ≠ .b p.2) (g : Good ops root s0 listed s)
  (hoi : ops[i]? = some oi) (hoj : ops[j]? = some oj) (ri : i ∈ Region.ready md ops listed) (rj : j ∈ Region.ready md ops listed)
  (hap : oi.apart ops oj = true) (hls : lsB md ops root D D2 oi oj = true) (h1 : Yield P ops oi s s1) (h2 : Yield P ops oj s1 s2) : ∃ s1', Yield P ops oj s s1' ∧ Yield P ops oi s1' s2 := by
 unfold lsB at hls
 split at hls
 ·rename_i t x u y w e1 e2
  simp only [Bool.or_eq_true, Bool.and_eq_true] at hls
  rcases hls with ⟨⟨ha, hb⟩, hc⟩ | ⟨⟨ha, hb⟩, hc⟩
  ·refine yield_swap' hap (core_ls e1 e2 fun r hr hr' => ?_) h1 h2
   exact hD _ (List.contains_iff_mem.1 hc) r (g.src hoi ri ha r hr) (g.src hoj rj hb r hr')
  ·refine yield_swap' hap (core_ls e1 e2 fun r hr hr' => ?_) h1 h2
   exact hD2 _ (List.contains_iff_mem.1 hc) r (g.src hoi ri ha r hr) (g.alloc hoj rj hb r hr')
 ·rename_i u y w t x e1 e2
  simp only [Bool.or_eq_true, Bool.and_eq_true] at hls
  rcases hls with ⟨⟨ha, hb⟩, hc⟩ | ⟨⟨ha, hb⟩, hc⟩
  ·refine yield_swap' hap (core_sl e1 e2 fun r hr hr' => ?_) h1 h2
   exact hD _ (List.contains_iff_mem.1 hc) r (g.src hoj rj ha r hr) (g.src hoi ri hb r hr')
  ·refine yield_swap' hap (core_sl e1 e2 fun r hr hr' => ?_) h1 h2
   exact hD2 _ (List.contains_iff_mem.1 hc) r (g.src hoj rj ha r hr) (g.alloc hoi ri hb r hr')
 ·cases hls
theorem anyS_first {root : Nat → Nat} {D D2 : List (Nat × Nat)} {s0 : St} (hD : ∀ p ∈ D, ∀ r ∈ (s0.fr p.1).dids, r ∉ (s0.fr p.2).dids) (hD2 : ∀ p ∈ D2, ∀ r ∈ (s0.fr p.1).dids, r ≠ .b p.2) (k1 : adrOk md ops root = true) (k2 : onceB ops.toList = true) {K : St → Prop} {i : Nat} {oi : Oper} (hi : ops[i]? = some oi) :
  ∀ (fuel : Nat) (listed : Array Bool) (s s1 : St), RefsD s → Good ops root s0 listed s →
   (∀ j oj, ops[j]? = some oj → j ≠ i → listed.getD j true = false → (∀ e ∈ oj.after, Region.binds md e = true → e.on ≠ i) → oi.apart ops oj = true ∧ (compat oi.op oj.op = true ∨ lsB md ops root D D2 oi oj = true)) →
   i ∈ Region.ready md ops listed → Yield P ops oi s s1 →
   anyA P md ops K fuel (listed.setIfInBounds i true) s1 → anyA P md ops K (fuel + 1) listed s := by
 intro fuel
 induction fuel with
 | zero =>
  intro listed s s1 hR _ _ hr hy H
  refine ⟨fun h => (by rw [h] at hr; cases hr), fun j hj => ?_⟩
  by_cases hji : j = i
  ·subst hji; exact ⟨oi, s1, hi, hy, H⟩
  ·have := ready_mono hj hji
   rw [H.1] at this
   cases this
 | succ fuel ih =>
  intro listed s s1 hR hG hfree hr hy H
  refine ⟨fun h => (by rw [h] at hr; cases hr), fun j hj => ?_⟩
  by_cases hji : j = i
  ·subst hji; exact ⟨oi, s1, hi, hy, H⟩
  ·obtain ⟨oj, s2, hoj, hy2, h1⟩ := H.2 j (ready_mono hj hji)
   obtain ⟨hjun, oj', hoj', hall⟩ := mem_ready.1 hj
   rw [hoj] at hoj'; cases hoj'
   have hnot : ∀ e ∈ oj.after, Region.binds md e = true → e.on ≠ i := fun e he hb heq => by
    have h1 := hall e he hb
    have h0 := (mem_ready.1 hr).1
    rw [heq] at h1
    rcases Nat.lt_or_ge i listed.size with h' | h'
    ·simp [h'] at h0 h1; rw [h0] at h1; cases h1
    ·simp [Array.getElem?_eq_none h'] at h1
   obtain ⟨hap, hcp⟩ := hfree j oj hoj hji hjun hnot
   obtain ⟨s1', hya, hyb⟩ : ∃ s1', Yield P ops oj s s1' ∧ Yield P ops oi s1' s2 := by
    rcases hcp with hcp | hls
    ·exact yield_swap hR.refs hap hcp hy hy2
    ·exact swap_ls hD hD2 hG hi hoj hr hj hap hls hy hy2
   have hfree' : ∀ k ok, ops[k]? = some ok → k ≠ i → (listed.setIfInBounds j true).getD k true = false →
     (∀ e ∈ ok.after, Region.binds md e = true → e.on ≠ i) → oi.apart ops ok = true ∧ (compat oi.op ok.op = true ∨ lsB md ops root D D2 oi ok = true) := fun k ok hk hki hun hno => by
    refine hfree k ok hk hki ?_ hno
    by_cases hjk : j = k
    ·subst hjk; exact hjun
    ·rw [getD_set_ne true hjk] at hun; exact hun
   refine ⟨oj, s1', hoj, hya, ih (listed.setIfInBounds j true) s1' s2 (refs_yield hR hya) (hG.next k1 k2 hoj hj hya) hfree' (ready_mono hr (Ne.symm hji)) hyb ?_⟩
   rw [Array.setIfInBounds_comm _ _ hji]
   exact h1
def freeS (md : Region.Mode) (ops : Array Oper) (root : Nat → Nat) (D D2 : List (Nat × Nat)) (listed : Array Bool) (i : Nat) : Bool :=
 match ops[i]? with
 | none => false
 | some oi => (List.range ops.size).all fun j => j == i || listed.getD j true || match ops[j]? with
   | some oj => oj.after.any (fun e => Region.binds md e && e.on == i) || (oi.apart ops oj && (compat oi.op oj.op || lsB md ops root D D2 oi oj))
   | none => true
theorem freeS_spec {root : Nat → Nat} {D D2 : List (Nat × Nat)} {i : Nat} {oi : Oper} {listed : Array Bool} (hi : ops[i]? = some oi) (h : freeS md ops root D D2 listed i = true) (j : Nat) (oj : Oper)
  (hj : ops[j]? = some oj) (hne : j ≠ i) (hun : listed.getD j true = false) (hno : ∀ e ∈ oj.after, Region.binds md e = true → e.on ≠ i) :
  oi.apart ops oj = true ∧ (compat oi.op oj.op = true ∨ lsB md ops root D D2 oi oj = true) := by
 simp only [freeS, hi, List.all_eq_true, List.mem_range] at h
 have h1 := h j (Array.getElem?_eq_some_iff.1 hj).1
 simp only [hj, Bool.or_eq_true, beq_iff_eq, hne, false_or, hun, Bool.false_eq_true] at h1
 rcases h1 with h1 | h1
 ·obtain ⟨e, he, hb⟩ := Array.any_eq_true'.1 h1
  simp only [Bool.and_eq_true, beq_iff_eq] at hb
  exact absurd hb.2 (hno e he hb.1)
 ·simpa using h1
def lexFromS (md : Region.Mode) (ops : Array Oper) (root : Nat → Nat) (D D2 : List (Nat × Nat)) : Nat → Nat → Array Bool → Bool
 | 0, _, listed => (Region.ready md ops listed).isEmpty
 | fuel + 1, k, listed => (Region.ready md ops listed).contains k && freeS md ops root D D2 listed k && lexFromS md ops root D D2 fuel (k + 1) (listed.setIfInBounds k true)
def drawSB (D : List (Nat × Nat)) (ops : Array Oper) (D2 : List (Nat × Nat) := []) : Bool :=
 lexFromS .any ops (rootOf ops ops.size) D D2 ops.size 0 (Array.replicate ops.size false) && (adrOk .any ops (rootOf ops ops.size) && onceB ops.toList)
theorem anyS_lex {root : Nat → Nat} {D D2 : List (Nat × Nat)} {s0 : St} (hD : ∀ p ∈ D, ∀ r ∈ (s0.fr p.1).dids, r ∉ (s0.fr p.2).dids) (hD2 : ∀ p ∈ D2, ∀ r ∈ (s0.fr p.1).dids, r ≠ .b p.2) (k1 : adrOk md ops root = true) (k2 : onceB ops.toList = true) {K : St → Prop} :
  ∀ (l : List Oper) (k : Nat) (listed : Array Bool) (s : St), RefsD s → Good ops root s0 listed s → (∀ j, l[j]? = ops[k + j]?) →
  lexFromS md ops root D D2 l.length k listed = true → lexA P ops K l s → anyA P md ops K l.length listed s
 | [], _, _, _, _, _, _, hB, h => ⟨by simpa [lexFromS] using hB, h⟩
 | o :: l, k, listed, s, hR, hG, hl, hB, h => by
  have h0 : ops[k]? = some o := by simpa using (hl 0).symm
  simp only [List.length_cons, lexFromS, Bool.and_eq_true] at hB
  obtain ⟨⟨hr, hf⟩, hB'⟩ := hB
  obtain ⟨hd, h⟩ := h
  have hr' : k ∈ Region.ready md ops listed := by simpa using hr
  have hl' : ∀ j, l[j]? = ops[(k + 1) + j]? := fun j => by have := hl (j + 1); simpa [Nat.add_assoc, Nat.add_comm 1 j] using this
  rcases h with ⟨hg, v, m', hst, hrest⟩ | ⟨hg, hrest⟩
  ·have hy : Yield P ops o s ((s.with m').put o.dst v) := ⟨hd, .inl ⟨hg, v, m', hst, rfl⟩⟩
   exact anyS_first hD hD2 k1 k2 h0 l.length listed s _ hR hG (freeS_spec h0 hf) hr' hy (anyS_lex hD hD2 k1 k2 l (k + 1) _ _ (refs_yield hR hy) (hG.next k1 k2 h0 hr' hy) hl' hB' hrest)
  ·have hy : Yield P ops o s (s.put o.dst (.tup [])) := ⟨hd, .inr ⟨hg, rfl⟩⟩
   exact anyS_first hD hD2 k1 k2 h0 l.length listed s _ hR hG (freeS_spec h0 hf) hr' hy (anyS_lex hD hD2 k1 k2 l (k + 1) _ _ (refs_yield hR hy) (hG.next k1 k2 h0 hr' hy) hl' hB' hrest)
def apartB (s : St) (D : List (Nat × Nat)) : Bool := D.all fun p => (s.fr p.1).dids.all fun r => !((s.fr p.2).dids.contains r)
def apartB2 (s : St) (D : List (Nat × Nat)) : Bool := D.all fun p => (s.fr p.1).dids.all fun r => decide (r ≠ .b p.2)
theorem awp_drawA {id : Nat} {Q : Exit → St → Prop} {s : St} (D D2 : List (Nat × Nat)) (hm : P.follows .mixedOrders = true) (hB : drawSB D ops D2 = true) (hD : apartB s D = true) (hE : apartB2 s D2 = true) (h : lexA P ops (Q .normal) ops.toList s) : awp P (.region id ops true) Q s := fun B S M a w hs => by
 refine wp_region_any hm ?_
 have he : Ext B S S w { w with drawn := w.drawn + 1 } := ⟨SLe.refl _, fun _ _ => ⟨fun _ => rfl, rfl⟩, (BelowF.refl B w).drew⟩
 have hs' : Sim B S M s a { w with drawn := w.drawn + 1 } := hs.world rfl
 simp only [drawSB, Bool.and_eq_true] at hB
 obtain ⟨hB, k1, k2⟩ := hB
 have hD' : ∀ p ∈ D, ∀ r ∈ (s.fr p.1).dids, r ∉ (s.fr p.2).dids := fun p hp r hr hr' => by
  have := List.all_eq_true.1 (List.all_eq_true.1 hD p hp) r hr
  simp only [Bool.not_eq_true', List.contains_eq_mem, decide_eq_false_iff_not] at this
  exact this hr'
 have hE' : ∀ p ∈ D2, ∀ r ∈ (s.fr p.1).dids, r ≠ .b p.2 := fun p hp r hr => by
  have := List.all_eq_true.1 (List.all_eq_true.1 hE p hp) r hr
  simpa using this
 have hG : Good ops (rootOf ops ops.size) s (Array.replicate ops.size false) s := ⟨fun _ _ => rfl, fun k o d x hk _ _ hl => by
  exfalso
  simp only [Array.getD_eq_getD_getElem?, Array.getElem?_replicate] at hl
  split at hl <;> simp at hl, fun k o d hk _ _ hl => by
  exfalso
  simp only [Array.getD_eq_getD_getElem?, Array.getElem?_replicate] at hl
  split at hl <;> simp at hl⟩
 have := anyS_lex (P := P) (K := Q .normal) (md := .any) hD' hE' k1 k2 ops.toList 0 (Array.replicate ops.size false) s hs.refsD hG (by simp) (by simpa using hB) h
 have := any_sound (B := B) (S0 := S) (w0 := w) (Qc := fun e a' w' => ∃ s' S' M', Q e s' ∧ Sim B S' M' s' a' w' ∧ Ext B S S' w w') (fun s' S' M' a' w' h1 h2 h3 => ⟨s', S', M', h1, h2, h3⟩) _ _ s this S M a _ hs' he
 simpa using this
theorem awp_drawS {id : Nat} {Q : Exit → St → Prop} {s : St} (D : List (Nat × Nat)) (hm : P.follows .mixedOrders = true) (hB : drawSB D ops = true) (hD : apartB s D = true) (h : lexA P ops (Q .normal) ops.toList s) : awp P (.region id ops true) Q s := awp_drawA D [] hm hB hD rfl h
theorem vDrawA {id : Nat} {l : List Oper} {Q : Exit → St → Prop} {s : St} (D D2 : List (Nat × Nat)) (hm : P.follows .mixedOrders = true) (hB : drawSB D l.toArray D2 = true) (hD : apartB s D = true) (hE : apartB2 s D2 = true) (h : @vA P false ⟨@vQ ⟨Q⟩ .normal⟩ ⟨l⟩ ⟨l⟩ s) : awp P (.region id l.toArray true) Q s :=
 awp_drawA D D2 hm hB hD hE (by rw [List.toList_toArray]; exact vcA_lex l s h)
theorem vDrawS {id : Nat} {l : List Oper} {Q : Exit → St → Prop} {s : St} (D : List (Nat × Nat)) (hm : P.follows .mixedOrders = true) (hB : drawSB D l.toArray = true) (hD : apartB s D = true) (h : @vA P false ⟨@vQ ⟨Q⟩ .normal⟩ ⟨l⟩ ⟨l⟩ s) : awp P (.region id l.toArray true) Q s :=
 awp_drawS D hm hB hD (by rw [List.toList_toArray]; exact vcA_lex l s h)
end
end Go.PL
namespace Go.PL
open Go.RowKit
set_option linter.unusedVariables false
section
variable {P : Program} {s : St} {Q : Exit → St → Prop}
def mkStO (n : Nat) (L : List (Nat × PV)) (H : List (Nat × List PV × Bool)) (R : List (Nat × Row)) (O : List (Nat × MapC)) (I : List (Nat × IterC)) : St :=
 { fr := upds L fun _ => .any, m := { h := upds (H.map fun x => (x.1, some x.2.1)) fun _ => none, z := upds (H.map fun x => (x.1, x.2.2)) fun _ => false, q := upds (R.map fun x => (x.1, some x.2)) fun _ => none, o := upds (O.map fun x => (x.1, some x.2)) fun _ => none, it := upds (I.map fun x => (x.1, some x.2)) fun _ => none, om := fun _ => none, v := fun _ => none, ph := fun _ => none, pq := fun _ => none, vm := fun _ => false }, n := n }
structure HasO (n : Nat) (L : List (Nat × PV)) (H : List (Nat × List PV × Bool)) (R : List (Nat × Row)) (O : List (Nat × MapC)) (I : List (Nat × IterC)) (s : St) : Prop where
 b : Has n L H R s
 o : ∀ x ∈ O, s.m.o x.1 = some x.2
 it : ∀ x ∈ I, s.m.it x.1 = some x.2
theorem upds_weak {α : Type} (O : List (Nat × α)) (f : Nat → Option α) (h : ∀ x ∈ O, f x.1 = some x.2) (i : Nat) : upds (O.map fun x => (x.1, some x.2)) (fun _ => none) i = none ∨ upds (O.map fun x => (x.1, some x.2)) (fun _ => none) i = f i := by
 have m1 : (O.map fun x => (x.1, some x.2)).map (·.1) = O.map (·.1) := by simp
 by_cases hi : (O.map (·.1)).contains i = true
 ·right
  refine upds_all (R := fun i v => v = f i) (fun x hx => ?_) (by rw [m1]; exact hi)
  obtain ⟨y, hy, rfl⟩ := List.mem_map.1 hx; exact (h y hy).symm
 ·exact .inl (upds_ne (by rw [m1]; simpa using hi))
theorem HasO.weak {n : Nat} {L : List (Nat × PV)} {H : List (Nat × List PV × Bool)} {R : List (Nat × Row)} {O : List (Nat × MapC)} {I : List (Nat × IterC)} (h : HasO n L H R O I s) : Weak (mkStO n L H R O I) s :=
 ⟨h.b.weak.n, h.b.weak.fr, h.b.weak.h, h.b.weak.q, upds_weak O s.m.o h.o, upds_weak I s.m.it h.it, fun _ => .inl rfl, fun _ => .inl rfl, fun _ => .inl rfl, fun _ => .inl rfl⟩
theorem Refs.mkStO {n : Nat} {L : List (Nat × PV)} {H : List (Nat × List PV × Bool)} {R : List (Nat × Row)} {O : List (Nat × MapC)} {I : List (Nat × IterC)} (h : toldB L H R) : Refs (mkStO n L H R O I) := by
 have k := Refs.mkSt (n := n) h
 have lv : ∀ r, Live (PL.mkSt n L H R).m r → Live (PL.mkStO n L H R O I).m r := fun r hr => by cases r <;> exact hr
 exact ⟨fun i r hr => lv r (k.fr i r hr), fun i cs hi c hc r hr => lv r (k.h i cs hi c hc r hr), fun i es hi => (by cases hi), fun b c hc => (by cases hc)⟩
def NextO {ι : Type} (n : Nat) (L : ι → List (Nat × PV)) (H : ι → List (Nat × List PV × Bool)) (R : ι → List (Nat × Row)) (O : ι → List (Nat × MapC)) (I : ι → List (Nat × IterC)) (μ : ι → Nat) (i : ι) (s' : St) : Prop := ∃ j, μ j < μ i ∧ HasO n (L j) (H j) (R j) (O j) (I j) s'
def SomeO {ι : Type} (n : Nat) (L : ι → List (Nat × PV)) (H : ι → List (Nat × List PV × Bool)) (R : ι → List (Nat × Row)) (O : ι → List (Nat × MapC)) (I : ι → List (Nat × IterC)) (s' : St) : Prop := ∃ j, HasO n (L j) (H j) (R j) (O j) (I j) s'
theorem vLoopO {c : Code} {ι : Type} (n : Nat) (L : ι → List (Nat × PV)) (H : ι → List (Nat × List PV × Bool)) (R : ι → List (Nat × Row)) (O : ι → List (Nat × MapC)) (I : ι → List (Nat × IterC)) (μ : ι → Nat) (i0 : ι)
  (h0 : HasO n (L i0) (H i0) (R i0) (O i0) (I i0) s) (hr : ∀ i, toldB (L i) (H i) (R i))
  (round : ∀ i, @vC P ⟨c⟩ ⟨thenQ (NextO n L H R O I μ i) Q⟩ (mkStO n (L i) (H i) (R i) (O i) (I i))) : awp P (.loop c) Q s :=
 awp_loop_gen (fun i => mkStO n (L i) (H i) (R i) (O i) (I i)) μ i0 h0.weak (fun _ i => Refs.mkStO (hr i)) fun i => awp_mono (fun e s' h => by
  cases e with
  | normal => obtain ⟨j, hj, hm⟩ := h; exact ⟨j, hj, hm.weak⟩
  | _ => exact h) (vc_sound _ _ _ (round i))
theorem vScopeO {c : Code} {ι : Type} (n : Nat) (L : ι → List (Nat × PV)) (H : ι → List (Nat × List PV × Bool)) (R : ι → List (Nat × Row)) (O : ι → List (Nat × MapC)) (I : ι → List (Nat × IterC)) (μ : ι → Nat) (l : Nat) (z : Code) (hf : findLabel c l = some (.seq .skip z)) (hr : ∀ i, toldB (L i) (H i) (R i))
  (pass : ∀ i, @vC P ⟨z⟩ ⟨gotoQ (gotoJ l (NextO n L H R O I μ i)) Q⟩ (mkStO n (L i) (H i) (R i) (O i) (I i)))
  (first : (∀ j s', HasO n (L j) (H j) (R j) (O j) (I j) s' → awp P z (gotoQ (gotoJ l (SomeO n L H R O I)) Q) s') → @vC P ⟨c⟩ ⟨gotoQ (gotoJ l (SomeO n L H R O I)) Q⟩ s) : awp P (.scope c) Q s := by
 have sk : ∀ {Q : Exit → St → Prop} {s : St}, awp P z Q s → awp P (.seq .skip z) Q s := fun h => awp_seq (awp_skip h)
 have passA : ∀ i, awp P (.seq .skip z) (gotoQ (fun l' s' => ∃ j, l = l' ∧ μ j < μ i ∧ Weak (mkStO n (L j) (H j) (R j) (O j) (I j)) s') Q) (mkStO n (L i) (H i) (R i) (O i) (I i)) := fun i =>
  sk (awp_mono (fun e s' h => by
   cases e with
   | goto l' => obtain ⟨rfl, j, hj, hm⟩ := h; exact ⟨j, rfl, hj, hm.weak⟩
   | _ => exact h) (vc_sound _ _ _ (pass i)))
 refine awp_scope (fun _ : ι => l) (fun _ => .seq .skip z) (fun i => mkStO n (L i) (H i) (R i) (O i) (I i)) μ (fun _ => hf) (fun _ i => Refs.mkStO (hr i)) (fun i _ => passA i) fun cut => ?_
 have key := first fun j s' hs' B S M a w hsim => by
  have hp := vc_sound _ _ _ (pass j) B S M a w (hsim.weak hs'.weak (Refs.mkStO (hr j)))
  refine wp_mono hp fun e a' w' ⟨s1, S1, M1, h1, h2, h3⟩ => ⟨s1, S1, M1, ?_, h2, h3⟩
  cases e with
  | goto l' => obtain ⟨e, j, _, hm⟩ := h1; exact ⟨e, j, hm⟩
  | _ => exact h1
 refine awp_mono (fun e s' h => ?_) (vc_sound _ _ _ key)
 cases e with
 | goto l' => obtain ⟨rfl, j, hm⟩ := h; exact ⟨j, rfl, hm.weak⟩
 | _ => exact h
theorem awp_plain {c : Code} (i d : Nat) (es : List PV) (hi : s.fr i = .sl (.row d) es) (h : awp P c Q { s with fr := upd s.fr i (.sl .no es) }) : awp P c Q s := fun B S M a w hs => by
 have hrow := hs.fr i
 rw [hi] at hrow
 have key : Rep S (a.tmps.getD i undef) (.sl .no es) := hrow.sl_inv
 refine h B S M a w ⟨hs.defers, hs.hn, hs.hB, hs.stable, fun k => ?_, fun k r hr => ?_, hs.blk, hs.row, hs.inj, hs.injq, hs.injx, hs.rm, hs.vc, hs.pn⟩
 ·show RepS _ _ _ _ (upd s.fr i (.sl .no es) k)
  by_cases e : i = k
  ·subst e; rw [upd_same]; exact .clean key
  ·rw [upd_ne _ _ e]; exact hs.fr k
 ·have hr' : r ∈ (upd s.fr i (.sl .no es) k).ids := hr
  by_cases e : i = k
  ·subst e; rw [upd_same] at hr'; simp [PV.ids] at hr'
  ·rw [upd_ne _ _ e] at hr'; exact hs.ids k r hr'
def St.initO (args : List PV) (n b : Nat) (c : MapC) : St := ⟨initFr 0 args, ⟨fun _ => none, fun _ => false, fun _ => none, upd (fun _ => none) b (some c), fun _ => none, fun _ => none, fun _ => none, fun _ => none, fun _ => none, fun _ => false⟩, n⟩
def wRetQ (P : Program) (rs : List ResultVar) (r : PV) (b : Nat) (c' : MapC) : Exit → St → Prop
 | .normal, s => vRet P r s [] rs ∧ s.m.o b = some c'
 | .ret, s => vRet P r s [] rs ∧ s.m.o b = some c'
 | _, _ => False
def sRetQ (P : Program) (rs : List ResultVar) (r : PV) : Exit → St → Prop
 | .normal, s => ∃ r', vRet P r' s [] rs ∧ r = r'.shut s.m.o
 | .ret, s => ∃ r', vRet P r' s [] rs ∧ r = r'.shut s.m.o
 | _, _ => False
def mRetQ (t : Nat) (r : Nat → PV) (c : MapC) : Exit → St → Prop
 | .ret, s => ∃ b id cs, s.fr t = .ptr id 0 ∧ s.m.h id = some cs ∧ PV.idsL cs = [] ∧ s.m.o b = some c ∧ r b = .rptr cs
 | _, _ => False
theorem vQ_wret_ret (rs : List ResultVar) (r : PV) (b : Nat) (c' : MapC) (s : St) : @vQ ⟨wRetQ P rs r b c'⟩ .ret s = (vRet P r s [] rs ∧ s.m.o b = some c') := rfl
theorem vQ_wret_normal (rs : List ResultVar) (r : PV) (b : Nat) (c' : MapC) (s : St) : @vQ ⟨wRetQ P rs r b c'⟩ .normal s = (vRet P r s [] rs ∧ s.m.o b = some c') := rfl
theorem vQ_sret_ret (rs : List ResultVar) (r : PV) (s : St) : @vQ ⟨sRetQ P rs r⟩ .ret s = ∃ r', vRet P r' s [] rs ∧ r = r'.shut s.m.o := rfl
theorem vQ_sret_normal (rs : List ResultVar) (r : PV) (s : St) : @vQ ⟨sRetQ P rs r⟩ .normal s = ∃ r', vRet P r' s [] rs ∧ r = r'.shut s.m.o := rfl
theorem vQ_mret_ret (t : Nat) (r : Nat → PV) (c : MapC) (s : St) : @vQ ⟨mRetQ t r c⟩ .ret s = ∃ b id cs, s.fr t = .ptr id 0 ∧ s.m.h id = some cs ∧ PV.idsL cs = [] ∧ s.m.o b = some c ∧ r b = .rptr cs := rfl
theorem init_rep {S : Stable} {vs : List Value} {args : List PV} {n : Nat} (hl : vs.length = args.length) (hr : ∀ i, i < args.length → Rep S (vs.getD i undef) (args.getD i .any)) (i : Nat) :
  Rep S (((⟨vs⟩ : Array Value) ++ Array.replicate (n - vs.length) undef).getD i undef) (initFr 0 args i) := by
 rw [initFr_getD args 0 i (Nat.zero_le _), Nat.sub_zero]
 by_cases hi : i < args.length
 ·have := hr i hi
  rw [getD_lt hi] at this ⊢
  rw [getD_lt (by omega)] at this
  have e : ((⟨vs⟩ : Array Value) ++ Array.replicate (n - vs.length) undef).getD i undef = vs[i]'(by omega) := by
   rw [Array.getD_eq_getD_getElem?, Array.getElem?_append_left (by simp; omega)]
   simp [show i < vs.length by omega]
  rw [e]; exact this
 ·rw [getD_ge (by omega)]
  have e : ((⟨vs⟩ : Array Value) ++ Array.replicate (n - vs.length) undef).getD i undef = undef := by
   rw [Array.getD_eq_getD_getElem?, Array.getElem?_append_right (by simp; omega)]
   simp only [Array.getElem?_replicate]
   split <;> rfl
  rw [e]
  exact .tup [] [] rfl (fun i hi => by simp at hi)
theorem sim_init {B : Frm} {S : Stable} {w : World} {vs : List Value} {args : List PV} {n : Nat} {o : Nat → Option MapC} (hn : args.length ≤ n) (hl : vs.length = args.length) (hr : ∀ i, i < args.length → Rep S (vs.getD i undef) (args.getD i .any))
  (hB : ∀ k, B k → k < w.heap.size) (hst : Stab B S w o (fun _ => none)) :
  Sim B S ⟨id, id, id⟩ ⟨initFr 0 args, ⟨fun _ => none, fun _ => false, fun _ => none, o, fun _ => none, fun _ => none, fun _ => none, fun _ => none, fun _ => none, fun _ => false⟩, n⟩ { tmps := ⟨vs⟩ ++ Array.replicate (n - vs.length) undef, defers := [] } w := by
 refine ⟨rfl, ?_, hB, hst, fun i => .clean (init_rep hl hr i), fun i id hid => absurd hid ((init_rep (n := n) hl hr i).clean_ids id), fun id cs hid => ?_, fun id r hid => ?_, fun id id' cs cs' hid => ?_, fun id id' r r' hid => ?_, fun id id' cs r hid => ?_, fun b c hid => ?_, fun i es hid => ?_, ⟨fun _ _ h => by simp at h, fun _ _ _ _ h => by simp at h⟩⟩
 ·simp; omega
 ·simp at hid
 ·simp at hid
 ·simp at hid
 ·simp at hid
 ·simp at hid
 ·simp at hid
 ·simp at hid
theorem vRet_run {B : Frm} {S : Stable} {M : Maps} {s : St} {a : Act} {w : World} {fn : Func} {r : PV} {rs : List ResultVar} (hs : Sim B S M s a w) (hrs : fn.results = rs.toArray) (h : vRet P r s [] rs) : ∃ v, (results fn a.tmps).run P w = .ok v w ∧ Rep S v r := by
 obtain ⟨g1, g2, g3⟩ := vRet_retP (fn := fn) rs [] h
 have hl : fn.results.toList = rs := by rw [hrs]
 have g1' : allOk (fn.results.toList.map (resV P s)) := by rw [hl]; exact g1
 obtain ⟨v, hv, hrv⟩ := results_sound hs g1'
 rw [hl] at hrv
 refine ⟨v, hv, ?_⟩
 rw [g3]
 simp only [List.reverse_nil, List.nil_append] at g2 ⊢
 exact hrv.give hs g2
theorem Wr.of_v {f : FuncId} {fn : Func} {c : Code} {args : Nat → List PV} {r : PV} {n : Nat} {rs : List ResultVar} {mc mc' : MapC} (hf : P.funcs[f]? = some fn) (hname : fn.name ≠ "runtime.NumGoroutine") (hb : fn.body = some c) (hn : fn.ntmps = n) (hrs : fn.results = rs.toArray) (hl : ∀ b, (args b).length ≤ n) (hi : r.dids = [])
  (h : ∀ b, @vC P ⟨c⟩ ⟨wRetQ P rs r b mc'⟩ (St.initO (args b) n b mc)) : Wr P f args mc r mc' := by
 subst hn
 refine ⟨⟨fn, hf, hname, by rw [hb]; rfl⟩, hi, fun b w S vs hst hSb hmap hlen hr => ?_⟩
 refine calls_of_wp hf hb ?_
 have hs := sim_init (B := fun k => k < w.heap.size ∧ k ≠ b) (w := w) (n := fn.ntmps) (o := upd (fun _ => none) b (some mc)) (hl b) hlen hr (fun k hk => hk.1)
  ⟨hst, fun k d hd => (by
   by_cases e : b = k
   ·subst e; rw [upd_same] at hd; cases hd; exact ⟨fun hh => hh.2 rfl, hSb, hmap⟩
   ·rw [upd_ne _ _ e] at hd; cases hd), fun k x hx => (by cases hx)⟩
 have hsz : (⟨vs⟩ : Array Value).size = vs.length := by simp
 rw [hsz]
 refine wp_mono (vc_sound _ _ _ (h b) _ S _ _ w hs) fun e a' w' hq => ?_
 obtain ⟨s', S', M', h1, h2, h3⟩ := hq
 have fin : vRet P r s' [] rs ∧ s'.m.o b = some mc' → a'.defers = [] ∧ ∃ v, (results fn a'.tmps).run P w' = .ok v w' ∧ ∃ v' S', Ending.returned v = .returned v' ∧ Rep S' v' r ∧ StabS S' w' ∧ SLe S S' ∧ (∀ k, k < w.heap.size → k ≠ b → (∀ o, S' k o = S k o) ∧ S'.m k = S.m k) ∧ S'.m b = none ∧ MapAt S' w' b mc' ∧ BelowF (fun k => k < w.heap.size ∧ k ≠ b) w w' := by
  rintro ⟨g1, g2⟩
  obtain ⟨v, hv, hrv⟩ := vRet_run h2 hrs g1
  obtain ⟨_, k2, k3⟩ := h2.stable.o b mc' g2
  exact ⟨h2.defers, v, hv, v, S', rfl, hrv, h2.stable.s, h3.1, fun k hk hkb => h3.2.1 k ⟨hk, hkb⟩, k2, k3, h3.2.2⟩
 cases e with
 | normal => exact fin h1
 | ret => exact fin h1
 | _ => exact h1.elim
theorem Pure.of_vs {f : FuncId} {fn : Func} {c : Code} {args : List PV} {r : PV} {n : Nat} {rs : List ResultVar} (hf : P.funcs[f]? = some fn) (hname : fn.name ≠ "runtime.NumGoroutine") (hb : fn.body = some c) (hn : fn.ntmps = n) (hrs : fn.results = rs.toArray) (hl : args.length ≤ n) (hi : r.dids = [])
  (h : @vC P ⟨c⟩ ⟨sRetQ P rs r⟩ (St.init args n)) : Pure P f args r := by
 subst hn
 refine ⟨⟨fn, hf, hname, by rw [hb]; rfl⟩, hi, fun w S vs hst hlen hr => ?_⟩
 refine calls_of_wp hf hb ?_
 have hs := sim_init (B := fun k => k < w.heap.size) (w := w) (n := fn.ntmps) (o := fun _ => none) hl hlen hr (fun k hk => hk) ⟨hst, fun k d hd => (by cases hd), fun k x hx => (by cases hx)⟩
 have hsz : (⟨vs⟩ : Array Value).size = vs.length := by simp
 rw [hsz]
 refine wp_mono (vc_sound _ _ _ h _ S _ _ w hs) fun e a' w' hq => ?_
 obtain ⟨s', S', M', h1, h2, h3⟩ := hq
 have fin : (∃ r', vRet P r' s' [] rs ∧ r = r'.shut s'.m.o) → a'.defers = [] ∧ ∃ v, (results fn a'.tmps).run P w' = .ok v w' ∧ ∃ v' S', Ending.returned v = .returned v' ∧ Rep S' v' r ∧ StabS S' w' ∧ SLe S S' ∧ (∀ b, b < w.heap.size → (∀ o, S' b o = S b o) ∧ S'.m b = S.m b) ∧ Below w.heap.size w w' := by
  rintro ⟨r', g1, rfl⟩
  obtain ⟨v, hv, hrv⟩ := vRet_run h2 hrs g1
  refine ⟨h2.defers, v, hv, v, sealS S' w' s'.m.o, rfl, hrv.shut h2.stable, sealS_stab h2.stable, h3.1.trans (sealS_le h2.stable), fun k hk => ⟨(h3.2.1 k hk).1, ?_⟩, h3.2.2.to⟩
  rw [← (h3.2.1 k hk).2]
  cases ho : s'.m.o k with
  | none => simp [sealS, ho]
  | some d => exact absurd hk (h2.stable.o k d ho).1
 cases e with
 | normal => exact fin h1
 | ret => exact fin h1
 | _ => exact h1.elim
theorem Mk.of_v {f : FuncId} {fn : Func} {c : Code} {args : List PV} {r : Nat → PV} {n t : Nat} {mc : MapC} (hf : P.funcs[f]? = some fn) (hname : fn.name ≠ "runtime.NumGoroutine") (hb : fn.body = some c) (hn : fn.ntmps = n) (hrs : fn.results = #[.tmp t]) (hl : args.length ≤ n) (hi : ∀ b, (r b).dids = [])
  (h : @vC P ⟨c⟩ ⟨mRetQ t r mc⟩ (St.init args n)) : Mk P f args r mc := by
 subst hn
 refine ⟨⟨fn, hf, hname, by rw [hb]; rfl⟩, hi, fun w S vs hst hlen hr => ?_⟩
 refine calls_of_wp hf hb ?_
 have hs := sim_init (B := fun k => k < w.heap.size) (w := w) (n := fn.ntmps) (o := fun _ => none) hl hlen hr (fun k hk => hk) ⟨hst, fun k d hd => (by cases hd), fun k x hx => (by cases hx)⟩
 have hsz : (⟨vs⟩ : Array Value).size = vs.length := by simp
 rw [hsz]
 refine wp_mono (vc_sound _ _ _ h _ S _ _ w hs) fun e a' w' hq => ?_
 obtain ⟨s', S', M', h1, h2, h3⟩ := hq
 cases e with
 | ret =>
  obtain ⟨b, id, cs, g1, g2, g3, g4, g5⟩ := h1
  obtain ⟨S2, k1, k2⟩ := h2.freeze g2 g3
  have hgiv : (PV.ptr id 0).givable (s'.m.freeze id) := ⟨upd_same _ _ _, by show s'.m.h id ≠ none; rw [g2]; simp⟩
  have hfr := k1.fr t
  have hfr' : RepS S2 M' (s'.with (s'.m.freeze id)).m.q (a'.tmps.getD t undef) (.ptr id 0) := by
   have : (s'.with (s'.m.freeze id)).fr t = .ptr id 0 := g1
   rw [this] at hfr; exact hfr
  have hrep := hfr'.give k1 hgiv
  have hgive : (PV.ptr id 0).give (s'.m.freeze id) = .rptr cs := by
   have e1 : (s'.m.freeze id).z id = true := upd_same _ _ _
   have e2 : (s'.m.freeze id).h id = some cs := g2
   simp [PV.give, e1, e2]
  have hrep' : Rep S2 (a'.tmps.getD t undef) (r b) := by rw [g5, ← hgive]; exact hrep
  obtain ⟨q1, q2, q3⟩ := k1.stable.o b mc g4
  refine ⟨h2.defers, a'.tmps.getD t undef, ?_, a'.tmps.getD t undef, S2, b, rfl, Nat.not_lt.1 q1, hrep', k1.stable.s, h3.1.trans k2.1, fun k hk => ⟨fun o => ((k2.2.1 k hk).1 o).trans ((h3.2.1 k hk).1 o), (k2.2.1 k hk).2.trans (h3.2.1 k hk).2⟩, q2, q3, h3.2.2.to⟩
  simp [results, hrs]
 | _ => exact h1.elim
def rwRetQ (t u : Nat) (es : List PV) (c : PV) (sz : Nat) (e : TypeId) : Exit → St → Prop
 | .ret, s => ∃ k, s.fr t = .sl (.row k) es ∧ s.m.q k = some (.live es.length sz e) ∧ s.fr u = c
 | _, _ => False
theorem vQ_rwret_ret (t u : Nat) (es : List PV) (c : PV) (sz : Nat) (e : TypeId) (s : St) : @vQ ⟨rwRetQ t u es c sz e⟩ .ret s = ∃ k, s.fr t = .sl (.row k) es ∧ s.m.q k = some (.live es.length sz e) ∧ s.fr u = c := rfl
end
attribute [go_sem] vQ_rwret_ret
attribute [go_sem] vQ_wret_ret vQ_wret_normal vQ_sret_ret vQ_sret_normal vQ_mret_ret mkStO St.initO
end Go.PL
namespace Go.PL
open Go.RowKit
set_option linter.unusedVariables false
def Plain (p q : PV) : Prop := q = p ∨ ∃ d es, p = .sl (.row d) es ∧ q = .sl .no es
theorem Plain.row (d : Nat) (es : List PV) : Plain (.sl (.row d) es) (.sl .no es) := .inr ⟨d, es, rfl, rfl⟩
structure WeakP (s' s : St) : Prop where
 n : s'.n = s.n
 fr : ∀ i, s'.fr i = .any ∨ Plain (s.fr i) (s'.fr i)
 h : ∀ i, s'.m.h i = none ∨ (s'.m.h i = s.m.h i ∧ s'.m.z i = s.m.z i)
 q : ∀ i, s'.m.q i = none ∨ s'.m.q i = s.m.q i
 o : ∀ i, s'.m.o i = none ∨ s'.m.o i = s.m.o i
 it : ∀ i, s'.m.it i = none ∨ s'.m.it i = s.m.it i
 om : ∀ i, s'.m.om i = none ∨ s'.m.om i = s.m.om i
 v : ∀ i, s'.m.v i = none ∨ (s'.m.v i = s.m.v i ∧ s'.m.q i = s.m.q i)
 ph : ∀ i, s'.m.ph i = none ∨ (s'.m.ph i = s.m.ph i ∧ s'.m.h i = s.m.h i)
 pq : ∀ i, s'.m.pq i = none ∨ (s'.m.pq i = s.m.pq i ∧ s'.m.q i = s.m.q i)
section
variable {P : Program} {B : Frm} {S : Stable} {M : Maps} {s s' : St} {a : Act} {w : World} {Q Q' : Exit → St → Prop}
structure HasP (n : Nat) (L : List (Nat × PV)) (H : List (Nat × List PV × Bool)) (R : List (Nat × Row)) (s : St) : Prop where
 n : s.n = n
 fr : ∀ x ∈ L, Plain (s.fr x.1) x.2
 h : ∀ x ∈ H, s.m.h x.1 = some x.2.1 ∧ s.m.z x.1 = x.2.2
 q : ∀ x ∈ R, s.m.q x.1 = some x.2
end
end Go.PL
namespace Go.PL
set_option linter.unusedVariables false
set_option linter.unusedSimpArgs false
def flOf (n : Int) : Nat := FloatKind.f64.nearest n
theorem cut_zero (way : Ieee.Toward) (neg : Bool) (n : Nat) : way.cut neg n 0 = n := by
 unfold Ieee.Toward.cut
 simp only [Nat.zero_min, Nat.shiftLeft_zero, Nat.div_one, Nat.mod_one]
 cases way <;> simp
theorem nearest_norm (neg : Bool) (m : Nat) (h0 : m ≠ 0) (h : m.log2 ≤ 52) : Ieee.double.nearest neg m 0 = Ieee.double.word neg ((m.log2 + 1022) * 2 ^ 52 + m <<< (52 - m.log2)) := by
 unfold Ieee.Format.nearest
 rw [if_neg h0]
 have e1 : Ieee.double.leastPlace = -1074 := by decide
 have e2 : (Ieee.double.fractionBits : Int) = 52 := rfl
 have e3 : Ieee.double.binade = 2 ^ 52 := rfl
 have e4 : Ieee.double.infRung = 2047 * 2 ^ 52 := by decide
 have e5 : max (0 + (m.log2 : Int) - (Ieee.double.fractionBits : Int)) Ieee.double.leastPlace = (m.log2 : Int) - 52 := by rw [e1, e2]; omega
 rw [e1] at e5
 simp only [e1, e3, e4, e5]
 have t1 : (0 - ((m.log2 : Int) - 52)).toNat = 52 - m.log2 := by omega
 have t2 : ((m.log2 : Int) - 52 - 0).toNat = 0 := by omega
 have t3 : ((m.log2 : Int) - 52 - -1074).toNat = m.log2 + 1022 := by omega
 rw [t1, t2, t3, cut_zero]
 have hlt : m < 2 ^ (m.log2 + 1) := Nat.lt_log2_self
 have hs : m <<< (52 - m.log2) < 2 ^ 53 := by
  rw [Nat.shiftLeft_eq]
  calc m * 2 ^ (52 - m.log2) < 2 ^ (m.log2 + 1) * 2 ^ (52 - m.log2) := Nat.mul_lt_mul_of_pos_right hlt (Nat.two_pow_pos _)
   _ = 2 ^ 53 := by rw [← Nat.pow_add]; congr 1; omega
 congr 1
 rw [Nat.min_eq_left]
 omega
theorem read_word (neg : Bool) (rung : Nat) (h1 : 2 ^ 52 ≤ rung) (h2 : rung < 2047 * 2 ^ 52) : Ieee.double.read (Ieee.double.word neg rung) = .number neg (2 ^ 52 + rung % 2 ^ 52) (-1074 + (rung / 2 ^ 52 - 1 : Nat)) := by
 have e1 : Ieee.double.leastPlace = -1074 := by decide
 have e3 : Ieee.double.binade = 2 ^ 52 := rfl
 have e4 : Ieee.double.infRung = 2047 * 2 ^ 52 := by decide
 have e5 : Ieee.double.signWeight = 2 ^ 63 := rfl
 unfold Ieee.Format.read Ieee.Format.word
 cases neg
 ·simp only [Bool.false_eq_true, if_false, e1, e3, e4, e5]
  have d1 : rung / 2 ^ 63 = 0 := by omega
  have d2 : rung % 2 ^ 63 = rung := by omega
  rw [d1, d2, if_neg (by omega), if_pos h2]
  rfl
 ·simp only [if_true, e1, e3, e4, e5]
  have d1 : (2 ^ 63 + rung) / 2 ^ 63 = 1 := by omega
  have d2 : (2 ^ 63 + rung) % 2 ^ 63 = rung := by omega
  rw [d1, d2, if_neg (by omega), if_pos h2]
  rfl
theorem read_fl (n : Int) (h : n.natAbs < 2 ^ 53) : ∃ p : Int, p ≤ 0 ∧ FloatKind.f64.decode (flOf n) = .number (decide (n < 0)) (n.natAbs <<< (-p).toNat) p := by
 show ∃ p : Int, p ≤ 0 ∧ Ieee.double.read (Ieee.double.nearest (decide (n < 0)) n.natAbs 0) = _
 by_cases h0 : n = 0
 ·subst h0
  exact ⟨-1074, by omega, by decide +kernel⟩
 ·have hm : n.natAbs ≠ 0 := by omega
  have hl : n.natAbs.log2 ≤ 52 := by
   have : n.natAbs.log2 < 53 := (Nat.log2_lt hm).2 h
   omega
  rw [nearest_norm _ _ hm hl]
  generalize n.natAbs = m at *
  have hlt : m < 2 ^ (m.log2 + 1) := Nat.lt_log2_self
  have hge : 2 ^ m.log2 ≤ m := Nat.log2_self_le hm
  have hs : m <<< (52 - m.log2) < 2 ^ 53 := by
   rw [Nat.shiftLeft_eq]
   calc m * 2 ^ (52 - m.log2) < 2 ^ (m.log2 + 1) * 2 ^ (52 - m.log2) := Nat.mul_lt_mul_of_pos_right hlt (Nat.two_pow_pos _)
    _ = 2 ^ 53 := by rw [← Nat.pow_add]; congr 1; omega
  have hs2 : 2 ^ 52 ≤ m <<< (52 - m.log2) := by
   rw [Nat.shiftLeft_eq]
   calc 2 ^ 52 = 2 ^ m.log2 * 2 ^ (52 - m.log2) := by rw [← Nat.pow_add]; congr 1; omega
    _ ≤ m * 2 ^ (52 - m.log2) := Nat.mul_le_mul_right _ hge
  generalize hsg : m <<< (52 - m.log2) = sg at *
  rw [read_word _ _ (by omega) (by omega)]
  refine ⟨(m.log2 : Int) - 52, by omega, ?_⟩
  have t1 : (-((m.log2 : Int) - 52)).toNat = 52 - m.log2 := by omega
  have t2 : 2 ^ 52 + ((m.log2 + 1022) * 2 ^ 52 + sg) % 2 ^ 52 = sg := by omega
  have t3 : (-1074 : Int) + (((m.log2 + 1022) * 2 ^ 52 + sg) / 2 ^ 52 - 1 : Nat) = (m.log2 : Int) - 52 := by omega
  rw [t1, hsg, t2, t3]
theorem signed_eq (n : Int) (k : Nat) : Ieee.signed (decide (n < 0)) (n.natAbs <<< k) 0 = n * 2 ^ k := by
 unfold Ieee.signed
 rw [Nat.shiftLeft_zero, Nat.shiftLeft_eq]
 by_cases h : n < 0
 ·simp only [h, decide_true, if_true]
  have : (n.natAbs : Int) = -n := by omega
  push_cast
  rw [this, Int.neg_mul, Int.neg_neg]
 ·simp only [h, decide_false, Bool.false_eq_true, if_false]
  have : (n.natAbs : Int) = n := by omega
  push_cast
  rw [this]
theorem signed_up (neg : Bool) (m k : Nat) : Ieee.signed neg m k = Ieee.signed neg (m <<< k) 0 := rfl
theorem compare_scale (a b : Int) (k : Nat) : compare (a * 2 ^ k) (b * 2 ^ k) = compare a b := by
 have hp : (0 : Int) < 2 ^ k := Int.pow_pos (by omega)
 rcases Int.lt_trichotomy a b with h | h | h
 ·rw [Int.compare_eq_lt.2 h, Int.compare_eq_lt.2 (Int.mul_lt_mul_of_pos_right h hp)]
 ·subst h; simp
 ·rw [Int.compare_eq_gt.2 h, Int.compare_eq_gt.2 (Int.mul_lt_mul_of_pos_right h hp)]
theorem order_fl (a b : Int) (ha : a.natAbs < 2 ^ 53) (hb : b.natAbs < 2 ^ 53) : FloatKind.f64.format.order (flOf a) (flOf b) = some (compare a b) := by
 obtain ⟨p, p0, hp⟩ := read_fl a ha
 obtain ⟨q, q0, hq⟩ := read_fl b hb
 unfold FloatKind.decode at hp hq
 unfold Ieee.Format.order
 rw [hp, hq]
 simp only [Ieee.Datum.order]
 congr 1
 rw [signed_up _ _ (p - min p q).toNat, signed_up _ _ (q - min p q).toNat, ← Nat.shiftLeft_add, ← Nat.shiftLeft_add]
 have e1 : (-p).toNat + (p - min p q).toNat = (-(min p q)).toNat := by omega
 have e2 : (-q).toNat + (q - min p q).toNat = (-(min p q)).toNat := by omega
 rw [e1, e2, signed_eq, signed_eq, compare_scale]
theorem cut_whole (neg : Bool) (m k : Nat) : Ieee.Toward.zero.cut neg (m <<< k) k = m := by
 unfold Ieee.Toward.cut
 by_cases hm : m = 0
 ·subst hm; simp
 ·have h : k ≤ (m <<< k).log2 := by
   have hne : m <<< k ≠ 0 := by rw [Nat.shiftLeft_eq]; exact Nat.mul_ne_zero hm (by have := Nat.two_pow_pos k; omega)
   rw [Nat.le_log2 hne, Nat.shiftLeft_eq]
   exact Nat.le_mul_of_pos_left _ (by omega)
  rw [Nat.min_eq_left (by omega), Nat.shiftLeft_eq m, Nat.shiftLeft_eq 1, Nat.one_mul]
  simp only [Nat.mul_div_cancel _ (Nat.two_pow_pos k)]
  simp
theorem integral_fl (n : Int) (h : n.natAbs < 2 ^ 53) : (FloatKind.f64.decode (flOf n)).integral .zero = .number (decide (n < 0)) n.natAbs 0 := by
 obtain ⟨p, p0, hp⟩ := read_fl n h
 rw [hp]
 simp only [Ieee.Datum.integral]
 have e : p.toNat = 0 := by omega
 rw [e, Nat.shiftLeft_zero, cut_whole]
theorem toInt_fl (n : Int) (h : n.natAbs < 2 ^ 53) : (FloatKind.f64.decode (flOf n)).toInt .zero = some n := by
 unfold Ieee.Datum.toInt
 rw [integral_fl n h]
 simp only
 have := signed_eq n 0
 rw [Nat.shiftLeft_zero] at this
 rw [this]
 simp
theorem trunc_fl (n : Int) (h : n.natAbs < 2 ^ 53) : FloatKind.f64.encode ((FloatKind.f64.decode (flOf n)).integral .zero) = flOf n := by
 rw [integral_fl n h]; rfl
theorem number_fl (n : Int) (h : n.natAbs < 2 ^ 53) : ∃ s m p, FloatKind.f64.decode (flOf n) = .number s m p := by
 obtain ⟨p, _, hp⟩ := read_fl n h
 exact ⟨_, _, _, hp⟩
end Go.PL
namespace Go.PL
open Go.RowKit
set_option linter.unusedVariables false
def dropC : Nat → Code → Code
 | 0, c => c
 | k + 1, .seq _ b => dropC k b
 | _ + 1, c => c
def tawp (P : Program) (Q1 : St → Prop) : Nat → Code → St → Prop
 | 0, _, s => Q1 s
 | k + 1, .seq a b, s => awp P a (thenQ (tawp P Q1 k b) fun _ _ => False) s
 | _ + 1, _, _ => False
theorem tawp_seq {P : Program} {Q1 : St → Prop} {k : Nat} {a b : Code} {s : St} (h : @vC P ⟨a⟩ ⟨thenQ (tawp P Q1 k b) fun _ _ => False⟩ s) : tawp P Q1 (k + 1) (.seq a b) s := vc_sound _ _ _ h
theorem tawp_sound {P : Program} {Q1 : St → Prop} {Φ : Exit → Act → World → Prop} {B : Frm} {S0 : Stable} {w0 : World} : ∀ (k : Nat) (c : Code) (s : St) (S : Stable) (M : Maps) (a : Act) (w : World), tawp P Q1 k c s → Sim B S M s a w → Ext B S0 S w0 w →
  (∀ s' S' M' a' w', Q1 s' → Sim B S' M' s' a' w' → Ext B S0 S' w0 w' → (dropC k c).wp P Φ a' w') → c.wp P Φ a w
 | 0, c, s, S, M, a, w, h, hs, hx, hk => hk s S M a w h hs hx
 | k + 1, .seq x y, s, S, M, a, w, h, hs, hx, hk => by
  refine wp_seq (wp_mono (h B S M a w hs) fun e a' w' hq => ?_)
  obtain ⟨s', S', M', h1, h2, h3⟩ := hq
  cases e with
  | normal => exact tawp_sound k y s' S' M' a' w' h1 h2 (hx.trans h3) hk
  | _ => exact absurd h1 id
 | k + 1, .skip, s, S, M, a, w, h, _, _, _ => absurd h id
 | k + 1, .label _, s, S, M, a, w, h, _, _, _ => absurd h id
 | k + 1, .ret, s, S, M, a, w, h, _, _, _ => absurd h id
 | k + 1, .exit _, s, S, M, a, w, h, _, _, _ => absurd h id
 | k + 1, .goto _, s, S, M, a, w, h, _, _, _ => absurd h id
 | k + 1, .block _ _, s, S, M, a, w, h, _, _, _ => absurd h id
 | k + 1, .loop _, s, S, M, a, w, h, _, _, _ => absurd h id
 | k + 1, .scope _, s, S, M, a, w, h, _, _, _ => absurd h id
 | k + 1, .cond _ _ _, s, S, M, a, w, h, _, _, _ => absurd h id
 | k + 1, .region _ _ _, s, S, M, a, w, h, _, _, _ => absurd h id
structure Flat (α : Type) [Inhabited α] where
 p : α → PV
 v : α → List Value
 sz : Nat
 pos : 0 < sz
 hp : ∀ x, (p x).cells.length = sz
 hv : ∀ x, (v x).length = sz
 to : ∀ (S : Stable) x j u, j < sz → Rep S u ((p x).cells.getD j .any) → u = (v x).getD j undef
 of : ∀ (S : Stable) x j, j < sz → Rep S ((v x).getD j undef) ((p x).cells.getD j .any)
def RawRow {α : Type} [Inhabited α] (F : Flat α) (w : World) (lo : Nat) (xs : List α) (v : Value) : Prop :=
 (xs.length = 0 ∧ v = .slice none 0 0) ∨ ∃ b c e vs, lo ≤ b ∧ v = .slice (some ⟨b, 0, none⟩) xs.length c ∧ xs.length ≤ c ∧ w.heap[b]? = some (.cells ⟨vs⟩ e (0, 0)) ∧ xs.length * F.sz ≤ vs.length ∧
  ∀ i j, i < xs.length → j < F.sz → vs.getD (i * F.sz + j) undef = (F.v (xs.getD i default)).getD j undef
section
variable {P : Program} {B : Frm} {S : Stable} {M : Maps} {s : St} {a : Act} {w : World} {α : Type} [Inhabited α]
theorem row_raw (F : Flat α) {i d n : Nat} {e : TypeId} {xs : List α} {lo : Nat} (hs : Sim B S M s a w) (hlo : ∀ k, k < lo → B k) (hi : s.fr i = .sl (.row d) (xs.map F.p)) (hq : s.m.q d = some (.live n F.sz e)) (hn : xs.length = n) : RawRow F w lo xs (a.tmps.getD i undef) := by
 have hf := hs.fr i
 rw [hi] at hf
 have ho := hs.row d _ hq
 obtain ⟨o1, o2⟩ := ho
 generalize a.tmps.getD i undef = v at hf
 cases hf with
 | clean r => cases r
 | row _ _ _ r t =>
  obtain ⟨_, t2⟩ := t n F.sz e hq
  obtain ⟨t3, t4⟩ := t2 (by rw [List.length_map]; exact hn)
  cases hk : M.κ d with
  | zero => exact .inl ⟨by rw [hn]; exact o1 hk, t3 hk⟩
  | succ c =>
   obtain ⟨p1, p2, p3, ⟨vs, p4, p5⟩, p6⟩ := o2 c hk
   have hv := t4 c hk
   refine .inr ⟨M.ψ d, c, e, vs, ?_, by rw [hn]; exact hv, by omega, p4, ?_, fun i j hi hj => ?_⟩
   ·exact Nat.le_of_not_lt fun h => p3 (hlo _ h)
   ·rw [p5, hn]; exact Nat.mul_le_mul_right _ p1
   ·rw [hv] at r
    generalize hes : xs.map F.p = es at r
    cases r with
    | sl0 =>
     have : xs.length = 0 := by
      have := congrArg List.length hes
      simpa using this
     omega
    | sl b o cap sz es vals hsz hcap hS hR =>
     have hlen : es.length = xs.length := by rw [← hes]; simp
     have hi' : i < es.length := by omega
     have hcell : es.getD i .any = F.p (xs.getD i default) := by
      rw [← hes, getD_lt (l := xs.map F.p) (by simpa using hi), getD_lt hi]; simp
     have hsz' : sz = F.sz := by have := hsz i hi'; rw [hcell, F.hp] at this; exact this.symm
     subst hsz'
     have hst := hs.stable.s.c _ _ _ (hS i j hi' hj)
     have hr := hR i j hi' hj
     rw [hcell] at hr
     have hval := F.to S _ j _ hj hr
     rw [← hval]
     have hidx : i * F.sz + j < vs.length := by
      have q1 : (i + 1) * F.sz ≤ c * F.sz := Nat.mul_le_mul_right _ (by omega)
      rw [Nat.succ_mul] at q1
      omega
     rw [cell_of p4] at hst
     rw [Nat.zero_add] at hst
     rw [List.getElem?_eq_getElem hidx] at hst
     rw [getD_lt hidx]
     exact Option.some.inj hst
theorem Pure.tail (F : Flat α) {f : FuncId} {fn : Func} {c : Code} {args : List PV} {r : PV} (k i d N : Nat) {Q1 : St → Prop} (G : List α → Prop) (g : List α → List α) (hf : P.funcs[f]? = some fn) (hname : fn.name ≠ "runtime.NumGoroutine") (hb : fn.body = some c) (hl : args.length ≤ fn.ntmps) (hi : r.dids = [])
  (h1 : tawp P Q1 k c (St.init args fn.ntmps))
  (hQ : ∀ s, Q1 s → ∃ xs e, G xs ∧ s.n = N ∧ s.fr i = .sl (.row d) (xs.map F.p) ∧ s.m.q d = some (.live xs.length F.sz e))
  (h2 : ∀ xs lo (a : Act) (w : World), G xs → a.defers = [] → a.tmps.size = N → RawRow F w lo xs (a.tmps.getD i undef) → lo ≤ w.heap.size →
   (dropC k c).wp P (fun ex a' w' => (ex = .normal ∨ ex = .ret) ∧ a'.defers = [] ∧ ∃ v', (results fn a'.tmps).run P w' = .ok v' w' ∧ RawRow F w' lo (g xs) v' ∧ BelowF (fun k => k < lo) w w') a w)
  (hr : ∀ xs, G xs → r = .sl .no ((g xs).map F.p)) : Pure P f args r := by
 refine ⟨⟨fn, hf, hname, by rw [hb]; rfl⟩, hi, fun w S vs hst hlen hrep => ?_⟩
 refine calls_of_wp hf hb ?_
 have hs := sim_init (B := fun k => k < w.heap.size) (w := w) (n := fn.ntmps) (o := fun _ => none) hl hlen hrep (fun k hk => hk) ⟨hst, fun b c hc => by simp at hc, fun b x hx => by simp at hx⟩
 have hsz : (⟨vs⟩ : Array Value).size = vs.length := by simp
 rw [hsz]
 refine tawp_sound (B := fun k => k < w.heap.size) (S0 := S) (w0 := w) k c _ S _ _ w h1 hs (Ext.refl _ _ _) fun s' S' M' a' w' hq hs' hx => ?_
 obtain ⟨xs, e, hg, hsn, hfr, hrow⟩ := hQ s' hq
 have hsize : w.heap.size ≤ w'.heap.size := hx.2.2.size
 have hraw := row_raw F (lo := w.heap.size) hs' (fun k hk => hk) hfr hrow rfl
 have hn : a'.tmps.size = N := by rw [hs'.hn, hsn]
 refine wp_mono (h2 xs w.heap.size a' w' hg hs'.defers hn hraw hsize) fun ex a2 w2 ⟨hex, hdf, v', hv', hrr, hbl⟩ => ?_
 have hr' := hr xs hg
 have hbel : BelowF (fun k => k < w.heap.size) w w2 := hx.2.2.trans hbl
 have fin : ∃ v S', Ending.returned v' = .returned v ∧ Rep S' v r ∧ StabS S' w2 ∧ SLe S S' ∧ (∀ b, b < w.heap.size → (∀ o, S' b o = S b o) ∧ S'.m b = S.m b) ∧ Below w.heap.size w w2 := by
  rw [hr']
  have hold : StabS S w2 := ⟨fun b o u h => by
   have h1 := hst.c b o u h
   have hbl := cell_lt h1
   rw [World.cell?_of_block (w := w) (hbel.block b hbl)]
   exact h1, fun b es h => by
   have h1 := hst.m b es h
   have hbl := (Array.getElem?_eq_some_iff.1 h1).1
   rw [hbel.block b hbl]
   exact h1⟩
  rcases hrr with ⟨h0, hv0⟩ | ⟨b, c', e', us, hb1, hb2, hb3, hb4, hb5, hb6⟩
  ·refine ⟨v', S, rfl, ?_, hold, SLe.refl S, fun b _ => ⟨fun _ => rfl, rfl⟩, hbel.to⟩
   have : g xs = [] := List.length_eq_zero_iff.1 h0
   rw [this, hv0]
   exact .sl0 none 0
  ·let S2 : Stable := ⟨fun b' o => if b' = b ∧ o < (g xs).length * F.sz then some (us.getD o undef) else S b' o, S.m⟩
   have fresh : ∀ o, S b o = none := fun o => by
    cases hc : S b o with
    | none => rfl
    | some u => have := cell_lt (hst.c b o u hc); omega
   refine ⟨v', S2, rfl, ?_, ⟨fun b' o u h => ?_, fun b' es h => hold.m b' es h⟩, ⟨fun b' o u h => ?_, fun b' es h => h⟩, fun b' hb' => ⟨fun o => ?_, rfl⟩, hbel.to⟩
   ·rw [hb2]
    have hmap : ((g xs).map F.p).length = (g xs).length := by simp
    rw [← hmap]
    refine .sl b 0 c' F.sz _ (fun i j => us.getD (i * F.sz + j) undef) (fun i hi => ?_) (by rw [hmap]; exact hb3) (fun i j hi hj => ?_) (fun i j hi hj => ?_)
    ·rw [hmap] at hi
     rw [getD_lt (l := (g xs).map F.p) (by simpa using hi), List.getElem_map, F.hp]
    ·rw [hmap] at hi
     show (if b = b ∧ 0 + i * F.sz + j < (g xs).length * F.sz then some (us.getD (0 + i * F.sz + j) undef) else S b (0 + i * F.sz + j)) = _
     have q1 : (i + 1) * F.sz ≤ (g xs).length * F.sz := Nat.mul_le_mul_right _ (by omega)
     rw [Nat.succ_mul] at q1
     rw [if_pos ⟨rfl, by omega⟩, Nat.zero_add]
    ·rw [hmap] at hi
     have e1 : ((g xs).map F.p).getD i .any = F.p ((g xs).getD i default) := by
      rw [getD_lt (l := (g xs).map F.p) (by simpa using hi), getD_lt hi]; simp
     rw [e1]
     show Rep _ (us.getD (i * F.sz + j) undef) _
     rw [hb6 i j hi hj]
     exact F.of _ _ _ hj
   ·have h9 : (if b' = b ∧ o < (g xs).length * F.sz then some (us.getD o undef) else S b' o) = some u := h
    clear h
    by_cases hc : b' = b ∧ o < (g xs).length * F.sz
    ·rw [if_pos hc] at h9
     rw [hc.1, cell_of hb4, List.getElem?_eq_getElem (by omega), ← h9, getD_lt (by omega)]
    ·rw [if_neg hc] at h9
     exact hold.c b' o u h9
   ·show (if b' = b ∧ o < (g xs).length * F.sz then some (us.getD o undef) else S b' o) = some u
    have : b' ≠ b := fun e => by subst e; rw [fresh o] at h; cases h
    rw [if_neg (fun hc => this hc.1)]
    exact h
   ·show (if b' = b ∧ o < (g xs).length * F.sz then some (us.getD o undef) else S b' o) = S b' o
    rw [if_neg (fun hc => by have := hc.1; omega)]
 rcases hex with rfl | rfl
 ·exact ⟨hdf, v', hv', fin⟩
 ·exact ⟨hdf, v', hv', fin⟩
end
end Go.PL
namespace Go.PL
open Go.RowKit
set_option linter.unusedVariables false
section
variable {P : Program} {a : Act} {w : World} {Q : Exit → Act → World → Prop}
theorem wpOps_go {o : Oper} {ops : Array Oper} {i : Nat} {rest : List Nat} (ho : ops[i]? = some o) (hg : o.guard = none) (h : o.wp P a w (wpOps P ops Q rest) Q) : wpOps P ops Q (i :: rest) a w := by
 unfold wpOps
 rw [ho]
 have hw : Region.wanted o (yielded ops a.tmps) = true := by simp [Region.wanted, hg]
 simp only [hw, if_true]
 exact .inl h
theorem wp_move {dst : Option Tmp} {x : Operand} {ty : TypeId} {pos : String} {after : Array Edge} {next : Act → World → Prop} (h : next (a.put dst (a.eval x)) w) : (Oper.mk dst (.move x) ty pos after none).wp P a w next Q := by
 have hr : (execOp a.eval (Oper.mk dst (.move x) ty pos after none)).run P w = .ok (.value (a.eval x)) w := by simp [execOp, Sem.run]
 unfold Oper.wp
 rw [hr]
 exact h
theorem wp_assign {dst : Option Tmp} {x : Operand} {ty : TypeId} {pos : String} {after : Array Edge} {next : Act → World → Prop} (h : next (a.put dst (a.eval x)) w) : (Oper.mk dst (.assign x) ty pos after none).wp P a w next Q := by
 have hr : (execOp a.eval (Oper.mk dst (.assign x) ty pos after none)).run P w = .ok (.value (a.eval x)) w := by simp [execOp, Sem.run]
 unfold Oper.wp
 rw [hr]
 exact h
theorem wp_callF {f : FuncId} {fn : Func} {dst : Option Tmp} {xs : List Operand} {ts : Array TypeId} {ty : TypeId} {pos : String} {after : Array Edge} {next : Act → World → Prop} (hf : P.funcs[f]? = some fn) (hn : fn.name ≠ "runtime.NumGoroutine") (hb : fn.body ≠ none)
  (h : Calls P f ⟨xs.map a.eval⟩ w fun e w' => ∃ v, e = .returned v ∧ next (a.put dst v) w') : (Oper.mk dst (.call ⟨.value (.func f), ⟨xs⟩, ts⟩) ty pos after none).wp P a w next Q := by
 have hr : (execOp a.eval (Oper.mk dst (.call ⟨.value (.func f), ⟨xs⟩, ts⟩) ty pos after none)).run P w = .ok (.enter f ⟨xs.map a.eval⟩) w := by
  simp [execOp, resolve, Deferred.ofValue, Act.eval, invoke, callFunc, program, Sem.run, hf, hb, hn]
 unfold Oper.wp
 rw [hr]
 show Calls P f ⟨xs.map a.eval⟩ w _
 refine h.mono fun e w' h => ?_
 obtain ⟨v, rfl, h2⟩ := h
 exact h2
end
end Go.PL
namespace Go.PL
open Go.RowKit
set_option linter.unusedVariables false
section
variable {P : Program} {a : Act} {w : World} {Q : Exit → Act → World → Prop}
theorem wp_sort_comp {i1 i2 : Nat} {s t1 t2 t3 t4 r N sf cf : Nat} {fn fn' : Func} {y1 y2 y3 y4 y5 : TypeId} {ts ts' : Array TypeId} {p1 p2 p3 p4 p5 : String} {q1 q2 q3 q4 q5 : Array Edge} {Φ : Exit → Act → World → Prop}
  (hN : a.tmps.size = N) (b1 : t1 < N) (b2 : t2 < N) (b3 : t3 < N) (b4 : t4 < N) (b5 : r < N) (n1 : t1 ≠ s) (n2 : t2 ≠ s) (hf : P.funcs[sf]? = some fn) (hn : fn.name ≠ "runtime.NumGoroutine") (hb : fn.body ≠ none) (hf' : P.funcs[cf]? = some fn') (hn' : fn'.name ≠ "runtime.NumGoroutine") (hb' : fn'.body ≠ none)
  (h : Calls P sf #[a.tmps.getD s undef] w fun e w' => ∃ v, e = .returned v ∧ Calls P cf #[a.tmps.getD s undef] w' fun e w'' => ∃ u, e = .returned u ∧ ∀ a', a'.defers = a.defers → a'.tmps.getD r undef = u → Φ .ret a' w'') :
  (Code.seq (.region i1 #[Oper.mk (some t1) (.move (.tmp s)) y1 p1 q1 none, Oper.mk (some t2) (.call ⟨.value (.func sf), #[.tmp t1], ts⟩) y2 p2 q2 none] false)
   (.seq (.region i2 #[Oper.mk (some t3) (.move (.tmp s)) y3 p3 q3 none, Oper.mk (some t4) (.call ⟨.value (.func cf), #[.tmp t3], ts'⟩) y4 p4 q4 none, Oper.mk (some r) (.assign (.tmp t4)) y5 p5 q5 none] false) .ret)).wp P Φ a w := by
 refine wp_seq (wp_region ?_)
 refine wpOps_go rfl rfl (wp_move ?_)
 refine wpOps_go rfl rfl (wp_callF (xs := [.tmp t1]) hf hn hb ?_)
 have e1 : (a.put (some t1) (a.eval (.tmp s))).eval (.tmp t1) = a.tmps.getD s undef := by
  simp [Act.put, Act.eval, hN, b1]
 have e2 : (⟨List.map (a.put (some t1) (a.eval (.tmp s))).eval [.tmp t1]⟩ : Array Value) = #[a.tmps.getD s undef] := by
  simp only [List.map_cons, List.map_nil, e1]
 rw [e2]
 refine h.mono fun e w' ⟨v, he, hk⟩ => ⟨v, he, ?_⟩
 show (Exit.then _ Φ) .normal _ _
 refine wp_seq (wp_region ?_)
 refine wpOps_go rfl rfl (wp_move ?_)
 refine wpOps_go rfl rfl (wp_callF (xs := [.tmp t3]) hf' hn' hb' ?_)
 have e3 : (⟨List.map (((((a.put (some t1) (a.eval (.tmp s))).put (some t2) v).put (some t3) (((a.put (some t1) (a.eval (.tmp s))).put (some t2) v).eval (.tmp s))))).eval [.tmp t3]⟩ : Array Value) = #[a.tmps.getD s undef] := by
  simp [Act.put, Act.eval, hN, b1, b2, b3, Array.getD_eq_getD_getElem?, Array.getElem?_setIfInBounds, n1, n2]
 rw [e3]
 refine hk.mono fun e w'' ⟨u, he, hk⟩ => ⟨u, he, ?_⟩
 refine wpOps_go rfl rfl (wp_assign ?_)
 show (Exit.then _ Φ) .normal _ _
 refine wp_ret (hk _ rfl ?_)
 simp [Act.put, Act.eval, hN, b1, b2, b3, b4, b5, Array.getD_eq_getD_getElem?, Array.getElem?_setIfInBounds]
end
end Go.PL
