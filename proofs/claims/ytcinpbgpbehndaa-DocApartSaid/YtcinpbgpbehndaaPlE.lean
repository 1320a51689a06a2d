/- A logic of values for functions that only read and build, over the model (part 5): no statement of the seat is proved here. -/
import Derived.Test.YtcinpbgpbehndaaPlD
import Derived.Test.YtcinpbgpbehndaaPlC
set_option linter.unusedSimpArgs false
set_option linter.unusedVariables false
namespace Go.PL
set_option linter.unusedVariables false
section
variable {P : Program} {s : St} {Q : Exit → St → Prop}
@[go_sem] theorem upds_nil {α : Type} (f : Nat → α) : upds [] f = f := rfl
@[go_sem] theorem upds_cons {α : Type} (i : Nat) (v : α) (L : List (Nat × α)) (f : Nat → α) : upds ((i, v) :: L) f = upd (upds L f) i v := rfl
@[go_sem] theorem kills_nil (f : Nat → PV) : kills [] f = f := by funext i; simp [kills]
@[go_sem] theorem kills_cons (w : Nat) (ws : List Nat) (f : Nat → PV) : kills (w :: ws) f = upd (kills ws f) w .any := by
  funext i
  simp only [kills, upd, List.contains_cons]
  by_cases h : w = i
  · subst h; simp
  · have : (i == w) = false := by simp; exact fun e => h e.symm
    simp [this, h]
attribute [go_sem] St.inv

/-- what a round's end must hand to the next head -/
def Again {ι : Type} (s : St) (ws : List Nat) (L : ι → List (Nat × PV)) (H : ι → List (Nat × List PV)) (R : ι → List (Nat × Row)) (μ : ι → Nat) (i : ι) (s' : St) : Prop := ∃ j, μ j < μ i ∧ Meets s ws (L j) (H j) (R j) s'

theorem vLoop {c : Code} {ι : Type} (ws : List Nat) (L : ι → List (Nat × PV)) (H : ι → List (Nat × List PV)) (R : ι → List (Nat × Row)) (μ : ι → Nat) (i0 : ι)
    (h0 : Meets s ws (L i0) (H i0) (R i0) s) (hr : ∀ i, RefsL s (L i) (H i) (R i))
    (round : ∀ i, @vC P ⟨c⟩ ⟨thenQ (Again s ws L H R μ i) Q⟩ (s.inv ws (L i) (H i) (R i))) : awp P (.loop c) Q s :=
  awp_loop ws L H R μ i0 h0 hr fun i => vc_sound _ _ _ (round i)

theorem vDrawQ {id : Nat} {l : List Oper} (hm : P.follows .mixedOrders = true) (hB : drawB l.toArray = true) (h : @vA P ⟨@vQ ⟨Q⟩ .normal⟩ ⟨l⟩ ⟨l⟩ s) : awp P (.region id l.toArray true) Q s :=
  vDraw hm hB h

theorem Meets.plain {ws : List Nat} {L : List (Nat × PV)} {s' : St} (h1 : s'.n = s.n) (h2 : ∀ x ∈ L, s'.fr x.1 = x.2) (h3 : FrEq (ws ++ L.map (·.1)) s'.fr s.fr) (h4 : s'.m = s.m) : Meets s ws L [] [] s' :=
  ⟨h1, h2, h3, fun x hx => by simp at hx, fun x hx => by simp at hx, fun i _ => .inr ⟨by rw [h4], by rw [h4]⟩, fun i _ => .inr (by rw [h4])⟩

theorem RefsL.plain {L : List (Nat × PV)} (h : ∀ x ∈ L, x.2.ids = []) : RefsL s L [] [] := ⟨fun x hx r hr => (by rw [h x hx] at hr; cases hr), fun x hx => by simp at hx⟩

def HRest (X : List Nat) (h' : Nat → Option (List PV)) (z' : Nat → Bool) (h : Nat → Option (List PV)) (z : Nat → Bool) : Prop := ∀ i, X.contains i = false → h i = none ∨ (h i = h' i ∧ z i = z' i)
theorem HRest.refl (X : List Nat) (h : Nat → Option (List PV)) (z : Nat → Bool) : HRest X h z h z := fun _ _ => .inr ⟨rfl, rfl⟩
theorem HRest.updh {X : List Nat} {h' h : Nat → Option (List PV)} {z' z : Nat → Bool} {d : Nat} {v : Option (List PV)} (hd : X.contains d = true ∨ h d = none) (hh : HRest X h' z' h z) : HRest X (upd h' d v) z' h z := fun i hi => by
  by_cases e : d = i
  · subst e
    rcases hd with hd | hd
    · rw [hd] at hi; cases hi
    · exact .inl hd
  · rw [upd_ne _ _ e]; exact hh i hi
theorem HRest.updz {X : List Nat} {h' h : Nat → Option (List PV)} {z' z : Nat → Bool} {d : Nat} {v : Bool} (hd : X.contains d = true ∨ h d = none) (hh : HRest X h' z' h z) : HRest X h' (upd z' d v) h z := fun i hi => by
  by_cases e : d = i
  · subst e
    rcases hd with hd | hd
    · rw [hd] at hi; cases hi
    · exact .inl hd
  · rw [upd_ne _ _ e]; exact hh i hi
def QRest (X : List Nat) (q' q : Rows) : Prop := ∀ i, X.contains i = false → q i = none ∨ q i = q' i
theorem QRest.refl (X : List Nat) (q : Rows) : QRest X q q := fun _ _ => .inr rfl
theorem QRest.upd {X : List Nat} {q' q : Rows} {d : Nat} {v : Option Row} (hd : X.contains d = true ∨ q d = none) (hh : QRest X q' q) : QRest X (PL.upd q' d v) q := fun i hi => by
  by_cases e : d = i
  · subst e
    rcases hd with hd | hd
    · rw [hd] at hi; cases hi
    · exact .inl hd
  · rw [upd_ne _ _ e]; exact hh i hi

theorem Live.inv_r {L : List (Nat × PV)} {H : List (Nat × List PV)} {R : List (Nat × Row)} {y : Nat × Row} (hy : y ∈ R) : Live (s.inv [] L H R).m (.r y.1) := by
  show upds (R.map fun x => (x.1, some x.2)) s.m.q y.1 ≠ none
  refine upds_all (R := fun i v => v ≠ none) (fun x hx => by obtain ⟨y, hy, rfl⟩ := List.mem_map.1 hx; simp) ?_
  rw [map1 R some]
  simp only [List.contains_iff_mem, List.mem_map]
  exact ⟨y, hy, rfl⟩
theorem Live.inv_b {L : List (Nat × PV)} {H : List (Nat × List PV)} {R : List (Nat × Row)} {y : Nat × List PV} (hy : y ∈ H) : Live (s.inv [] L H R).m (.b y.1) := by
  show upds (H.map fun x => (x.1, some x.2)) s.m.h y.1 ≠ none
  refine upds_all (R := fun i v => v ≠ none) (fun x hx => by obtain ⟨y, hy, rfl⟩ := List.mem_map.1 hx; simp) ?_
  rw [map1 H some]
  simp only [List.contains_iff_mem, List.mem_map]
  exact ⟨y, hy, rfl⟩
/-- what the head tells leans on rows and blocks that it tells -/
def refIn (H : List (Nat × List PV)) (R : List (Nat × Row)) : Ref → Bool
  | .r i => (R.map (·.1)).contains i
  | .b i => (H.map (·.1)).contains i
theorem Live.of_refIn {L : List (Nat × PV)} {H : List (Nat × List PV)} {R : List (Nat × Row)} {r : Ref} (h : refIn H R r = true) : Live (s.inv [] L H R).m r := by
  cases r with
  | r i =>
    simp only [refIn, List.contains_iff_mem, List.mem_map] at h
    obtain ⟨y, hy, rfl⟩ := h
    exact Live.inv_r hy
  | b i =>
    simp only [refIn, List.contains_iff_mem, List.mem_map] at h
    obtain ⟨y, hy, rfl⟩ := h
    exact Live.inv_b hy
theorem RefsL.of {L : List (Nat × PV)} {H : List (Nat × List PV)} {R : List (Nat × Row)} (h1 : ∀ x ∈ L, x.2.ids.all (refIn H R) = true) (h2 : ∀ x ∈ H, (PV.idsL x.2).all (refIn H R) = true) : RefsL s L H R :=
  ⟨fun x hx r hr => Live.of_refIn (List.all_eq_true.1 (h1 x hx) r hr), fun x hx c hc r hr => Live.of_refIn (List.all_eq_true.1 (h2 x hx) r (PV.mem_idsL.2 ⟨c, hc, hr⟩))⟩
theorem forall_nil {α : Type} {p : α → Prop} : ∀ x ∈ ([] : List α), p x := fun x hx => by cases hx
theorem forall_one {α : Type} {p : α → Prop} {a : α} (h : p a) : ∀ x ∈ [a], p x := fun x hx => by simp only [List.mem_singleton] at hx; rw [hx]; exact h
theorem forall_cons {α : Type} {p : α → Prop} {a : α} {l : List α} (h : p a) (h' : ∀ x ∈ l, p x) : ∀ x ∈ a :: l, p x := fun x hx => by
  rcases List.mem_cons.1 hx with e | e
  · rw [e]; exact h
  · exact h' x e

/-- as Q; by a goto: what J says of the label -/
def gotoQ (J : Nat → St → Prop) (Q : Exit → St → Prop) : Exit → St → Prop
  | .goto l, s => J l s
  | e, s => Q e s

/-- A SCOPE WITH LABELS to which the run jumps, or which it comes to. 'I i': what is told at the label 'lab i'; 'code i': what stands behind it. -/
theorem awp_scope {c : Code} {ι : Type} (lab : ι → Nat) (code : ι → Code) (I : ι → St) (μ : ι → Nat) (hf : ∀ i, findLabel c (lab i) = some (code i)) (hr : Refs s → ∀ i, Refs (I i))
    (pass : ∀ i, (∀ j s', μ j < μ i → Weak (I j) s' → awp P (code j) (gotoQ (fun l s' => ∃ j, lab j = l ∧ μ j < μ i ∧ Weak (I j) s') Q) s') →
      awp P (code i) (gotoQ (fun l s' => ∃ j, lab j = l ∧ μ j < μ i ∧ Weak (I j) s') Q) (I i))
    (first : (∀ j s', Weak (I j) s' → awp P (code j) (gotoQ (fun l s' => ∃ j, lab j = l ∧ Weak (I j) s') Q) s') → awp P c (gotoQ (fun l s' => ∃ j, lab j = l ∧ Weak (I j) s') Q) s) :
    awp P (.scope c) Q s := fun B S M a w hs => by
  have hrefs := hr hs.refs
  have all : ∀ n i, μ i = n → awp P (code i) (gotoQ (fun l s' => ∃ j, lab j = l ∧ μ j < μ i ∧ Weak (I j) s') Q) (I i) := by
    intro n
    induction n using Nat.strongRecOn with
    | _ n ih =>
      intro i hi
      refine pass i fun j s' hj hw => awp_weak hw (fun _ => hrefs j) (awp_mono (fun e s'' h => ?_) (ih (μ j) (by omega) j rfl))
      cases e with
      | goto l => obtain ⟨k, h1, h2, h3⟩ := h; exact ⟨k, h1, by omega, h3⟩
      | _ => exact h
  have hfirst := first fun j s' hw => awp_weak hw (fun _ => hrefs j) (awp_mono (fun e s'' h => by
      cases e with
      | goto l => obtain ⟨k, h1, h2, h3⟩ := h; exact ⟨k, h1, h3⟩
      | _ => exact h) (all _ j rfl))
  intro b k cs
  have hg : ∀ i, gotoIn (lab i) (.inScope c :: k) = some (.code (code i) :: .inScope c :: k) := fun i => by simp [gotoIn, hf i]
  have key : ∀ n i S1 M1 a1 w1, μ i = n → Sim B S1 M1 (I i) a1 w1 → Ext B S S1 w w1 → ∃ e a' w', (∃ s' S' M', Q e s' ∧ Sim B S' M' s' a' w' ∧ Ext B S S' w w') ∧ Arrives P (lone (b.at a1 (.code (code i) :: .inScope c :: k)) cs w1) b k cs e a' w' := by
    intro n
    induction n using Nat.strongRecOn with
    | _ n ih =>
      intro i S1 M1 a1 w1 hi hs1 he1
      obtain ⟨e, a2, w2, ⟨s2, S2, M2, hq, hs2, he2⟩, harr⟩ := all _ i rfl B S1 M1 a1 w1 hs1 b (.inScope c :: k) cs
      cases e with
      | normal => exact ⟨.normal, a2, w2, ⟨s2, S2, M2, hq, hs2, he1.trans he2⟩, Steps.trans harr (.one step_inScope)⟩
      | exit id => exact ⟨.exit id, a2, w2, ⟨s2, S2, M2, hq, hs2, he1.trans he2⟩, fun k' hk => harr k' (by simp [exitTo, hk])⟩
      | goto l' =>
        obtain ⟨j, rfl, hlt, hw⟩ := hq
        obtain ⟨e3, a3, w3, hq3, harr3⟩ := ih (μ j) (by omega) j S2 M2 a2 w2 rfl (hs2.weak hw (hrefs j)) (he1.trans he2)
        exact ⟨e3, a3, w3, hq3, .of_steps (harr _ (hg j)) harr3⟩
      | ret => exact ⟨_, a2, w2, ⟨s2, S2, M2, hq, hs2, he1.trans he2⟩, harr⟩
      | panic ch => exact ⟨_, a2, w2, ⟨s2, S2, M2, hq, hs2, he1.trans he2⟩, harr⟩
      | outgrown => exact ⟨_, a2, w2, ⟨s2, S2, M2, hq, hs2, he1.trans he2⟩, harr⟩
  obtain ⟨e, a1, w1, ⟨s1, S1, M1, hq, hs1, he1⟩, harr⟩ := hfirst B S M a w hs b (.inScope c :: k) cs
  cases e with
  | normal => exact ⟨.normal, a1, w1, ⟨s1, S1, M1, hq, hs1, he1⟩, .head step_scope (Steps.trans harr (.one step_inScope))⟩
  | exit id => exact ⟨.exit id, a1, w1, ⟨s1, S1, M1, hq, hs1, he1⟩, fun k' hk => .head step_scope (harr k' (by simp [exitTo, hk]))⟩
  | goto l' =>
    obtain ⟨j, rfl, hw⟩ := hq
    obtain ⟨e3, a3, w3, hq3, harr3⟩ := key _ j S1 M1 a1 w1 rfl (hs1.weak hw (hrefs j)) he1
    exact ⟨e3, a3, w3, hq3, .of_steps (.head step_scope (harr _ (hg j))) harr3⟩
  | ret => exact ⟨_, a1, w1, ⟨s1, S1, M1, hq, hs1, he1⟩, .of_steps (.one step_scope) harr⟩
  | panic ch => exact ⟨_, a1, w1, ⟨s1, S1, M1, hq, hs1, he1⟩, .of_steps (.one step_scope) harr⟩
  | outgrown => exact ⟨_, a1, w1, ⟨s1, S1, M1, hq, hs1, he1⟩, .of_steps (.one step_scope) harr⟩

/-- a state of which just these slots, blocks and rows are told -/
def mkSt (n : Nat) (L : List (Nat × PV)) (H : List (Nat × List PV × Bool)) (R : List (Nat × Row)) : St :=
  { fr := upds L fun _ => .any, m := { h := upds (H.map fun x => (x.1, some x.2.1)) fun _ => none, z := upds (H.map fun x => (x.1, x.2.2)) fun _ => false, q := upds (R.map fun x => (x.1, some x.2)) fun _ => none }, n := n }
/-- a state holds what is told -/
structure Has (n : Nat) (L : List (Nat × PV)) (H : List (Nat × List PV × Bool)) (R : List (Nat × Row)) (s : St) : Prop where
  n : s.n = n
  fr : ∀ x ∈ L, s.fr x.1 = x.2
  h : ∀ x ∈ H, s.m.h x.1 = some x.2.1 ∧ s.m.z x.1 = x.2.2
  q : ∀ x ∈ R, s.m.q x.1 = some x.2
theorem Has.weak {n : Nat} {L : List (Nat × PV)} {H : List (Nat × List PV × Bool)} {R : List (Nat × Row)} (h : Has n L H R s) : Weak (mkSt n L H R) s := by
  have m1 : ∀ {α β : Type} (L : List (Nat × α)) (f : α → β), (L.map fun x => (x.1, f x.2)).map (·.1) = L.map (·.1) := fun L f => by simp
  refine ⟨h.n.symm, fun i => ?_, fun i => ?_, fun i => ?_⟩
  · by_cases hi : (L.map (·.1)).contains i = true
    · exact .inr (upds_all (R := fun i v => v = s.fr i) (fun x hx => (h.fr x hx).symm) hi)
    · exact .inl (upds_ne (by simpa using hi))
  · show upds (H.map fun x => (x.1, some x.2.1)) (fun _ => none) i = none ∨ (upds (H.map fun x => (x.1, some x.2.1)) (fun _ => none) i = _ ∧ upds (H.map fun x => (x.1, x.2.2)) (fun _ => false) i = _)
    by_cases hi : (H.map (·.1)).contains i = true
    · right
      refine ⟨upds_all (R := fun i v => v = s.m.h i) (fun x hx => ?_) (by rw [m1 H (fun x => some x.1)]; exact hi), upds_all (R := fun i v => v = s.m.z i) (fun x hx => ?_) (by rw [m1 H (fun x => x.2)]; exact hi)⟩
      · obtain ⟨y, hy, rfl⟩ := List.mem_map.1 hx; exact (h.h y hy).1.symm
      · obtain ⟨y, hy, rfl⟩ := List.mem_map.1 hx; exact (h.h y hy).2.symm
    · exact .inl (upds_ne (by rw [m1 H (fun x => some x.1)]; simpa using hi))
  · show upds (R.map fun x => (x.1, some x.2)) (fun _ => none) i = none ∨ upds (R.map fun x => (x.1, some x.2)) (fun _ => none) i = _
    by_cases hi : (R.map (·.1)).contains i = true
    · right
      refine upds_all (R := fun i v => v = s.m.q i) (fun x hx => ?_) (by rw [m1 R some]; exact hi)
      obtain ⟨y, hy, rfl⟩ := List.mem_map.1 hx; exact (h.q y hy).symm
    · exact .inl (upds_ne (by rw [m1 R some]; simpa using hi))
def refInM (H : List (Nat × List PV × Bool)) (R : List (Nat × Row)) : Ref → Bool
  | .r i => (R.map (·.1)).contains i
  | .b i => (H.map (·.1)).contains i
/-- what is told leans on what is told -/
def toldB (L : List (Nat × PV)) (H : List (Nat × List PV × Bool)) (R : List (Nat × Row)) : Prop :=
  (∀ x ∈ L, x.2.ids.all (refInM H R) = true) ∧ ∀ x ∈ H, (PV.idsL x.2.1).all (refInM H R) = true
theorem Refs.mkSt {n : Nat} {L : List (Nat × PV)} {H : List (Nat × List PV × Bool)} {R : List (Nat × Row)} (h : toldB L H R) : Refs (mkSt n L H R) := by
  have m1 : ∀ {α β : Type} (L : List (Nat × α)) (f : α → β), (L.map fun x => (x.1, f x.2)).map (·.1) = L.map (·.1) := fun L f => by simp
  have live : ∀ r, refInM H R r = true → Live (PL.mkSt n L H R).m r := fun r hr => by
    cases r with
    | b i =>
      show upds (H.map fun x => (x.1, some x.2.1)) (fun _ => none) i ≠ none
      exact upds_all (R := fun i v => v ≠ none) (fun x hx => by obtain ⟨y, hy, rfl⟩ := List.mem_map.1 hx; simp) (by rw [m1 H (fun x => some x.1)]; exact hr)
    | r i =>
      show upds (R.map fun x => (x.1, some x.2)) (fun _ => none) i ≠ none
      exact upds_all (R := fun i v => v ≠ none) (fun x hx => by obtain ⟨y, hy, rfl⟩ := List.mem_map.1 hx; simp) (by rw [m1 R some]; exact hr)
  refine ⟨fun i r hr => ?_, fun i cs hi c hc r hr => ?_⟩
  · by_cases hi : (L.map (·.1)).contains i = true
    · exact upds_all (R := fun i v => ∀ r ∈ v.ids, Live (PL.mkSt n L H R).m r) (fun x hx r hr => live r (List.all_eq_true.1 (h.1 x hx) r hr)) hi r hr
    · have hr' : r ∈ (upds L (fun _ => PV.any) i).ids := hr
      rw [upds_ne (by simpa using hi)] at hr'
      simp [PV.ids] at hr'
  · by_cases hi' : (H.map (·.1)).contains i = true
    · have hR := upds_all (R := fun i v => ∀ cs, v = some cs → ∀ c ∈ cs, ∀ r ∈ c.ids, Live (PL.mkSt n L H R).m r) (f := fun _ => none) (L := H.map fun x => (x.1, some x.2.1)) (i := i)
        (fun x hx cs hcs c hc r hr => by obtain ⟨y, hy, rfl⟩ := List.mem_map.1 hx; cases hcs; exact live r (List.all_eq_true.1 (h.2 y hy) r (PV.mem_idsL.2 ⟨c, hc, hr⟩))) (by rw [m1 H (fun x => some x.1)]; exact hi')
      exact hR cs hi c hc r hr
    · have hi2 : upds (H.map fun x => (x.1, some x.2.1)) (fun _ => none) i = some cs := hi
      rw [upds_ne (by rw [m1 H (fun x => some x.1)]; simpa using hi')] at hi2
      cases hi2

/-- the next head, or the next label -/
def Next {ι : Type} (n : Nat) (L : ι → List (Nat × PV)) (H : ι → List (Nat × List PV × Bool)) (R : ι → List (Nat × Row)) (μ : ι → Nat) (i : ι) (s' : St) : Prop := ∃ j, μ j < μ i ∧ Has n (L j) (H j) (R j) s'
def Some' {ι : Type} (n : Nat) (L : ι → List (Nat × PV)) (H : ι → List (Nat × List PV × Bool)) (R : ι → List (Nat × Row)) (s' : St) : Prop := ∃ j, Has n (L j) (H j) (R j) s'

/-- A LOOP, by what is told at its head -/
theorem vLoopM {c : Code} {ι : Type} (n : Nat) (L : ι → List (Nat × PV)) (H : ι → List (Nat × List PV × Bool)) (R : ι → List (Nat × Row)) (μ : ι → Nat) (i0 : ι)
    (h0 : Has n (L i0) (H i0) (R i0) s) (hr : ∀ i, toldB (L i) (H i) (R i))
    (round : ∀ i, @vC P ⟨c⟩ ⟨thenQ (Next n L H R μ i) Q⟩ (mkSt n (L i) (H i) (R i))) : awp P (.loop c) Q s :=
  awp_loop_gen (fun i => mkSt n (L i) (H i) (R i)) μ i0 h0.weak (fun _ i => Refs.mkSt (hr i)) fun i => awp_mono (fun e s' h => by
    cases e with
    | normal => obtain ⟨j, hj, hm⟩ := h; exact ⟨j, hj, hm.weak⟩
    | _ => exact h) (vc_sound _ _ _ (round i))

def gotoJ (l : Nat) (J : St → Prop) : Nat → St → Prop := fun l' s => l' = l ∧ J s
theorem awp_label_seq {l : Nat} {z : Code} (h : awp P z Q s) : awp P (.seq (.label l) z) Q s := awp_seq (awp_label h)

/-- A SCOPE WITH ONE LABEL, by what is told there -/
theorem vScopeM {c : Code} {ι : Type} (n : Nat) (L : ι → List (Nat × PV)) (H : ι → List (Nat × List PV × Bool)) (R : ι → List (Nat × Row)) (μ : ι → Nat) (l : Nat) (z : Code) (hf : findLabel c l = some (.seq .skip z)) (hr : ∀ i, toldB (L i) (H i) (R i))
    (pass : ∀ i, @vC P ⟨z⟩ ⟨gotoQ (gotoJ l (Next n L H R μ i)) Q⟩ (mkSt n (L i) (H i) (R i)))
    (first : (∀ j s', Has n (L j) (H j) (R j) s' → awp P z (gotoQ (gotoJ l (Some' n L H R)) Q) s') → @vC P ⟨c⟩ ⟨gotoQ (gotoJ l (Some' n L H R)) Q⟩ s) : awp P (.scope c) Q s := by
  have sk : ∀ {Q : Exit → St → Prop} {s : St}, awp P z Q s → awp P (.seq .skip z) Q s := fun h => awp_seq (awp_skip h)
  have passA : ∀ i, awp P (.seq .skip z) (gotoQ (fun l' s' => ∃ j, l = l' ∧ μ j < μ i ∧ Weak (mkSt n (L j) (H j) (R j)) s') Q) (mkSt n (L i) (H i) (R i)) := fun i =>
    sk (awp_mono (fun e s' h => by
      cases e with
      | goto l' => obtain ⟨rfl, j, hj, hm⟩ := h; exact ⟨j, rfl, hj, hm.weak⟩
      | _ => exact h) (vc_sound _ _ _ (pass i)))
  refine awp_scope (fun _ : ι => l) (fun _ => .seq .skip z) (fun i => mkSt n (L i) (H i) (R i)) μ (fun _ => hf) (fun _ i => Refs.mkSt (hr i)) (fun i _ => passA i) fun cut => ?_
  have key := first fun j s' hs' B S M a w hsim => by
    have hp := vc_sound _ _ _ (pass j) B S M a w (hsim.weak hs'.weak (Refs.mkSt (hr j)))
    refine wp_mono hp fun e a' w' ⟨s1, S1, M1, h1, h2, h3⟩ => ⟨s1, S1, M1, ?_, h2, h3⟩
    cases e with
    | goto l' => obtain ⟨e, j, _, hm⟩ := h1; exact ⟨e, j, hm⟩
    | _ => exact h1
  refine awp_mono (fun e s' h => ?_) (vc_sound _ _ _ key)
  cases e with
  | goto l' => obtain ⟨rfl, j, hm⟩ := h; exact ⟨j, rfl, hm.weak⟩
  | _ => exact h
/-- a scope through which the run goes without a jump -/
theorem vScope0 {c : Code} (h : @vC P ⟨c⟩ ⟨gotoQ (fun _ _ => False) Q⟩ s) : awp P (.scope c) Q s :=
  awp_scope (ι := Empty) (fun i => i.elim) (fun i => i.elim) (fun i => i.elim) (fun i => i.elim) (fun i => i.elim) (fun _ i => i.elim) (fun i => i.elim) fun _ => awp_mono (fun e s' h => by
    cases e with
    | goto l => exact h.elim
    | _ => exact h) (vc_sound _ _ _ h)
@[go_sem] theorem vQ_goto_normal (J : Nat → St → Prop) (s : St) : @vQ ⟨gotoQ J Q⟩ .normal s = @vQ ⟨Q⟩ .normal s := rfl
@[go_sem] theorem vQ_goto_ret (J : Nat → St → Prop) (s : St) : @vQ ⟨gotoQ J Q⟩ .ret s = @vQ ⟨Q⟩ .ret s := rfl
@[go_sem] theorem vQ_goto_exit (J : Nat → St → Prop) (id : Nat) (s : St) : @vQ ⟨gotoQ J Q⟩ (.exit id) s = @vQ ⟨Q⟩ (.exit id) s := rfl
@[go_sem] theorem vQ_goto_goto (J : Nat → St → Prop) (l : Nat) (s : St) : @vQ ⟨gotoQ J Q⟩ (.goto l) s = J l s := rfl
@[go_sem] theorem gotoJ_same (l : Nat) (J : St → Prop) (s : St) : gotoJ l J l s = J s := by simp [gotoJ]
attribute [go_sem] mkSt
end
end Go.PL

namespace Go.PL
open Go.RowKit
set_option linter.unusedVariables false
section
variable {P : Program} {B : Nat} {S : Stable} {M : Maps} {s : St} {a : Act} {w : World} {Q : Exit → St → Prop}

/-- a row that a slot tells, under another number -/
theorem awp_moveRow {c : Code} (i id d n sz : Nat) (e : TypeId) (es : List PV) (hi : s.fr i = .sl (.row id) es) (hid : s.m.q id = some (.live n sz e)) (hd : s.m.q d = none)
    (h : awp P c Q ({ s with fr := upd s.fr i (.sl (.row d) es) }.with ((s.m.setq id .dead).setq d (.live n sz e)))) : awp P c Q s := fun B S M a w hs => by
  have hne : id ≠ d := fun e => by rw [e, hd] at hid; cases hid
  have hs1 := hs.moveRow hid hd
  have hrow := hs.fr i
  rw [hi] at hrow
  have key : ∃ r : Rep S (a.tmps.getD i undef) (.sl .no es), (es.length ≤ n ∧ (es.length = n → (M.κ id = 0 → a.tmps.getD i undef = .slice none 0 0) ∧ (∀ c, M.κ id = c + 1 → a.tmps.getD i undef = .slice (some ⟨M.ψ id, 0, none⟩) n c))) := by
    generalize a.tmps.getD i undef = v at hrow
    cases hrow with
    | clean r => cases r
    | row _ _ _ r t => exact ⟨r, t n sz e hid⟩
  obtain ⟨r, t⟩ := key
  refine h B S _ a w ⟨hs1.defers, hs1.hn, hs1.hB, hs1.stable, fun k => ?_, fun k r hr => ?_, hs1.blk, hs1.row, hs1.inj, hs1.injq, hs1.injx⟩
  · show RepS _ _ _ _ (upd s.fr i (.sl (.row d) es) k)
    by_cases ek : i = k
    · subst ek
      rw [upd_same]
      refine .row d _ es r fun n' sz' e' hq => ?_
      have hq' : upd (upd s.m.q id (some .dead)) d (some (.live n sz e)) d = some (.live n' sz' e') := hq
      rw [upd_same] at hq'
      cases hq'
      refine ⟨t.1, fun el => ?_⟩
      have := t.2 el
      simpa only [upd_same] using this
    · rw [upd_ne _ _ ek]; exact hs1.fr k
  · have hr' : r ∈ (upd s.fr i (.sl (.row d) es) k).ids := hr
    by_cases ek : i = k
    · subst ek
      rw [upd_same] at hr'
      simp only [PV.ids, List.mem_singleton] at hr'
      subst hr'
      show upd _ _ _ _ ≠ none
      simp [upd_same]
    · rw [upd_ne _ _ ek] at hr'; exact hs1.ids k r hr'
end
end Go.PL
