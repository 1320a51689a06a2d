/- A logic of values for functions that only read and build, over the model (part 4): no statement of the seat is proved here. -/
import Derived.Test.YtcomkajmhlhphaaGreatPlC
import Derived.LoopN
import Derived.Maps.RangeRun
import Derived.ScopeJumps
set_option linter.unusedSimpArgs false
set_option linter.unusedVariables false
namespace Go.PL
open Go.RowKit
set_option linter.unusedVariables false

def upds {α : Type} (L : List (Nat × α)) (f : Nat → α) : Nat → α := L.foldr (fun x g => upd g x.1 x.2) f
/-- slots of which nothing is told any more -/
def kills (ws : List Nat) (f : Nat → PV) : Nat → PV := fun i => if ws.contains i then .any else f i

/-- less is told -/
structure Weak (s' s : St) : Prop where
  n : s'.n = s.n
  fr : ∀ i, s'.fr i = .any ∨ s'.fr i = s.fr i
  h : ∀ i, s'.m.h i = none ∨ (s'.m.h i = s.m.h i ∧ s'.m.z i = s.m.z i)
  q : ∀ i, s'.m.q i = none ∨ s'.m.q i = s.m.q i
  o : ∀ i, s'.m.o i = none ∨ s'.m.o i = s.m.o i
  it : ∀ i, s'.m.it i = none ∨ s'.m.it i = s.m.it i

/-- what is told leans on what is there -/
structure Refs (s : St) : Prop where
  fr : ∀ i r, r ∈ (s.fr i).ids → Live s.m r
  h : ∀ i cs, s.m.h i = some cs → ∀ c ∈ cs, ∀ r ∈ c.ids, Live s.m r

section
variable {P : Program} {B : Frm} {S : Stable} {M : Maps} {s s' : St} {a : Act} {w : World} {Q Q' : Exit → St → Prop}

theorem Sim.refs (hs : Sim B S M s a w) : Refs s := by
  refine ⟨hs.ids, fun i cs hi c hc r hr => ?_⟩
  have hb := hs.blk i cs hi
  cases hz : s.m.z i with
  | false => rw [hz] at hb; exact hb.2.2.2 c hc r hr
  | true =>
    rw [hz] at hb
    obtain ⟨vals, hv⟩ := hb
    obtain ⟨j, hj, rfl⟩ := List.getElem_of_mem hc
    have := (hv j hj).2
    rw [getD_lt hj] at this
    exact absurd hr (this.clean_ids r)

theorem Sim.weak (hs : Sim B S M s a w) (hw : Weak s' s) (hr : Refs s') : Sim B S M s' a w := by
  have rep : ∀ {v p}, RepS S M s.m.q v p → (∀ r ∈ p.ids, Live s'.m r) → RepS S M s'.m.q v p := fun r _ =>
    r.heap (SLe.refl _) (fun _ _ => rfl) (fun i hi n sz e hq => by
      rcases hw.q i with h | h
      · rw [h] at hq; cases hq
      · exact .inl ⟨by rw [← h]; exact hq, rfl, rfl⟩)
  have hh : ∀ {i cs}, s'.m.h i = some cs → s.m.h i = some cs ∧ s'.m.z i = s.m.z i := fun {i cs} hi => by
    rcases hw.h i with h | ⟨h, hz⟩
    · rw [h] at hi; cases hi
    · exact ⟨by rw [← h]; exact hi, hz⟩
  have hq : ∀ {i r}, s'.m.q i = some r → s.m.q i = some r := fun {i r} hi => by
    rcases hw.q i with h | h
    · rw [h] at hi; cases hi
    · rw [← h]; exact hi
  refine ⟨hs.defers, by rw [hs.hn, hw.n], hs.hB, ⟨hs.stable.s, fun b c hc => hs.stable.o b c ?_, fun b x hx => hs.stable.i b x ?_⟩, fun i => ?_, hr.fr, fun i cs hi => ?_, fun i r hi => hs.row i r (hq hi), ?_, ?_, ?_⟩
  · rcases hw.o b with h | h
    · rw [h] at hc; cases hc
    · rw [← h]; exact hc
  · rcases hw.it b with h | h
    · rw [h] at hx; cases hx
    · rw [← h]; exact hx
  · rcases hw.fr i with h | h
    · rw [h]; exact .clean (.any _)
    · rw [h]; exact rep (hs.fr i) (by rw [← h]; exact hr.fr i)
  · obtain ⟨h1, hz⟩ := hh hi
    have hb := hs.blk i cs h1
    rw [hz]
    cases hzi : s.m.z i with
    | false =>
      rw [hzi] at hb
      obtain ⟨g1, g2, ⟨us, t', g3, g4, g5⟩, g6⟩ := hb
      exact ⟨g1, g2, ⟨us, t', g3, g4, fun k hk => rep (g5 k hk) (fun r hr' => hr.h i cs hi _ (getD_mem hk) r hr')⟩, hr.h i cs hi⟩
    | true => rw [hzi] at hb; exact hb
  · intro i j cs cs' hi hj zi zj hij
    obtain ⟨h1, e1⟩ := hh hi
    obtain ⟨h2, e2⟩ := hh hj
    exact hs.inj i j _ _ h1 h2 (by rw [← e1]; exact zi) (by rw [← e2]; exact zj) hij
  · intro i j n1 z1 t1 n2 z2 t2 hi hj ki kj hij
    exact hs.injq i j _ _ _ _ _ _ (hq hi) (hq hj) ki kj hij
  · intro i j cs n1 z1 t1 hi zi hj kj
    obtain ⟨h1, e1⟩ := hh hi
    exact hs.injx i j _ _ _ _ h1 (by rw [← e1]; exact zi) (hq hj) kj

theorem awp_weak {c : Code} (hw : Weak s' s) (hr : Refs s → Refs s') (h : awp P c Q s') : awp P c Q s := fun B S M a w hs => h B S M a w (hs.weak hw (hr hs.refs))
/-- a loop: 'I i': what is told at a round's head -/
theorem awp_loop_gen {c : Code} {ι : Type} (I : ι → St) (μ : ι → Nat) (i0 : ι) (h0 : Weak (I i0) s) (hr : Refs s → ∀ i, Refs (I i))
    (round : ∀ i, awp P c (thenQ (fun s' => ∃ j, μ j < μ i ∧ Weak (I j) s') Q) (I i)) : awp P (.loop c) Q s := fun B S M a w hs => by
  have hrefs := hr hs.refs
  have key : ∀ (k : Nat) (i : ι), μ i < k → ∀ S1 M1 a1 w1, Sim B S1 M1 (I i) a1 w1 → Ext B S S1 w w1 →
      Code.rounds P c (fun e a' w' => ∃ s' S' M', Q e s' ∧ Sim B S' M' s' a' w' ∧ Ext B S S' w w') k a1 w1 := by
    intro k
    induction k with
    | zero => intro i hi; omega
    | succ k ih =>
      intro i hi S1 M1 a1 w1 hs1 he1
      rw [rounds_succ]
      refine wp_mono (round i B S1 M1 a1 w1 hs1) fun e a' w' hq => ?_
      obtain ⟨s', S', M', h1, h2, h3⟩ := hq
      cases e with
      | normal =>
        obtain ⟨j, hj, hwk⟩ := h1
        exact ih j (by omega) S' M' a' w' (h2.weak hwk (hrefs j)) (he1.trans h3)
      | _ => exact ⟨s', S', M', h1, h2, he1.trans h3⟩
  exact wp_loop_rounds (μ i0 + 1) (key _ i0 (Nat.lt_succ_self _) S M a w (hs.weak h0 (hrefs i0)) (Ext.refl _ _ _))

/-- the slots that a list tells, and the rest as it was -/
def FrEq (X : List Nat) (f g : Nat → PV) : Prop := ∀ i, X.contains i = false → f i = g i
theorem FrEq.refl (X : List Nat) (f : Nat → PV) : FrEq X f f := fun _ _ => rfl
theorem FrEq.upd {X : List Nat} {f g : Nat → PV} {d : Nat} {v : PV} (hd : X.contains d = true) (h : FrEq X f g) : FrEq X (upd f d v) g := fun i hi => by
  by_cases e : d = i
  · subst e; rw [hd] at hi; cases hi
  · rw [upd_ne _ _ e]; exact h i hi
/-- what the smaller memory tells, the greater one tells too -/
def HWeak {α : Type} (f g : Nat → Option α) : Prop := ∀ i, f i = none ∨ f i = g i
theorem HWeak.refl {α : Type} (f : Nat → Option α) : HWeak f f := fun _ => .inr rfl
theorem HWeak.upd {α : Type} {f g : Nat → Option α} {d : Nat} {v : Option α} (hd : f d = none ∨ f d = v) (h : HWeak f g) : HWeak f (PL.upd g d v) := fun i => by
  by_cases e : d = i
  · subst e; rw [upd_same]; exact hd
  · rw [upd_ne _ _ e]; exact h i

theorem upds_ne {α : Type} {L : List (Nat × α)} {f : Nat → α} {i : Nat} (h : (L.map (·.1)).contains i = false) : upds L f i = f i := by
  induction L with
  | nil => rfl
  | cons x L ih =>
    simp only [List.map_cons, List.contains_cons, Bool.or_eq_false_iff, beq_eq_false_iff_ne] at h
    show upd (upds L f) x.1 x.2 i = f i
    rw [upd_ne _ _ (Ne.symm h.1)]
    exact ih h.2
theorem upds_all {α : Type} {L : List (Nat × α)} {f : Nat → α} {i : Nat} {R : Nat → α → Prop} (hL : ∀ x ∈ L, R x.1 x.2) (h : (L.map (·.1)).contains i = true) : R i (upds L f i) := by
  induction L with
  | nil => simp at h
  | cons x L ih =>
    show R i (upd (upds L f) x.1 x.2 i)
    by_cases e : x.1 = i
    · subst e; rw [upd_same]; exact hL x (by simp)
    · rw [upd_ne _ _ e]
      refine ih (fun y hy => hL y (by simp [hy])) ?_
      simp only [List.map_cons, List.contains_cons, Bool.or_eq_true, beq_iff_eq] at h
      exact h.resolve_left (Ne.symm e)

/-- what is told at a round's head: slots, blocks, rows that the list names; nothing of the slots ws; the rest as it was -/
def St.inv (s : St) (ws : List Nat) (L : List (Nat × PV)) (H : List (Nat × List PV)) (R : List (Nat × Row)) : St :=
  { fr := upds L (kills ws s.fr), m := { h := upds (H.map fun x => (x.1, some x.2)) s.m.h, z := upds (H.map fun x => (x.1, false)) s.m.z, q := upds (R.map fun x => (x.1, some x.2)) s.m.q, o := fun _ => none, it := fun _ => none }, n := s.n }

/-- behind a round: the slots, blocks and rows hold what the next head tells -/
structure Meets (s : St) (ws : List Nat) (L : List (Nat × PV)) (H : List (Nat × List PV)) (R : List (Nat × Row)) (s' : St) : Prop where
  n : s'.n = s.n
  fr : ∀ x ∈ L, s'.fr x.1 = x.2
  rest : FrEq (ws ++ L.map (·.1)) s'.fr s.fr
  h : ∀ x ∈ H, s'.m.h x.1 = some x.2 ∧ s'.m.z x.1 = false
  q : ∀ x ∈ R, s'.m.q x.1 = some x.2
  hrest : ∀ i, (H.map (·.1)).contains i = false → s.m.h i = none ∨ (s.m.h i = s'.m.h i ∧ s.m.z i = s'.m.z i)
  qrest : ∀ i, (R.map (·.1)).contains i = false → s.m.q i = none ∨ s.m.q i = s'.m.q i

theorem map1 {α β : Type} (L : List (Nat × α)) (f : α → β) : (L.map fun x => (x.1, f x.2)).map (·.1) = L.map (·.1) := by simp

theorem Meets.weak {ws : List Nat} {L : List (Nat × PV)} {H : List (Nat × List PV)} {R : List (Nat × Row)} (h : Meets s ws L H R s') : Weak (s.inv ws L H R) s' := by
  refine ⟨h.n.symm, fun i => ?_, fun i => ?_, fun i => ?_, fun _ => .inl rfl, fun _ => .inl rfl⟩
  · by_cases hi : (L.map (·.1)).contains i = true
    · exact .inr (upds_all (R := fun i v => v = s'.fr i) (fun x hx => (h.fr x hx).symm) hi)
    · have hi' : (L.map (·.1)).contains i = false := by simpa using hi
      show upds L (kills ws s.fr) i = _ ∨ upds L (kills ws s.fr) i = _
      rw [upds_ne hi']
      unfold kills
      by_cases hw : ws.contains i = true
      · rw [if_pos hw]; exact .inl rfl
      · rw [if_neg hw]
        refine .inr (h.rest i ?_).symm
        rw [List.contains_append, hi']
        simpa using hw
  · show upds (H.map fun x => (x.1, some x.2)) s.m.h i = none ∨ (upds (H.map fun x => (x.1, some x.2)) s.m.h i = _ ∧ upds (H.map fun x => (x.1, false)) s.m.z i = _)
    by_cases hi : (H.map (·.1)).contains i = true
    · right
      refine ⟨upds_all (R := fun i v => v = s'.m.h i) (fun x hx => ?_) (by rw [map1 H some]; exact hi), upds_all (R := fun i v => v = s'.m.z i) (fun x hx => ?_) (by rw [map1 H (fun _ => false)]; exact hi)⟩
      · obtain ⟨y, hy, rfl⟩ := List.mem_map.1 hx; exact (h.h y hy).1.symm
      · obtain ⟨y, hy, rfl⟩ := List.mem_map.1 hx; exact (h.h y hy).2.symm
    · have hi' : (H.map (·.1)).contains i = false := by simpa using hi
      rw [upds_ne (by rw [map1 H some]; exact hi'), upds_ne (by rw [map1 H (fun _ => false)]; exact hi')]
      exact h.hrest i hi'
  · show upds (R.map fun x => (x.1, some x.2)) s.m.q i = none ∨ upds (R.map fun x => (x.1, some x.2)) s.m.q i = _
    by_cases hi : (R.map (·.1)).contains i = true
    · right
      refine upds_all (R := fun i v => v = s'.m.q i) (fun x hx => ?_) (by rw [map1 R some]; exact hi)
      obtain ⟨y, hy, rfl⟩ := List.mem_map.1 hx; exact (h.q y hy).symm
    · have hi' : (R.map (·.1)).contains i = false := by simpa using hi
      rw [upds_ne (by rw [map1 R some]; exact hi')]
      exact h.qrest i hi'

/-- what the lists tell leans on what is there -/
def RefsL (s : St) (L : List (Nat × PV)) (H : List (Nat × List PV)) (R : List (Nat × Row)) : Prop :=
  (∀ x ∈ L, ∀ r ∈ x.2.ids, Live (s.inv [] L H R).m r) ∧ ∀ x ∈ H, ∀ c ∈ x.2, ∀ r ∈ c.ids, Live (s.inv [] L H R).m r

theorem Refs.inv {ws : List Nat} {L : List (Nat × PV)} {H : List (Nat × List PV)} {R : List (Nat × Row)} (h : Refs s) (hl : RefsL s L H R) : Refs (s.inv ws L H R) := by
  have up : ∀ r, Live s.m r → Live (s.inv ws L H R).m r := fun r hr => by
    cases r with
    | b i =>
      show upds (H.map fun x => (x.1, some x.2)) s.m.h i ≠ none
      by_cases hi : (H.map (·.1)).contains i = true
      · exact upds_all (R := fun i v => v ≠ none) (fun x hx => by obtain ⟨y, hy, rfl⟩ := List.mem_map.1 hx; simp) (by rw [map1 H some]; exact hi)
      · rw [upds_ne (by rw [map1 H some]; simpa using hi)]; exact hr
    | r i =>
      show upds (R.map fun x => (x.1, some x.2)) s.m.q i ≠ none
      by_cases hi : (R.map (·.1)).contains i = true
      · exact upds_all (R := fun i v => v ≠ none) (fun x hx => by obtain ⟨y, hy, rfl⟩ := List.mem_map.1 hx; simp) (by rw [map1 R some]; exact hi)
      · rw [upds_ne (by rw [map1 R some]; simpa using hi)]; exact hr
  refine ⟨fun i r hr => ?_, fun i cs hi c hc r hr => ?_⟩
  · by_cases hi : (L.map (·.1)).contains i = true
    · exact upds_all (R := fun i v => ∀ r ∈ v.ids, Live (s.inv ws L H R).m r) (fun x hx => hl.1 x hx) hi r hr
    · have hi' : (L.map (·.1)).contains i = false := by simpa using hi
      have hr' : r ∈ (upds L (kills ws s.fr) i).ids := hr
      rw [upds_ne hi'] at hr'
      unfold kills at hr'
      split at hr'
      · simp [PV.ids] at hr'
      · exact up r (h.fr i r hr')
  · by_cases hi' : (H.map (·.1)).contains i = true
    · have hR := upds_all (R := fun i v => ∀ cs, v = some cs → ∀ c ∈ cs, ∀ r ∈ c.ids, Live (s.inv ws L H R).m r) (f := s.m.h) (L := H.map fun x => (x.1, some x.2)) (i := i)
        (fun x hx cs hcs => by obtain ⟨y, hy, rfl⟩ := List.mem_map.1 hx; cases hcs; exact hl.2 y hy) (by rw [map1 H some]; exact hi')
      exact hR cs hi c hc r hr
    · have hi2 : upds (H.map fun x => (x.1, some x.2)) s.m.h i = some cs := hi
      rw [upds_ne (by rw [map1 H some]; simpa using hi')] at hi2
      exact up r (h.h i cs hi2 c hc r hr)

/-- a nil slice, told as a row to which may be appended -/
theorem awp_nilRow {c : Code} (i d sz : Nat) (e : TypeId) (hi : s.fr i = .sl .nil []) (hd : s.m.q d = none) (h : awp P c Q ({ s with fr := upd s.fr i (.sl (.row d) []) }.with (s.m.setq d (.live 0 sz e)))) : awp P c Q s := fun B S M a w hs => by
  have hs1 := hs.nilRow (sz := sz) (e := e) hd
  have hv : a.tmps.getD i undef = .slice none 0 0 := by
    have := hs.fr i
    rw [hi] at this
    exact this.slnil_inv
  refine h B S _ a w ⟨hs1.defers, hs1.hn, hs1.hB, hs1.stable, fun k => ?_, fun k r hr => ?_, hs1.blk, hs1.row, hs1.inj, hs1.injq, hs1.injx⟩
  · show RepS _ _ _ _ (upd s.fr i (.sl (.row d) []) k)
    by_cases e : i = k
    · subst e
      rw [upd_same, hv]
      refine .row d _ [] (.sl0 none 0) fun n' sz' e' hq => ?_
      simp only [St.with, Hp.setq, upd_same] at hq
      cases hq
      exact ⟨Nat.le_refl _, fun _ => ⟨fun _ => rfl, fun c hc => by simp [upd_same] at hc⟩⟩
    · rw [upd_ne _ _ e]; exact hs1.fr k
  · have hr' : r ∈ (upd s.fr i (.sl (.row d) []) k).ids := hr
    by_cases e : i = k
    · subst e
      rw [upd_same] at hr'
      simp only [PV.ids, List.mem_singleton] at hr'
      subst hr'
      simp [Live, St.with, Hp.setq, upd_same]
    · rw [upd_ne _ _ e] at hr'; exact hs1.ids k r hr'

end
end Go.PL

namespace Go.PL
open Go.RowKit
set_option linter.unusedVariables false

def initFr : Nat → List PV → Nat → PV
  | _, [] => fun _ => .tup []
  | k, p :: ps => upd (initFr (k + 1) ps) k p
def Hp.empty : Hp := ⟨fun _ => none, fun _ => false, fun _ => none, fun _ => none, fun _ => none⟩
/-- the state in which a function begins -/
def St.init (args : List PV) (n : Nat) : St := ⟨initFr 0 args, Hp.empty, n⟩

def resV (P : Program) (s : St) : ResultVar → ARes
  | .tmp t => ⟨True, s.fr t, s.m⟩
  | .cell t ty => if tkn P ty then aLoad P ty (s.fr t) s.m else .fail
def allOk : List ARes → Prop
  | [] => True
  | r :: rs => r.ok ∧ allOk rs
def pack : List PV → PV
  | [p] => p
  | ps => .tup ps
/-- what is handed back -/
def retP (P : Program) (fn : Func) (r : PV) (s : St) : Prop :=
  allOk (fn.results.toList.map (resV P s)) ∧ (pack (fn.results.toList.map fun x => (resV P s x).v)).givable s.m ∧ r = (pack (fn.results.toList.map fun x => (resV P s x).v)).give s.m

def retQ (P : Program) (fn : Func) (r : PV) : Exit → St → Prop
  | .normal, s => retP P fn r s
  | .ret, s => retP P fn r s
  | _, _ => False

section
variable {P : Program} {B : Frm} {S : Stable} {M : Maps} {s : St} {a : Act} {w : World}

theorem initFr_getD : ∀ (args : List PV) (k i : Nat), k ≤ i → initFr k args i = args.getD (i - k) (.tup [])
  | [], k, i, _ => by simp [initFr]
  | p :: ps, k, i, h => by
    unfold initFr
    by_cases e : k = i
    · subst e; rw [upd_same]; simp
    · rw [upd_ne _ _ e, initFr_getD ps (k + 1) i (by omega)]
      have : i - k = (i - (k + 1)) + 1 := by omega
      rw [this]
      simp

def resSem (tmps : Array Value) : ResultVar → Sem Value
  | .tmp t => Pure.pure (tmps.getD t undef)
  | .cell b t => do loadVar t (← asAddr (tmps.getD b undef))

theorem res_sound (hs : Sim B S M s a w) (x : ResultVar) (hok : (resV P s x).ok) : ∃ v, (resSem a.tmps x).run P w = .ok v w ∧ RepS S M s.m.q v (resV P s x).v := by
  cases x with
  | tmp t => exact ⟨_, rfl, hs.fr t⟩
  | cell t ty =>
    unfold resV at hok ⊢
    simp only at hok ⊢
    split at hok
    · rename_i hk
      rw [if_pos hk]
      have hr := hs.fr t
      have hp : ∃ ad, a.tmps.getD t undef = .pointer (some ad) := by
        unfold aLoad at hok
        split at hok
        · rename_i cs hx; rw [hx] at hr; obtain ⟨b, o, vals, e, _⟩ := hr.rptr_inv; exact ⟨_, e⟩
        · rename_i id off hx; rw [hx] at hr; exact ⟨_, hr.ptr_inv⟩
        · exact hok.elim
      obtain ⟨ad, had⟩ := hp
      obtain ⟨v, h1, h2, _⟩ := load_val hs hr (by intro h; simp [tkn, h] at hk) hok
      refine ⟨v, ?_, ?_⟩
      · rw [had] at h1
        simp only [Instr.loadAt, Instr.sureAddr, Sem.run_bind, Sem.run_pure, Result.andThen_ok] at h1
        simp only [resSem, had, asAddr, Sem.run_bind, Sem.run_pure, Result.andThen_ok]
        exact h1
      · exact h2
    · exact hok.elim

theorem results_sound (hs : Sim B S M s a w) {fn : Func} (hok : allOk (fn.results.toList.map (resV P s))) :
    ∃ v, (results fn a.tmps).run P w = .ok v w ∧ RepS S M s.m.q v (pack (fn.results.toList.map fun x => (resV P s x).v)) := by
  have key : ∀ (l : List ResultVar), allOk (l.map (resV P s)) → ∃ vs : List Value, (l.mapM (resSem a.tmps)).run P w = .ok vs w ∧ RepL S M s.m.q vs (l.map fun x => (resV P s x).v) := by
    intro l
    induction l with
    | nil => intro _; exact ⟨[], by simp, rfl, fun i hi => by simp at hi⟩
    | cons x l ih =>
      intro h
      obtain ⟨v, e1, e2⟩ := res_sound hs x h.1
      obtain ⟨vs, e3, e4, e5⟩ := ih h.2
      refine ⟨v :: vs, ?_, by simp [e4], fun i hi => ?_⟩
      · rw [List.mapM_cons]
        simp only [Sem.run_bind, e1, e3, Result.andThen_ok, Sem.run_pure]
      · cases i with
        | zero => exact e2
        | succ i => simpa using e5 i (by simpa using hi)
  obtain ⟨vs, h1, h2⟩ := key fn.results.toList hok
  have hm : (fn.results.mapM (resSem a.tmps)).run P w = .ok ⟨vs⟩ w := by
    rw [Array.mapM_eq_mapM_toList]
    simp only [Sem.run_map, h1, Result.andThen_ok]
  have hres : (results fn a.tmps).run P w = .ok (if h : (⟨vs⟩ : Array Value).size = 1 then (⟨vs⟩ : Array Value)[0] else .tuple ⟨vs⟩) w := by
    have e : results fn a.tmps = (do
        let vs ← fn.results.mapM (resSem a.tmps)
        Pure.pure (if h : vs.size = 1 then vs[0] else .tuple vs)) := rfl
    rw [e]
    simp only [Sem.run_bind, hm, Result.andThen_ok, Sem.run_pure]
  refine ⟨_, hres, ?_⟩
  generalize (fn.results.toList.map fun x => (resV P s x).v) = ps at h2
  obtain ⟨hl, hr⟩ := h2
  match vs, ps, hl, hr with
  | [v], [p], _, hr => exact hr 0 (by simp)
  | [], [], _, _ => exact .tup [] [] rfl (fun i hi => by simp at hi)
  | v :: v' :: vs, p :: p' :: ps, hl, hr => exact .tup _ _ hl hr

theorem Pure.intro {f : FuncId} {fn : Func} {c : Code} {args : List PV} {r : PV} (hf : P.funcs[f]? = some fn) (hname : fn.name ≠ "runtime.NumGoroutine") (hb : fn.body = some c) (hn : args.length ≤ fn.ntmps) (hi : r.dids = [])
    (h : awp P c (retQ P fn r) (St.init args fn.ntmps)) : Pure P f args r := by
  refine ⟨⟨fn, hf, hname, by rw [hb]; rfl⟩, hi, fun w S vs hst hl hr => ?_⟩
  refine calls_of_wp hf hb ?_
  have hs : Sim (fun k => k < w.heap.size) S ⟨id, id, id⟩ (St.init args fn.ntmps) { tmps := ⟨vs⟩ ++ Array.replicate (fn.ntmps - vs.length) undef, defers := [] } w := by
    have rep : ∀ i, Rep S (((⟨vs⟩ : Array Value) ++ Array.replicate (fn.ntmps - vs.length) undef).getD i undef) (initFr 0 args i) := fun i => by
      rw [initFr_getD args 0 i (Nat.zero_le _), Nat.sub_zero]
      by_cases hi : i < args.length
      · have := hr i hi
        rw [getD_lt hi] at this ⊢
        rw [getD_lt (by omega)] at this
        have e : ((⟨vs⟩ : Array Value) ++ Array.replicate (fn.ntmps - vs.length) undef).getD i undef = vs[i]'(by omega) := by
          rw [Array.getD_eq_getD_getElem?, Array.getElem?_append_left (by simp; omega)]
          simp [show i < vs.length by omega]
        rw [e]; exact this
      · rw [getD_ge (by omega)]
        have e : ((⟨vs⟩ : Array Value) ++ Array.replicate (fn.ntmps - vs.length) undef).getD i undef = undef := by
          rw [Array.getD_eq_getD_getElem?, Array.getElem?_append_right (by simp; omega)]
          simp only [Array.getElem?_replicate]
          split <;> rfl
        rw [e]
        exact .tup [] [] rfl (fun i hi => by simp at hi)
    refine ⟨rfl, ?_, fun _ h => h, ⟨hst, fun b c hc => by simp [St.init, Hp.empty] at hc, fun b x hx => by simp [St.init, Hp.empty] at hx⟩, fun i => .clean (rep i), fun i id hid => absurd hid ((rep i).clean_ids id), fun id cs hid => ?_, fun id r hid => ?_, fun id id' cs cs' hid => ?_, fun id id' n sz e n' sz' e' hid => ?_, fun id id' cs n sz e hid => ?_⟩
    · simp [St.init]; omega
    · simp [St.init, Hp.empty] at hid
    · simp [St.init, Hp.empty] at hid
    · simp [St.init, Hp.empty] at hid
    · simp [St.init, Hp.empty] at hid
    · simp [St.init, Hp.empty] at hid
  have hw := h (fun k => k < w.heap.size) S _ _ w hs
  have hsz : (⟨vs⟩ : Array Value).size = vs.length := by simp
  rw [hsz]
  refine wp_mono hw fun e a' w' hq => ?_
  obtain ⟨s', S', M', h1, h2, h3⟩ := hq
  have fin : retP P fn r s' → a'.defers = [] ∧ ∃ v, (results fn a'.tmps).run P w' = .ok v w' ∧ ∃ v' S', Ending.returned v = .returned v' ∧ Rep S' v' r ∧ StabS S' w' ∧ SLe S S' ∧ (∀ b, b < w.heap.size → (∀ o, S' b o = S b o) ∧ S'.m b = S.m b) ∧ Below w.heap.size w w' := by
    rintro ⟨g1, g2, rfl⟩
    obtain ⟨v, hv, hrv⟩ := results_sound h2 g1
    exact ⟨h2.defers, v, hv, v, S', rfl, hrv.give h2 g2, h2.stable.s, h3.1, h3.2.1, h3.2.2.to⟩
  cases e with
  | normal => exact fin h1
  | ret => exact fin h1
  | _ => exact h1.elim
end
end Go.PL

namespace Go.PL
open Go.RowKit
set_option linter.unusedVariables false

mutual
/-- no map is told in it -/
def PV.nomap : PV → Bool
  | .rmap _ _ => false
  | .sl _ es => PV.nomapL es
  | .rptr cs => PV.nomapL cs
  | .agg cs => PV.nomapL cs
  | .tup cs => PV.nomapL cs
  | .fn _ cs => PV.nomapL cs
  | _ => true
def PV.nomapL : List PV → Bool
  | [] => true
  | c :: cs => PV.nomap c && PV.nomapL cs
end
mutual
/-- maps that are written still, told by what they hold -/
def PV.shut (o : Nat → Option MapC) : PV → PV
  | .mref b => match o b with
    | some c => .rmap c.ks c.vs
    | none => .mref b
  | .rptr cs => .rptr (PV.sealL o cs)
  | .agg cs => .agg (PV.sealL o cs)
  | .tup cs => .tup (PV.sealL o cs)
  | .fn f cs => .fn f (PV.sealL o cs)
  | p => p
def PV.sealL (o : Nat → Option MapC) : List PV → List PV
  | [] => []
  | c :: cs => PV.shut o c :: PV.sealL o cs
end

theorem nomapL_iff : ∀ {cs : List PV}, PV.nomapL cs = true ↔ ∀ c ∈ cs, c.nomap = true
  | [] => by simp [PV.nomapL]
  | c :: cs => by simp [PV.nomapL, nomapL_iff (cs := cs)]
theorem nomapL_getD {cs : List PV} (h : PV.nomapL cs = true) (i : Nat) : (cs.getD i .any).nomap = true := by
  by_cases hi : i < cs.length
  · exact nomapL_iff.1 h _ (getD_mem hi)
  · rw [getD_ge (by omega)]; rfl
theorem nomap_cells {p : PV} (h : p.nomap = true) (j : Nat) : (p.cells.getD j .any).nomap = true := by
  cases p with
  | agg cs => exact nomapL_getD (cs := cs) (by simpa [PV.nomap] using h) j
  | _ =>
    simp only [PV.cells]
    cases j with
    | zero => simpa using h
    | succ j => simp [PV.nomap]
theorem sealL_length (o : Nat → Option MapC) : ∀ (cs : List PV), (PV.sealL o cs).length = cs.length
  | [] => rfl
  | c :: cs => by simp [PV.sealL, sealL_length o cs]
theorem sealL_getD (o : Nat → Option MapC) : ∀ (cs : List PV) (i : Nat), i < cs.length → (PV.sealL o cs).getD i .any = (cs.getD i .any).shut o
  | [], i, h => by simp at h
  | c :: cs, 0, _ => by simp [PV.sealL]
  | c :: cs, i + 1, h => by simpa [PV.sealL] using sealL_getD o cs i (by simpa using h)

/-- a value of which no map is told leans on cells alone -/
theorem Rep.cells_only {S S' : Stable} (h : S'.c = S.c) {v : Value} {p : PV} (r : Rep S v p) (hn : p.nomap = true) : Rep S' v p := by
  induction r with
  | any v => exact .any v
  | int k n => exact .int k n
  | bool b => exact .bool b
  | str l => exact .str l
  | flt k b => exact .flt k b
  | cpx k a b => exact .cpx k a b
  | agg vs cs hl _ ih => exact .agg vs cs hl (fun i hi => ih i hi (nomapL_getD hn i))
  | tup vs cs hl _ ih => exact .tup vs cs hl (fun i hi => ih i hi (nomapL_getD hn i))
  | sl0 a cap => exact .sl0 a cap
  | slnil => exact .slnil
  | sl b o cap sz es vals hsz hcap hS _ ih => exact .sl b o cap sz es vals hsz hcap (fun i j hi hj => by rw [h]; exact hS i j hi hj) (fun i j hi hj => ih i j hi hj (nomap_cells (nomapL_getD hn i) j))
  | rptr b o cs vals hS _ ih => exact .rptr b o cs vals (fun j hj => by rw [h]; exact hS j hj) (fun j hj => ih j hj (nomapL_getD hn j))
  | nilp => exact .nilp
  | nilfn => exact .nilfn
  | nilmap => exact .nilmap
  | mref b => exact .mref b
  | iptr b => exact .iptr b
  | rmap b es ks vs hS hk hv hb _ _ ihK ihV => simp [PV.nomap] at hn
  | fn f vs cs hl _ ih => exact .fn f vs cs hl (fun i hi => ih i hi (nomapL_getD hn i))

/-- the maps that are written still, taken as written no more -/
def sealS (S : Stable) (w : World) (o : Nat → Option MapC) : Stable :=
  ⟨S.c, fun b => match o b with
    | some _ => (match w.heap[b]? with | some (.map es _) => some es.toList | _ => none)
    | none => S.m b⟩

section
variable {P : Program} {B : Frm} {S : Stable} {M : Maps} {s : St} {a : Act} {w : World} {o : Nat → Option MapC} {it : Nat → Option IterC}

theorem sealS_at (hs : Stab B S w o it) {b : Nat} {c : MapC} (h : o b = some c) : ∃ es, (sealS S w o).m b = some es ∧ w.heap[b]? = some (.map ⟨es⟩ es.length) ∧ es.length = c.ks.length ∧ c.vs.length = c.ks.length ∧ (∀ i, i < c.ks.length → (es.getD i default).born = i) ∧
    (∀ i, i < c.ks.length → Rep S (es.getD i default).key (c.ks.getD i .any)) ∧ (∀ i, i < c.ks.length → Rep S (es.getD i default).val (c.vs.getD i .any)) := by
  obtain ⟨_, _, es, h1, h2⟩ := hs.o b c h
  exact ⟨es, by simp [sealS, h, h1], h1, h2⟩
theorem sealS_le (hs : Stab B S w o it) : SLe S (sealS S w o) := by
  refine ⟨fun _ _ _ h => h, fun b es h => ?_⟩
  cases ho : o b with
  | some c => rw [(hs.o b c ho).2.1] at h; cases h
  | none => simpa [sealS, ho] using h
theorem sealS_stab (hs : Stab B S w o it) : StabS (sealS S w o) w := by
  refine ⟨hs.s.c, fun b es h => ?_⟩
  cases ho : o b with
  | some c =>
    obtain ⟨es', h1, h2, _⟩ := sealS_at hs ho
    rw [h1] at h
    cases h
    exact h2
  | none => simp [sealS, ho] at h; exact hs.s.m b es h

theorem Rep.shut (hs : Stab B S w o it) {v : Value} {p : PV} (r : Rep S v p) : Rep (sealS S w o) v (p.shut o) := by
  have hle := sealS_le hs
  induction r with
  | agg vs cs hl _ ih => exact .agg vs _ (by rw [sealL_length]; exact hl) (fun i hi => by rw [sealL_length] at hi; rw [sealL_getD o cs i hi]; exact ih i hi)
  | tup vs cs hl _ ih => exact .tup vs _ (by rw [sealL_length]; exact hl) (fun i hi => by rw [sealL_length] at hi; rw [sealL_getD o cs i hi]; exact ih i hi)
  | fn f vs cs hl _ ih => exact .fn f vs _ (by rw [sealL_length]; exact hl) (fun i hi => by rw [sealL_length] at hi; rw [sealL_getD o cs i hi]; exact ih i hi)
  | any v => exact .any v
  | int k n => exact .int k n
  | bool b => exact .bool b
  | str l => exact .str l
  | flt k b => exact .flt k b
  | cpx k a b => exact .cpx k a b
  | sl0 a cap => exact .sl0 a cap
  | slnil => exact .slnil
  | sl b o' cap sz es vals h1 h2 h3 h4 _ => exact (Rep.sl b o' cap sz es vals h1 h2 h3 h4).mono hle
  | rptr b o' cs vals h1 h2 ih =>
    refine .rptr b o' _ vals (fun j hj => ?_) (fun j hj => ?_)
    · rw [sealL_length] at hj; exact h1 j hj
    · rw [sealL_length] at hj; rw [sealL_getD o cs j hj]; exact ih j hj
  | nilp => exact .nilp
  | nilfn => exact .nilfn
  | nilmap => exact .nilmap
  | iptr b => exact .iptr b
  | mref b =>
    unfold PV.shut
    cases ho : o b with
    | none => exact .mref b
    | some c =>
      obtain ⟨es, h1, h2, h3, h4, h5, h6, h7⟩ := sealS_at hs ho
      exact .rmap b es c.ks c.vs h1 h3 h4 h5 (fun i hi => (h6 i hi).mono hle) (fun i hi => (h7 i hi).mono hle)
  | rmap b es ks vs h1 h2 h3 h4 h5 h6 _ _ => exact (Rep.rmap b es ks vs h1 h2 h3 h4 h5 h6).mono hle
end

/-- A FUNCTION THAT WRITES ONE MAP: what it holds ahead of the call, and behind it -/
def Wr (P : Program) (f : FuncId) (args : Nat → List PV) (c : MapC) (r : PV) (c' : MapC) : Prop :=
  Callable P f ∧ r.dids = [] ∧ ∀ (b : Nat) (w : World) (S : Stable) (vs : List Value), StabS S w → S.m b = none → MapAt S w b c → vs.length = (args b).length → (∀ i, i < (args b).length → Rep S (vs.getD i undef) ((args b).getD i .any)) →
    Calls P f ⟨vs⟩ w fun e w' => ∃ v S', e = .returned v ∧ Rep S' v r ∧ StabS S' w' ∧ SLe S S' ∧ (∀ k, k < w.heap.size → k ≠ b → (∀ o, S' k o = S k o) ∧ S'.m k = S.m k) ∧ S'.m b = none ∧ MapAt S' w' b c' ∧ BelowF (fun k => k < w.heap.size ∧ k ≠ b) w w'

/-- A FUNCTION THAT MAKES ONE MAP and hands it on -/
def Mk (P : Program) (f : FuncId) (args : List PV) (r : Nat → PV) (c : MapC) : Prop :=
  Callable P f ∧ (∀ b, (r b).dids = []) ∧ ∀ (w : World) (S : Stable) (vs : List Value), StabS S w → vs.length = args.length → (∀ i, i < args.length → Rep S (vs.getD i undef) (args.getD i .any)) →
    Calls P f ⟨vs⟩ w fun e w' => ∃ v S' b, e = .returned v ∧ w.heap.size ≤ b ∧ Rep S' v (r b) ∧ StabS S' w' ∧ SLe S S' ∧ (∀ k, k < w.heap.size → (∀ o, S' k o = S k o) ∧ S'.m k = S.m k) ∧ S'.m b = none ∧ MapAt S' w' b c ∧ Below w.heap.size w w'

/-- A FUNCTION WITHOUT A BODY that only computes -/
def Xt (P : Program) (f : FuncId) (args : List PV) (r : PV) : Prop :=
  ∀ (w : World) (S : Stable) (vs : List Value), vs.length = args.length → (∀ i, i < args.length → Rep S (vs.getD i undef) (args.getD i .any)) → ∃ v, Rep S v r ∧ (callFunc f ⟨vs⟩).run P w = .ok (.value v) w

/-- A FUNCTION THAT HANDS ON A ROW, which the caller may make longer -/
def Rw (P : Program) (f : FuncId) (args : List PV) (r : Nat → PV) (n sz : Nat) (e : TypeId) : Prop :=
  Callable P f ∧ (∀ d, ∀ i ∈ (r d).ids, i = .r d) ∧ ∀ (w : World) (S : Stable) (vs : List Value), StabS S w → vs.length = args.length → (∀ i, i < args.length → Rep S (vs.getD i undef) (args.getD i .any)) →
    Calls P f ⟨vs⟩ w fun en w' => ∃ v S' κ ψ, en = .returned v ∧ (∀ (d : Nat) (M : Maps) (q : Rows), M.κ d = κ → M.ψ d = ψ → q d = some (.live n sz e) → RepS S' M q v (r d)) ∧
      RowOk (fun k => k < w.heap.size) S' ⟨id, fun _ => ψ, fun _ => κ⟩ w' 0 (.live n sz e) ∧ StabS S' w' ∧ SLe S S' ∧ (∀ k, k < w.heap.size → (∀ o, S' k o = S k o) ∧ S'.m k = S.m k) ∧ Below w.heap.size w w'

/-- a call whose callee looks into, writes or makes a map, has no body, or hands on a row -/
def callX (P : Program) (g : FuncId) (args : List PV) (m : Hp) (K : PV → Hp → Prop) : Prop :=
  (∃ r, Pure P g (PV.sealL m.o args) r ∧ r.nomap = true ∧ K r m) ∨
  (∃ b c A r c', m.o b = some c ∧ args = A b ∧ Wr P g A c r c' ∧ K r { m with o := upd m.o b (some c') }) ∨
  (∃ r c, Mk P g args r c ∧ ∀ b, m.o b = none → K (r b) { m with o := upd m.o b (some c) }) ∨
  (∃ r, Xt P g args r ∧ K r m) ∨
  (∃ r n sz e d, Rw P g args r n sz e ∧ m.q d = none ∧ K (r d) (m.setq d (.live n sz e)))

def rangeX (x : PV) (m : Hp) (K : PV → Hp → Prop) : Prop :=
  match x with
  | .mref b => match m.o b with
    | some c => ∀ ib, m.it ib = none → K (.iptr ib) { m with it := upd m.it ib (some ⟨b, c.ks.length, [], none⟩) }
    | none => False
  | .rmap ks vs => ∀ ib b, m.it ib = none → K (.iptr ib) { m with it := upd m.it ib (some ⟨b, ks.length, [], some ⟨ks, vs⟩⟩) }
  | _ => False
def nextX (x : PV) (m : Hp) (K : PV → Hp → Prop) : Prop :=
  match x with
  | .iptr ib => match m.it ib with
    | some it => match mapIt m it with
      | some c => c.ks.length = it.n ∧ ((∀ i, i < it.n → i ∈ it.seen) → K (.tup [.bool false]) m) ∧
          ∀ i, i < it.n → i ∉ it.seen → K (.tup [.bool true, c.ks.getD i .any, c.vs.getD i .any]) { m with it := upd m.it ib (some ⟨it.b, it.n, it.seen ++ [i], it.c⟩) }
      | none => False
    | none => False
  | _ => False
def makeX (m : Hp) (K : PV → Hp → Prop) : Prop := ∀ b, m.o b = none → K (.mref b) { m with o := upd m.o b (some ⟨[], []⟩) }

/-- operations whose outcome is open, or that reach into maps -/
def spec (P : Program) (o : Oper) (s : St) (K : St → Prop) : Prop :=
  match o.op with
  | .call c => match calleeOf s.eval c with
    | some (g, args) => PV.givableL s.m args ∧ callX P g (PV.giveL s.m args) s.m fun r m => K ((s.with m).put o.dst r)
    | none => False
  | .makeMap _ none => makeX s.m fun r m => K ((s.with m).put o.dst r)
  | .range t x => tmapB P t = true ∧ rangeX (s.eval x) s.m fun r m => K ((s.with m).put o.dst r)
  | .next x false => nextX (s.eval x) s.m fun r m => K ((s.with m).put o.dst r)
  | _ => False

end Go.PL

namespace Go.PL
open Go.RowKit
set_option linter.unusedVariables false
section
variable {P : Program} {B : Frm} {S : Stable} {M : Maps} {s : St} {a : Act} {w : World}

theorem RepS.iptr_inv {v : Value} {qq : Rows} {b : Nat} (r : RepS S M qq v (.iptr b)) : v = .pointer (some ⟨b, 0, none⟩) := by
  cases r with | clean r => cases r; rfl
theorem Sim.growX (hs : Sim B S M s a w) {b : Nat} (hb : ∀ vs t f, w.heap[b]? ≠ some (.cells vs t f)) {S' : Stable} {w' : World} (hle : SLe S S') (hag : ∀ k, k < w.heap.size → k ≠ b → ∀ o, S' k o = S k o)
    (hw : ∀ k, k < w.heap.size → k ≠ b → w'.heap[k]? = w.heap[k]?) (hsz : w.heap.size ≤ w'.heap.size) {o' : Nat → Option MapC} {it' : Nat → Option IterC} (hst : Stab B S' w' o' it') : Sim B S' M (s.with { s.m with o := o', it := it' }) a w' := by
  have rep : ∀ {v p}, RepS S M s.m.q v p → RepS S' M s.m.q v p := fun r => r.heap hle (fun _ _ => rfl) (fun _ _ n sz e h => .inl ⟨h, rfl, rfl⟩)
  refine ⟨hs.defers, hs.hn, fun k hk => Nat.lt_of_lt_of_le (hs.hB k hk) hsz, hst, fun i => rep (hs.fr i), hs.ids, fun id cs hc => ?_, fun id r hr => ?_, hs.inj, hs.injq, hs.injx⟩
  · have hb' := hs.blk id cs hc
    show BlkOk _ _ _ _ _ _ _ (s.m.z id)
    cases hz : s.m.z id with
    | false =>
      rw [hz] at hb'
      have hlt := hs.blk_lt hc hz
      obtain ⟨h1, h2, ⟨vs, t, h3, h4, h5⟩, h6⟩ := hb'
      have hne : M.φ id ≠ b := fun e => hb _ _ _ (e ▸ h3)
      exact ⟨h1, fun o => by rw [hag _ hlt hne]; exact h2 o, ⟨vs, t, by rw [hw _ hlt hne]; exact h3, h4, fun j hj => rep (h5 j hj)⟩, h6⟩
    | true =>
      rw [hz] at hb'
      obtain ⟨vals, hv⟩ := hb'; exact ⟨vals, fun j hj => ⟨hle _ _ _ (hv j hj).1, (hv j hj).2.mono hle⟩⟩
  · have hr' := hs.row id r hr
    cases r with
    | live n sz e =>
      obtain ⟨h1, h2⟩ := hr'
      refine ⟨h1, fun c hk => ?_⟩
      have hlt := hs.row_lt hr (by omega)
      obtain ⟨g0, g0', g1, ⟨vs, g2, g3⟩, g4⟩ := h2 c hk
      have hne : M.ψ id ≠ b := fun e => hb _ _ _ (e ▸ g2)
      exact ⟨g0, g0', g1, ⟨vs, by rw [hw _ hlt hne]; exact g2, g3⟩, fun o ho => by rw [hag _ hlt hne]; exact g4 o ho⟩
    | dead => trivial

theorem calls_args (hs : Sim B S M s a w) {f : Operand} {cargs : List Operand} {ts : Array TypeId} {g : FuncId} {args : List PV} (hc : calleeOf s.eval ⟨.value f, ⟨cargs⟩, ts⟩ = some (g, args)) (hg : PV.givableL s.m args) (hcal : Callable P g)
    {dst : Option Tmp} {ty : TypeId} {pos : String} {after : Array Edge} {guard : Option (Nat × Bool)} :
    ∃ vs : List Value, vs.length = args.length ∧ (∀ i, i < args.length → Rep S (vs.getD i undef) ((PV.giveL s.m args).getD i .any)) ∧ (execOp a.eval ⟨dst, .call ⟨.value f, ⟨cargs⟩, ts⟩, ty, pos, after, guard⟩).run P w = .ok (.enter g ⟨vs⟩) w := by
  unfold calleeOf at hc
  simp only at hc
  split at hc
  · rename_i g' caps hf
    simp only [Option.some.injEq, Prod.mk.injEq] at hc
    obtain ⟨rfl, rfl⟩ := hc
    have ef := hs.eval f
    rw [hf] at ef
    obtain ⟨vs, hv, hl, hr⟩ := ef.fn_inv
    obtain ⟨fn, c1, c2, c3⟩ := hcal
    have hargs : ∀ i, i < (cargs.map s.eval ++ caps).length → RepS S M s.m.q ((cargs.map a.eval ++ vs).getD i undef) ((cargs.map s.eval ++ caps).getD i .any) := by
      intro i hi
      by_cases h1 : i < cargs.length
      · rw [getD_append_left (by simpa using h1), getD_append_left (by simpa using h1)]
        exact map_getD (s := s) hs.eval i (by simpa using h1)
      · rw [getD_append_right (by simp; omega), getD_append_right (by simp; omega)]
        simp only [List.length_map]
        exact hr _ (by simp at hi; omega)
    refine ⟨cargs.map a.eval ++ vs, by simp [hl], fun i hi => ?_, ?_⟩
    · rw [PV.giveL_getD _ _ i hi]
      exact (hargs i hi).give hs (PV.givableL_getD hg i hi)
    · have hb : ¬ fn.body = none := by intro h; simp [h] at c3
      simp [execOp, resolve, Deferred.ofValue, hv, invoke, callFunc, program, Sem.run, c1, hb, c2]
  · cases hc

/-- the maps of a state, behind a step that turns one of them -/
theorem Stab.turn {S' : Stable} {w' : World} {o : Nat → Option MapC} {it : Nat → Option IterC} (hs : Stab B S w o it) {b : Nat} {c : MapC} (hle : SLe S S') (hst : StabS S' w') (hm : ∀ k, k < w.heap.size → k ≠ b → S'.m k = S.m k)
    (hw : ∀ k, k < w.heap.size → k ≠ b → w'.heap[k]? = w.heap[k]?) (hB : ¬ B b) (hb : S'.m b = none) (hc : MapAt S' w' b c) (hit : ∀ x, it b ≠ some x) : Stab B S' w' (upd o b (some c)) it := by
  refine ⟨hst, fun k d hd => ?_, fun k x hx => ?_⟩
  · by_cases e : b = k
    · subst e
      rw [upd_same] at hd
      cases hd
      exact ⟨hB, hb, hc⟩
    · rw [upd_ne _ _ e] at hd
      obtain ⟨q1, q2, q3⟩ := hs.o k d hd
      exact ⟨q1, by rw [hm k q3.lt (Ne.symm e)]; exact q2, q3.move hle (hw k q3.lt (Ne.symm e))⟩
  · obtain ⟨q1, q2, q3⟩ := hs.i k x hx
    refine ⟨q1, ?_, q3.mono hle⟩
    have hlt := q2.lt
    unfold IterAt at q2 ⊢
    rw [hw k hlt (fun e => by subst e; exact hit x hx)]
    exact q2

theorem ext_args (hs : Sim B S M s a w) {f : Operand} {cargs : List Operand} {ts : Array TypeId} {g : FuncId} {args : List PV} (hc : calleeOf s.eval ⟨.value f, ⟨cargs⟩, ts⟩ = some (g, args)) (hg : PV.givableL s.m args)
    {dst : Option Tmp} {ty : TypeId} {pos : String} {after : Array Edge} {guard : Option (Nat × Bool)} :
    ∃ vs : List Value, vs.length = args.length ∧ (∀ i, i < args.length → Rep S (vs.getD i undef) ((PV.giveL s.m args).getD i .any)) ∧ (execOp a.eval ⟨dst, .call ⟨.value f, ⟨cargs⟩, ts⟩, ty, pos, after, guard⟩).run P w = (callFunc g ⟨vs⟩).run P w := by
  unfold calleeOf at hc
  simp only at hc
  split at hc
  · rename_i g' caps hf
    simp only [Option.some.injEq, Prod.mk.injEq] at hc
    obtain ⟨rfl, rfl⟩ := hc
    have ef := hs.eval f
    rw [hf] at ef
    obtain ⟨vs, hv, hl, hr⟩ := ef.fn_inv
    have hargs : ∀ i, i < (cargs.map s.eval ++ caps).length → RepS S M s.m.q ((cargs.map a.eval ++ vs).getD i undef) ((cargs.map s.eval ++ caps).getD i .any) := by
      intro i hi
      by_cases h1 : i < cargs.length
      · rw [getD_append_left (by simpa using h1), getD_append_left (by simpa using h1)]
        exact map_getD (s := s) hs.eval i (by simpa using h1)
      · rw [getD_append_right (by simp; omega), getD_append_right (by simp; omega)]
        simp only [List.length_map]
        exact hr _ (by simp at hi; omega)
    refine ⟨cargs.map a.eval ++ vs, by simp [hl], fun i hi => ?_, ?_⟩
    · rw [PV.giveL_getD _ _ i hi]
      exact (hargs i hi).give hs (PV.givableL_getD hg i hi)
    · simp [execOp, resolve, Deferred.ofValue, hv, invoke]
  · cases hc

/-- a row more, in a block that nobody else has -/
theorem Sim.addRow (hs : Sim B S M s a w) {d κ ψ n sz : Nat} {e : TypeId} (hd : s.m.q d = none) (hrow : RowOk B S ⟨id, fun _ => ψ, fun _ => κ⟩ w 0 (.live n sz e))
    (hnq : ∀ i n sz e, s.m.q i = some (.live n sz e) → 0 < M.κ i → 0 < κ → M.ψ i ≠ ψ) (hnh : ∀ i cs, s.m.h i = some cs → s.m.z i = false → 0 < κ → M.φ i ≠ ψ) :
    Sim B S { M with ψ := upd M.ψ d ψ, κ := upd M.κ d κ } (s.with (s.m.setq d (.live n sz e))) a w := by
  have e1 : ∀ i, i ≠ d → upd M.ψ d ψ i = M.ψ i := fun i h => upd_ne _ _ (Ne.symm h)
  have e2 : ∀ i, i ≠ d → upd M.κ d κ i = M.κ i := fun i h => upd_ne _ _ (Ne.symm h)
  have e3 : ∀ i, i ≠ d → upd s.m.q d (some (.live n sz e)) i = s.m.q i := fun i h => upd_ne _ _ (Ne.symm h)
  have rep : ∀ {v p}, RepS S M s.m.q v p → (∀ i ∈ p.ids, Live s.m i) → RepS S { M with ψ := upd M.ψ d ψ, κ := upd M.κ d κ } (upd s.m.q d (some (.live n sz e))) v p := fun r hids =>
    r.heap (SLe.refl _) (fun _ _ => rfl) (fun i hi n' sz' e' hq => by
      by_cases ei : i = d
      · subst ei; exact absurd hd (hids _ hi)
      · rw [e3 i ei] at hq; exact .inl ⟨hq, e2 i ei, e1 i ei⟩)
  have live : ∀ i, Live s.m i → Live (s.m.setq d (.live n sz e)) i := fun i h => by
    cases i with
    | b i => exact h
    | r i =>
      show upd _ _ _ _ ≠ none
      by_cases ei : i = d
      · subst ei; rw [upd_same]; simp
      · rw [e3 i ei]; exact h
  refine ⟨hs.defers, hs.hn, hs.hB, hs.stable, fun i => rep (hs.fr i) (hs.ids i), fun i j hj => live j (hs.ids i j hj), fun i b hb => ?_, fun i r hr => ?_, hs.inj, ?_, ?_⟩
  · have hb' := hs.blk i b hb
    show BlkOk _ _ _ _ _ _ _ (s.m.z i)
    cases hz : s.m.z i with
    | false =>
      rw [hz] at hb'
      obtain ⟨h1, h2, ⟨us, t', h3, h4, h5⟩, h6⟩ := hb'
      exact ⟨h1, h2, ⟨us, t', h3, h4, fun j hj => rep (h5 j hj) (fun k hk => h6 _ (getD_mem hj) k hk)⟩, fun c hc k hk => live k (h6 c hc k hk)⟩
    | true => rw [hz] at hb'; exact hb'
  · simp only [St.with, Hp.setq] at hr
    by_cases ei : i = d
    · subst ei
      rw [upd_same] at hr
      cases hr
      simpa only [RowOk, upd_same] using hrow
    · rw [e3 i ei] at hr
      have := hs.row i r hr
      cases r with
      | live n' z' t' => simpa only [RowOk, e2 i ei, e1 i ei] using this
      | dead => trivial
  · intro i j n1 z1 t1 n2 z2 t2 hi hj ki kj hij
    simp only [St.with, Hp.setq] at hi hj ki kj ⊢
    by_cases ei : i = d
    · subst ei
      rw [e3 j (Ne.symm hij)] at hj
      rw [e2 j (Ne.symm hij)] at kj
      rw [upd_same] at ki ⊢
      rw [e1 j (Ne.symm hij)]
      exact Ne.symm (hnq j _ _ _ hj kj ki)
    · by_cases ej : j = d
      · subst ej
        rw [e3 i ei] at hi
        rw [e2 i ei] at ki
        rw [upd_same] at kj ⊢
        rw [e1 i ei]
        exact hnq i _ _ _ hi ki kj
      · rw [e3 i ei] at hi; rw [e3 j ej] at hj; rw [e2 i ei] at ki; rw [e2 j ej] at kj
        rw [e1 i ei, e1 j ej]
        exact hs.injq i j _ _ _ _ _ _ hi hj ki kj hij
  · intro i j ds n1 z1 t1 hi zi hj kj
    simp only [St.with, Hp.setq] at hi zi hj kj ⊢
    by_cases ej : j = d
    · subst ej
      rw [upd_same] at kj ⊢
      exact hnh i _ hi zi kj
    · rw [e3 j ej] at hj; rw [e2 j ej] at kj
      rw [e1 j ej]
      exact hs.injx i j _ _ _ _ hi zi hj kj

theorem spec_sound (hs : Sim B S M s a w) {o : Oper} {K : St → Prop} (hd : ∀ x, o.dst = some x → x < s.n) (h : spec P o s K) (next : Act → World → Prop) (Q : Exit → Act → World → Prop)
    (hn : ∀ s' v w' S' M', K s' → Sim B S' M' s' (a.put o.dst v) w' → Ext B S S' w w' → next (a.put o.dst v) w') : o.wp P a w next Q := by
  obtain ⟨dst, op, ty, pos, after, guard⟩ := o
  unfold spec at h
  simp only at h hd hn ⊢
  cases op with
  | call c =>
    obtain ⟨callee, cargs, ts⟩ := c
    obtain ⟨cargs⟩ := cargs
    cases callee with
    | value f =>
      simp only at h
      cases hc : calleeOf s.eval ⟨.value f, ⟨cargs⟩, ts⟩ with
      | none => rw [hc] at h; exact h.elim
      | some ga =>
        obtain ⟨g, args⟩ := ga
        rw [hc] at h
        obtain ⟨hg, hx⟩ := h
        unfold Oper.wp
        rcases hx with ⟨r, ⟨hcal, _, hcalls⟩, hno, hk⟩ | ⟨b, c, A, r, c', hob, hA, ⟨hcal, _, hcalls⟩, hk⟩ | ⟨r, c, ⟨hcal, _, hcalls⟩, hk⟩ | ⟨r, hxt, hk⟩ | ⟨r, n, sz, e, d, ⟨hcal, hri, hcalls⟩, hqd, hk⟩
        · obtain ⟨vs, hl, hrep, hrun⟩ := calls_args (dst := dst) (ty := ty) (pos := pos) (after := after) (guard := guard) hs hc hg hcal
          rw [hrun]
          show Calls P g ⟨vs⟩ w _
          refine (hcalls w (sealS S w s.m.o) vs (sealS_stab hs.stable) (by rw [sealL_length, PV.giveL_length]; exact hl) (fun i hi => ?_)).mono fun e w' hq => ?_
          · rw [sealL_length, PV.giveL_length] at hi
            rw [sealL_getD _ _ i (by rw [PV.giveL_length]; exact hi)]
            exact (hrep i hi).shut hs.stable
          · obtain ⟨v, S1, rfl, h2, h3, h4, h5, h6⟩ := hq
            let S' : Stable := ⟨S1.c, fun k => match s.m.o k with | some _ => none | none => S1.m k⟩
            have m1 : ∀ k c, s.m.o k = some c → S'.m k = none := fun k c hc => by simp [S', hc]
            have m2 : ∀ k, s.m.o k = none → S'.m k = S1.m k := fun k hc => by simp [S', hc]
            have m3 : ∀ k, s.m.o k = none → (sealS S w s.m.o).m k = S.m k := fun k hc => by simp [sealS, hc]
            have l1 : SLe S S' := ⟨fun k o v hv => h4.c k o v hv, fun k es he => by
              cases ho : s.m.o k with
              | some c => rw [(hs.stable.o k c ho).2.1] at he; cases he
              | none => rw [m2 k ho]; exact h4.m k es (by rw [m3 k ho]; exact he)⟩
            have l2 : ∀ k, k < w.heap.size → (∀ o, S' k o = S k o) ∧ S'.m k = S.m k := fun k hk => by
              obtain ⟨a1, a2⟩ := h5 k hk
              refine ⟨a1, ?_⟩
              cases ho : s.m.o k with
              | some c => rw [m1 k c ho, (hs.stable.o k c ho).2.1]
              | none => rw [m2 k ho, a2, m3 k ho]
            have l3 : StabS S' w' := ⟨h3.c, fun k es he => by
              cases ho : s.m.o k with
              | some c => rw [m1 k c ho] at he; cases he
              | none => rw [m2 k ho] at he; exact h3.m k es he⟩
            have hs' := hs.grow l1 l2 l3 h6.block h6.size
            have hr' : Rep S' v r := Rep.cells_only (S := S1) (S' := S') rfl h2 hno
            exact hn _ v w' S' M hk (hs'.put hd (.clean hr') (fun i hi => absurd hi (hr'.clean_ids i))) ⟨l1, fun k hk => l2 k (hs.hB k hk), (BelowF.of h6).mono hs.hB⟩
        · obtain ⟨vs, hl, hrep, hrun⟩ := calls_args (dst := dst) (ty := ty) (pos := pos) (after := after) (guard := guard) hs hc hg hcal
          rw [hrun]
          show Calls P g ⟨vs⟩ w _
          obtain ⟨q1, q2, q3⟩ := hs.stable.o b c hob
          rw [hA] at hrep
          refine (hcalls b w S vs hs.stable.s q2 q3 (by rw [← hA, PV.giveL_length]; exact hl) (fun i hi => hrep i (by rw [← hA, PV.giveL_length] at hi; exact hi))).mono fun e w' hq => ?_
          obtain ⟨v, S', rfl, h2, h3, h4, h5, h5', h6, h7⟩ := hq
          have hnc : ∀ vs t f, w.heap[b]? ≠ some (.cells vs t f) := fun vs t f hh => by obtain ⟨es, e1, _⟩ := q3; rw [e1] at hh; cases hh
          have hit : ∀ x, s.m.it b ≠ some x := fun x hx => by
            have h1 := (hs.stable.i b x hx).2.1
            obtain ⟨es, e1, _⟩ := q3
            unfold IterAt at h1
            rw [e1] at h1; cases h1
          have hst : Stab B S' w' (upd s.m.o b (some c')) s.m.it := hs.stable.turn h4 h3 (fun k hk hkb => (h5 k hk hkb).2) (fun k hk hkb => h7.block k ⟨hk, hkb⟩) q1 h5' h6 hit
          have hs' := hs.growX hnc h4 (fun k hk hkb => (h5 k hk hkb).1) (fun k hk hkb => h7.block k ⟨hk, hkb⟩) h7.size hst
          exact hn _ v w' S' M hk (hs'.put hd (.clean h2) (fun i hi => absurd hi (h2.clean_ids i))) ⟨h4, fun k hk => h5 k (hs.hB k hk) (fun e => q1 (e ▸ hk)), h7.mono (fun k hk => ⟨hs.hB k hk, fun e => q1 (e ▸ hk)⟩)⟩
        · obtain ⟨vs, hl, hrep, hrun⟩ := calls_args (dst := dst) (ty := ty) (pos := pos) (after := after) (guard := guard) hs hc hg hcal
          rw [hrun]
          show Calls P g ⟨vs⟩ w _
          refine (hcalls w S vs hs.stable.s (by rw [PV.giveL_length]; exact hl) (fun i hi => hrep i (by rw [PV.giveL_length] at hi; exact hi))).mono fun e w' hq => ?_
          obtain ⟨v, S', b, rfl, hbl, h2, h3, h4, h5, h5', h6, h7⟩ := hq
          have hnb : s.m.o b = none := by
            cases ho : s.m.o b with
            | none => rfl
            | some d => have := (hs.stable.o b d ho).2.2.lt; omega
          have hBb : ¬ B b := fun hh => by have := hs.hB b hh; omega
          have hnc : ∀ vs t f, w.heap[b]? ≠ some (.cells vs t f) := fun vs t f hh => by have := (Array.getElem?_eq_some_iff.1 hh).1; omega
          have hit : ∀ x, s.m.it b ≠ some x := fun x hx => by have := (hs.stable.i b x hx).2.1.lt; omega
          have hst : Stab B S' w' (upd s.m.o b (some c)) s.m.it := hs.stable.turn h4 h3 (fun k hk _ => (h5 k hk).2) (fun k hk _ => h7.block k hk) hBb h5' h6 hit
          have hs' := hs.growX hnc h4 (fun k hk _ => (h5 k hk).1) (fun k hk _ => h7.block k hk) h7.size hst
          exact hn _ v w' S' M (hk b hnb) (hs'.put hd (.clean h2) (fun i hi => absurd hi (h2.clean_ids i))) ⟨h4, fun k hk => h5 k (hs.hB k hk), (BelowF.of h7).mono hs.hB⟩
        · obtain ⟨vs, hl, hrep, hrun⟩ := ext_args (dst := dst) (ty := ty) (pos := pos) (after := after) (guard := guard) hs hc hg
          obtain ⟨v, hv, hrun2⟩ := hxt w S vs (by rw [PV.giveL_length]; exact hl) (fun i hi => hrep i (by rw [PV.giveL_length] at hi; exact hi))
          rw [hrun, hrun2]
          exact hn _ v w S M hk (hs.put hd (.clean hv) (fun i hi => absurd hi (hv.clean_ids i))) (Ext.refl _ _ _)
        · obtain ⟨vs, hl, hrep, hrun⟩ := calls_args (dst := dst) (ty := ty) (pos := pos) (after := after) (guard := guard) hs hc hg hcal
          rw [hrun]
          show Calls P g ⟨vs⟩ w _
          refine (hcalls w S vs hs.stable.s (by rw [PV.giveL_length]; exact hl) (fun i hi => hrep i (by rw [PV.giveL_length] at hi; exact hi))).mono fun en w' hq => ?_
          obtain ⟨v, S', κ, ψ, rfl, h1, h2, h3, h4, h5, h6⟩ := hq
          have hs1 := hs.grow h4 h5 h3 h6.block h6.size
          have hψ : 0 < κ → w.heap.size ≤ ψ := fun h0 => by
            obtain ⟨_, g2⟩ := h2
            obtain ⟨_, _, g3, _⟩ := g2 (κ - 1) (by show κ = _; omega)
            exact Nat.not_lt.1 g3
          have hs2 := hs1.addRow (d := d) (κ := κ) (ψ := ψ) (n := n) (sz := sz) (e := e) hqd
            (by
              obtain ⟨g1, g2⟩ := h2
              refine ⟨g1, fun c hc => ?_⟩
              obtain ⟨k1, k2, k3, k4, k5⟩ := g2 c hc
              exact ⟨k1, k2, fun hB => k3 (hs.hB _ hB), k4, k5⟩)
            (fun i n1 z1 e1 hi ki k0 => by have := hs.row_lt hi ki; have := hψ k0; omega)
            (fun i cs hi zi k0 => by have := hs.blk_lt hi zi; have := hψ k0; omega)
          have hrv := h1 d { M with ψ := upd M.ψ d ψ, κ := upd M.κ d κ } (s.m.setq d (.live n sz e)).q (upd_same _ _ _) (upd_same _ _ _) (upd_same _ _ _)
          exact hn _ v w' S' _ hk (hs2.put hd hrv (fun i hi => by
            rw [hri d i hi]
            show upd s.m.q d _ d ≠ none
            rw [upd_same]; simp)) ⟨h4, fun k hk => h5 k (hs.hB k hk), (BelowF.of h6).mono hs.hB⟩
    | _ => simp [calleeOf] at h
  | makeMap t r =>
    cases r with
    | some _ => exact h.elim
    | none =>
      simp only at h
      unfold Oper.wp
      have hrun : (execOp a.eval ⟨dst, .makeMap t none, ty, pos, after, guard⟩).run P w = .ok (.value (.map (some w.heap.size))) (w.alloc (.map #[] 0)) := by
        simp [execOp, Instr.makeMap, newObj, Sem.run]
      rw [hrun]
      have hnb : s.m.o w.heap.size = none := by
        cases ho : s.m.o w.heap.size with
        | none => rfl
        | some d => have := (hs.stable.o _ d ho).2.2.lt; omega
      have hold : ∀ k, k < w.heap.size → (w.alloc (.map #[] 0)).heap[k]? = w.heap[k]? := fun k hk => alloc_heap_old w _ hk
      have hnew : (w.alloc (.map #[] 0)).heap[w.heap.size]? = some (.map #[] 0) := alloc_heap_new w _
      have hst : Stab B S (w.alloc (.map #[] 0)) (upd s.m.o w.heap.size (some ⟨[], []⟩)) s.m.it :=
        hs.stable.turn (SLe.refl _) (hs.stable.s.old hold) (fun _ _ _ => rfl) (fun k hk _ => hold k hk) hs.new_ok (hs.S_m (Nat.le_refl _)) ⟨[], hnew, rfl, rfl, fun i hi => by simp at hi, fun i hi => by simp at hi, fun i hi => by simp at hi⟩
          (fun x hx => by have := (hs.stable.i _ x hx).2.1.lt; omega)
      have hs' := hs.growX (b := w.heap.size) (fun vs t f hh => by have := (Array.getElem?_eq_some_iff.1 hh).1; omega) (SLe.refl _) (fun _ _ _ _ => rfl) (fun k hk _ => hold k hk) (by rw [alloc_size]; omega) hst
      exact hn _ _ _ S M (h w.heap.size hnb) (hs'.put hd (.clean (.mref _)) (by simp [PV.ids])) (hs.ext_alloc _)
  | range t x =>
    simp only at h
    obtain ⟨htm, h⟩ := h
    have ex := hs.eval x
    unfold rangeX at h
    split at h
    · rename_i b hxb
      split at h
      · rename_i c hob
        rw [hxb] at ex
        obtain ⟨q1, q2, es, e1, e2, e3, e4, e5, e6⟩ := hs.stable.o b c hob
        unfold tmapB at htm
        split at htm
        · rename_i kt et hu
          unfold Oper.wp
          have hg := MapKept.run_getObj_map (P := P) e1
          have hrun : (execOp a.eval ⟨dst, .range t x, ty, pos, after, guard⟩).run P w = .ok (.value (.pointer (some ⟨w.heap.size, 0, none⟩))) (w.alloc (.mapIter (some b) es.length #[] es.length)) := by
            simp [execOp, Instr.range, run_underlying hu, ex.mref_inv, hg, newObj, Sem.run]
          rw [hrun]
          have hold : ∀ k, k < w.heap.size → (w.alloc (.mapIter (some b) es.length #[] es.length)).heap[k]? = w.heap[k]? := fun k hk => alloc_heap_old w _ hk
          have hnew := alloc_heap_new w (.mapIter (some b) es.length #[] es.length)
          have hni : s.m.it w.heap.size = none := by
            cases ho : s.m.it w.heap.size with
            | none => rfl
            | some d => have := (hs.stable.i _ d ho).2.1.lt; omega
          have hst : Stab B S (w.alloc (.mapIter (some b) es.length #[] es.length)) s.m.o (upd s.m.it w.heap.size (some ⟨b, c.ks.length, [], none⟩)) := by
            refine ⟨hs.stable.s.old hold, fun k d hd => ?_, fun k y hy => ?_⟩
            · obtain ⟨g1, g2, g3⟩ := hs.stable.o k d hd
              exact ⟨g1, g2, g3.move (SLe.refl _) (hold k g3.lt)⟩
            · by_cases e : w.heap.size = k
              · subst e
                rw [upd_same] at hy
                cases hy
                refine ⟨hs.new_ok, ?_, fun c hc => by cases hc⟩
                unfold IterAt
                rw [hnew, e2]
              · rw [upd_ne _ _ e] at hy
                obtain ⟨g1, g2⟩ := hs.stable.i k y hy
                refine ⟨g1, ?_⟩
                have := g2.1.lt
                unfold IterAt at g2 ⊢
                rw [hold k this]; exact g2
          have hs' := hs.growX (b := w.heap.size) (fun vs t f hh => by have := (Array.getElem?_eq_some_iff.1 hh).1; omega) (SLe.refl _) (fun _ _ _ _ => rfl) (fun k hk _ => hold k hk) (by rw [alloc_size]; omega) hst
          exact hn _ _ _ S M (h w.heap.size hni) (hs'.put hd (.clean (.iptr _)) (by simp [PV.ids])) (hs.ext_alloc _)
        · cases htm
      · exact h.elim
    · rename_i ks vs hxb
      rw [hxb] at ex
      generalize hval : a.eval x = u at ex
      obtain ⟨b, es, hu2, hS, e2, e3, e4, e5, e6⟩ : ∃ b es, u = .map (some b) ∧ S.m b = some es ∧ es.length = ks.length ∧ vs.length = ks.length ∧ (∀ i, i < ks.length → (es.getD i default).born = i) ∧
          (∀ i, i < ks.length → Rep S (es.getD i default).key (ks.getD i .any)) ∧ (∀ i, i < ks.length → Rep S (es.getD i default).val (vs.getD i .any)) := by
        cases ex with
        | clean r => cases r with
          | rmap b es _ _ hS hk hv hb hK hV => exact ⟨b, es, rfl, hS, hk, hv, hb, hK, hV⟩
      subst hu2
      have e1 := hs.stable.s.m b es hS
      unfold tmapB at htm
      split at htm
      · rename_i kt et hu
        unfold Oper.wp
        have hg := MapKept.run_getObj_map (P := P) e1
        have hrun : (execOp a.eval ⟨dst, .range t x, ty, pos, after, guard⟩).run P w = .ok (.value (.pointer (some ⟨w.heap.size, 0, none⟩))) (w.alloc (.mapIter (some b) es.length #[] es.length)) := by
          simp [execOp, Instr.range, run_underlying hu, hval, hg, newObj, Sem.run]
        rw [hrun]
        have hold : ∀ k, k < w.heap.size → (w.alloc (.mapIter (some b) es.length #[] es.length)).heap[k]? = w.heap[k]? := fun k hk => alloc_heap_old w _ hk
        have hnew := alloc_heap_new w (.mapIter (some b) es.length #[] es.length)
        have hni : s.m.it w.heap.size = none := by
          cases ho : s.m.it w.heap.size with
          | none => rfl
          | some d => have := (hs.stable.i _ d ho).2.1.lt; omega
        have hst : Stab B S (w.alloc (.mapIter (some b) es.length #[] es.length)) s.m.o (upd s.m.it w.heap.size (some ⟨b, ks.length, [], some ⟨ks, vs⟩⟩)) := by
          refine ⟨hs.stable.s.old hold, fun k d hd => ?_, fun k y hy => ?_⟩
          · obtain ⟨g1, g2, g3⟩ := hs.stable.o k d hd
            exact ⟨g1, g2, g3.move (SLe.refl _) (hold k g3.lt)⟩
          · by_cases e : w.heap.size = k
            · subst e
              rw [upd_same] at hy
              cases hy
              refine ⟨hs.new_ok, ?_, fun c hc => by cases hc; exact ⟨es, hS, e2, e3, e4, e5, e6⟩⟩
              unfold IterAt
              rw [hnew, e2]
            · rw [upd_ne _ _ e] at hy
              obtain ⟨g1, g2⟩ := hs.stable.i k y hy
              refine ⟨g1, ?_⟩
              have := g2.1.lt
              unfold IterAt at g2 ⊢
              rw [hold k this]; exact g2
        have hs' := hs.growX (b := w.heap.size) (fun vs t f hh => by have := (Array.getElem?_eq_some_iff.1 hh).1; omega) (SLe.refl _) (fun _ _ _ _ => rfl) (fun k hk _ => hold k hk) (by rw [alloc_size]; omega) hst
        exact hn _ _ _ S M (h w.heap.size b hni) (hs'.put hd (.clean (.iptr _)) (by simp [PV.ids])) (hs.ext_alloc _)
      · cases htm
    · exact h.elim
  | next x isS =>
    cases isS with
    | true => exact h.elim
    | false =>
      simp only at h
      have ex := hs.eval x
      unfold nextX at h
      split at h
      · rename_i ib hxb
        split at h
        · rename_i itc hib
          split at h
          · rename_i c hob
            obtain ⟨hlen, hover, hgo⟩ := h
            rw [hxb] at ex
            have hxv : a.eval x = .pointer (some ⟨ib, 0, none⟩) := ex.iptr_inv
            obtain ⟨i1, i2, i3⟩ := hs.stable.i ib itc hib
            obtain ⟨es, e1, e2, e3, e4, e5, e6⟩ := hs.mapIt hib hob
            unfold IterAt at i2
            have hborn : ∀ y ∈ es, y.born < itc.n := fun y hy => by
              obtain ⟨j, hj, rfl⟩ := List.getElem_of_mem hy
              have := e4 j (by omega)
              rw [getD_lt hj] at this
              omega
            unfold Oper.wp
            have he : ∀ v w', (Instr.next (.pointer (some ⟨ib, 0, none⟩)) false ty).run P w = .ok v w' → (execOp a.eval ⟨dst, .next x false, ty, pos, after, guard⟩).run P w = .ok (.value v) w' := fun v w' hh => by
              simp [execOp, hxv, hh]
            rcases run_next_at (P := P) w ty ib itc.b itc.n itc.n ⟨itc.seen⟩ ⟨es⟩ es.length i2 e1 (by simpa using hborn) (Nat.le_refl _) with ⟨hz, hrun⟩ | ⟨e, he1, w1, hw1, hrun⟩
            · rw [he _ _ hrun]
              refine hn _ _ _ S M (hover fun i hi => ?_) (hs.put hd (.clean (.tup [.bool false] [.bool false] rfl (fun i hi => by
                match i, hi with
                | 0, _ => exact .bool _))) (by simp [PV.ids, PV.idsL])) (Ext.refl _ _ _)
              have hil : i < es.length := by omega
              refine Decidable.byContradiction fun hno => ?_
              have hmem : es[i] ∈ (leftOf ⟨es⟩ ⟨itc.seen⟩).toList := by
                unfold leftOf
                simp only [Array.toList_filter, List.mem_filter]
                have hb := e4 i (by omega)
                rw [getD_lt hil] at hb
                refine ⟨List.getElem_mem hil, ?_⟩
                rw [hb]
                simpa using hno
              have h0 : (leftOf ⟨es⟩ ⟨itc.seen⟩).toList = [] := by
                apply List.eq_nil_of_length_eq_zero
                simpa using hz
              rw [h0] at hmem
              cases hmem
            · rw [he _ _ hrun]
              unfold leftOf at he1
              simp only [Array.toList_filter, List.mem_filter] at he1
              obtain ⟨hm, hns⟩ := he1
              obtain ⟨j, hj, rfl⟩ := List.getElem_of_mem hm
              have hb := e4 j (by omega)
              have k5 := e5 j (by omega)
              have k6 := e6 j (by omega)
              rw [getD_lt hj] at hb k5 k6
              rw [hb] at hns ⊢
              have hns' : j ∉ itc.seen := by simpa using hns
              have hw1' : w1.heap = w.heap := by rcases hw1 with rfl | rfl <;> rfl
              have hw2 : ∀ k, k ≠ ib → (ChangeMaps.setBlock w1 ib (.mapIter (some itc.b) itc.n ((⟨itc.seen⟩ : Array Nat).push j) es.length)).heap[k]? = w.heap[k]? := fun k hk => by
                show (w1.heap.setIfInBounds ib _)[k]? = _
                rw [hw1', Array.getElem?_setIfInBounds_ne (Ne.symm hk)]
              have hlt : ib < w.heap.size := (Array.getElem?_eq_some_iff.1 i2).1
              have hw3 : (ChangeMaps.setBlock w1 ib (.mapIter (some itc.b) itc.n ((⟨itc.seen⟩ : Array Nat).push j) es.length)).heap[ib]? = some (.mapIter (some itc.b) itc.n ⟨itc.seen ++ [j]⟩ itc.n) := by
                show (w1.heap.setIfInBounds ib _)[ib]? = _
                rw [hw1', Array.getElem?_setIfInBounds_self_of_lt hlt]
                have : es.length = itc.n := by omega
                rw [this]
                simp
              have hnc : ∀ vs t f, w.heap[ib]? ≠ some (.cells vs t f) := fun vs t f hh => by rw [i2] at hh; cases hh
              have hSm : S.m ib = none := by
                cases hm : S.m ib with
                | none => rfl
                | some l => have := hs.stable.s.m ib l hm; rw [i2] at this; cases this
              have hsz : (ChangeMaps.setBlock w1 ib (.mapIter (some itc.b) itc.n ((⟨itc.seen⟩ : Array Nat).push j) es.length)).heap.size = w.heap.size := by
                show (w1.heap.setIfInBounds ib _).size = _
                rw [hw1']; simp
              have hst : Stab B S (ChangeMaps.setBlock w1 ib (.mapIter (some itc.b) itc.n ((⟨itc.seen⟩ : Array Nat).push j) es.length)) s.m.o (upd s.m.it ib (some ⟨itc.b, itc.n, itc.seen ++ [j], itc.c⟩)) := by
                refine ⟨stabS_special hs.stable.s hnc hSm hw2, fun k d hd => ?_, fun k y hy => ?_⟩
                · obtain ⟨g1, g2, g3⟩ := hs.stable.o k d hd
                  refine ⟨g1, g2, g3.move (SLe.refl _) (hw2 k (fun e => ?_))⟩
                  subst e
                  obtain ⟨es', f1, _⟩ := g3
                  rw [i2] at f1; cases f1
                · by_cases e : ib = k
                  · subst e
                    rw [upd_same] at hy
                    cases hy
                    exact ⟨i1, hw3, i3⟩
                  · rw [upd_ne _ _ e] at hy
                    obtain ⟨g1, g2⟩ := hs.stable.i k y hy
                    refine ⟨g1, ?_⟩
                    unfold IterAt at g2 ⊢
                    rw [hw2 k (Ne.symm e)]; exact g2
              have hs' := hs.special hnc hw2 hsz hst
              have ht : w1.os = w.os ∧ w1.tape = w.tape ∧ w1.output = w.output := by rcases hw1 with rfl | rfl <;> exact ⟨rfl, rfl, rfl⟩
              refine hn _ _ _ S M (hgo j (by omega) hns') (hs'.put hd (.clean (.tup [.bool true, _, _] [.bool true, _, _] rfl (fun i hi => by
                match i, hi with
                | 0, _ => exact .bool _
                | 1, _ => exact k5
                | 2, _ => exact k6))) (fun i hi => ?_)) ⟨SLe.refl _, fun _ _ => ⟨fun _ => rfl, rfl⟩, ⟨ht.1, ht.2.1, ht.2.2, by rw [hsz]; exact Nat.le_refl _, fun k hk => hw2 k (fun e => i1 (e ▸ hk))⟩⟩
              simp only [PV.ids, PV.idsL, List.nil_append, List.append_nil, List.mem_append] at hi
              rcases hi with hi | hi
              · exact absurd hi (k5.clean_ids i)
              · exact absurd hi (k6.clean_ids i)
          · exact h.elim
        · exact h.elim
      · exact h.elim
  | _ => exact h.elim
end
end Go.PL

namespace Go.PL
open Go.RowKit
set_option linter.unusedVariables false

/-- a guard: both ways, each under what it says -/
def vcGuard (want : Bool) (p : PV) (A B : Prop) : Prop :=
  match p with
  | .bool b => (b = want → A) ∧ (b = !want → B)
  | .tup _ => B
  | _ => False

/-- a call: some contract of the callee -/
def vcCall (P : Program) (x : Bool) (m : Hp) (c : Option (FuncId × List PV)) (K : PV → Hp → Prop) : Prop :=
  match c with
  | some (g, args) => PV.givableL m args ∧ ((∃ r, Pure P g (PV.giveL m args) r ∧ K r m) ∨ (x = true ∧ callX P g (PV.giveL m args) m K))
  | none => False

/-- an operation's outcome: its condition, and what goes on behind it -/
def vcRes (r : ARes) (K : PV → Hp → Prop) : Prop := r.ok ∧ K r.v r.m

def vcOp (P : Program) (x : Bool) (o : Oper) (s : St) (K : St → Prop) : Prop :=
  match o.op with
  | .call { callee := .value f, args, argTypes } => vcCall P x s.m (calleeOf s.eval { callee := .value f, args, argTypes }) fun r m => K ((s.with m).put o.dst r)
  | .makeMap _ none => x = true ∧ makeX s.m fun r m => K ((s.with m).put o.dst r)
  | .range t y => x = true ∧ tmapB P t = true ∧ rangeX (s.eval y) s.m fun r m => K ((s.with m).put o.dst r)
  | .next y false => x = true ∧ nextX (s.eval y) s.m fun r m => K ((s.with m).put o.dst r)
  | _ => vcRes (aop P o s.eval s.m) fun v m => K ((s.with m).put o.dst v)

def vcA (P : Program) (x : Bool) (ops : Array Oper) (K : St → Prop) : List Oper → St → Prop
  | [], s => K s
  | o :: rest, s => dstOk s.n o.dst ∧ match o.guard with
    | none => vcOp P x o s (vcA P x ops K rest)
    | some (j, want) => match (ops[j]?).bind (·.dst) with
      | none => vcA P x ops K rest (s.put o.dst (.tup []))
      | some d => d < s.n ∧ vcGuard want (s.fr d) (vcOp P x o s (vcA P x ops K rest)) (vcA P x ops K rest (s.put o.dst (.tup [])))

/-- the operations in the order of the text, those that reach into maps too -/
def lexX (P : Program) (ops : Array Oper) (K : St → Prop) : List Oper → St → Prop
  | [], s => K s
  | o :: rest, s => dstOk s.n o.dst ∧ ((gd ops s o = some true ∧ ((∃ v m', StepM P o s.eval s.m v m' ∧ lexX P ops K rest ((s.with m').put o.dst v)) ∨ spec P o s (lexX P ops K rest))) ∨ (gd ops s o = some false ∧ lexX P ops K rest (s.put o.dst (.tup []))))

/-- a branch: both ways, each under what it says -/
def vcCond (p : PV) (A B : Prop) : Prop :=
  match p with
  | .bool b => (b = true → A) ∧ (b = false → B)
  | _ => False

section
variable {P : Program} {s : St}

theorem spec_mono {o : Oper} {K K' : St → Prop} (hK : ∀ s, K s → K' s) (h : spec P o s K) : spec P o s K' := by
  obtain ⟨dst, op, ty, pos, after, guard⟩ := o
  unfold spec at h ⊢
  simp only at h ⊢
  split at h
  · rename_i c
    split at h
    · rename_i g args hc
      obtain ⟨h1, h2⟩ := h
      refine ⟨h1, ?_⟩
      rcases h2 with ⟨r, a1, a2, a3⟩ | ⟨b, c, A, r, c', a1, a2, a3, a4⟩ | ⟨r, c, a1, a2⟩ | ⟨r, a1, a2⟩ | ⟨r, n, sz, e, d, a1, a2, a3⟩
      · exact .inl ⟨r, a1, a2, hK _ a3⟩
      · exact .inr (.inl ⟨b, c, A, r, c', a1, a2, a3, hK _ a4⟩)
      · exact .inr (.inr (.inl ⟨r, c, a1, fun b hb => hK _ (a2 b hb)⟩))
      · exact .inr (.inr (.inr (.inl ⟨r, a1, hK _ a2⟩)))
      · exact .inr (.inr (.inr (.inr ⟨r, n, sz, e, d, a1, a2, hK _ a3⟩)))
    · exact h.elim
  · exact fun b hb => hK _ (h b hb)
  · rename_i t x
    obtain ⟨h1, h2⟩ := h
    refine ⟨h1, ?_⟩
    unfold rangeX at h2 ⊢
    split at h2
    · split at h2
      · exact fun ib hib => hK _ (h2 ib hib)
      · exact h2.elim
    · exact fun ib b hib => hK _ (h2 ib b hib)
    · exact h2.elim
  · rename_i x
    unfold nextX at h ⊢
    split at h
    · split at h
      · split at h
        · exact ⟨h.1, fun hh => hK _ (h.2.1 hh), fun i h1 h2 => hK _ (h.2.2 i h1 h2)⟩
        · exact h.elim
      · exact h.elim
    · exact h.elim
  · exact h.elim
theorem vcOp_step {x : Bool} {o : Oper} {K : St → Prop} (h : vcOp P x o s K) : (∃ v m', StepM P o s.eval s.m v m' ∧ K ((s.with m').put o.dst v)) ∨ (x = true ∧ spec P o s K) := by
  unfold vcOp at h
  split at h
  · rename_i f args ts heq
    unfold vcCall at h
    split at h
    · rename_i g xs hc
      obtain ⟨h1, ⟨r, h2, h3⟩ | ⟨hx, h2⟩⟩ := h
      · exact .inl ⟨r, s.m, .inr ⟨_, g, xs, heq, hc, h1, h2, rfl⟩, h3⟩
      · refine .inr ⟨hx, ?_⟩
        unfold spec
        rw [heq]
        simp only [hc]
        exact ⟨h1, h2⟩
    · exact h.elim
  · rename_i heq
    exact .inr ⟨h.1, by unfold spec; rw [heq]; exact h.2⟩
  · rename_i heq
    exact .inr ⟨h.1, by unfold spec; rw [heq]; exact h.2⟩
  · rename_i heq
    exact .inr ⟨h.1, by unfold spec; rw [heq]; exact h.2⟩
  · exact .inl ⟨_, _, .inl ⟨h.1, rfl, rfl⟩, h.2⟩

theorem vcA_lexX {x : Bool} {ops : Array Oper} {K : St → Prop} : ∀ (l : List Oper) (s : St), vcA P x ops K l s → lexX P ops K l s
  | [], s, h => h
  | o :: rest, s, h => by
    obtain ⟨hd, h⟩ := h
    refine ⟨hd, ?_⟩
    have op : ∀ {s}, vcOp P x o s (vcA P x ops K rest) → (∃ v m', StepM P o s.eval s.m v m' ∧ lexX P ops K rest ((s.with m').put o.dst v)) ∨ spec P o s (lexX P ops K rest) := fun h => by
      rcases vcOp_step h with ⟨v, m', h1, h2⟩ | ⟨_, h1⟩
      · exact .inl ⟨v, m', h1, vcA_lexX rest _ h2⟩
      · exact .inr (spec_mono (fun s' hs' => vcA_lexX rest s' hs') h1)
    unfold gd
    cases hg : o.guard with
    | none =>
      rw [hg] at h
      exact .inl ⟨rfl, op h⟩
    | some jw =>
      obtain ⟨j, want⟩ := jw
      rw [hg] at h
      simp only at h ⊢
      cases hd' : (ops[j]?).bind (·.dst) with
      | none => rw [hd'] at h; exact .inr ⟨rfl, vcA_lexX rest _ h⟩
      | some d =>
        rw [hd'] at h
        simp only at h ⊢
        obtain ⟨hlt, h⟩ := h
        rw [if_pos hlt]
        unfold vcGuard at h
        split at h
        · rename_i b hb
          rw [hb]
          by_cases hbw : b = want
          · left; subst hbw; exact ⟨by simp [gdOf], op (h.1 rfl)⟩
          · right
            refine ⟨by simp [gdOf, hbw], vcA_lexX rest _ (h.2 ?_)⟩
            cases b <;> cases want <;> simp_all
        · rename_i l hb
          rw [hb]
          exact .inr ⟨rfl, vcA_lexX rest _ h⟩
        · exact h.elim

theorem vcA_lex {ops : Array Oper} {K : St → Prop} : ∀ (l : List Oper) (s : St), vcA P false ops K l s → lexA P ops K l s
  | [], s, h => h
  | o :: rest, s, h => by
    obtain ⟨hd, h⟩ := h
    refine ⟨hd, ?_⟩
    have op : ∀ {s}, vcOp P false o s (vcA P false ops K rest) → ∃ v m', StepM P o s.eval s.m v m' ∧ lexA P ops K rest ((s.with m').put o.dst v) := fun h => by
      rcases vcOp_step h with ⟨v, m', h1, h2⟩ | ⟨h1, _⟩
      · exact ⟨v, m', h1, vcA_lex rest _ h2⟩
      · cases h1
    unfold gd
    cases hg : o.guard with
    | none =>
      rw [hg] at h
      exact .inl ⟨rfl, op h⟩
    | some jw =>
      obtain ⟨j, want⟩ := jw
      rw [hg] at h
      simp only at h ⊢
      cases hd' : (ops[j]?).bind (·.dst) with
      | none => rw [hd'] at h; exact .inr ⟨rfl, vcA_lex rest _ h⟩
      | some d =>
        rw [hd'] at h
        simp only at h ⊢
        obtain ⟨hlt, h⟩ := h
        rw [if_pos hlt]
        unfold vcGuard at h
        split at h
        · rename_i b hb
          rw [hb]
          by_cases hbw : b = want
          · left; subst hbw; exact ⟨by simp [gdOf], op (h.1 rfl)⟩
          · right
            refine ⟨by simp [gdOf, hbw], vcA_lex rest _ (h.2 ?_)⟩
            cases b <;> cases want <;> simp_all
        · rename_i l hb
          rw [hb]
          exact .inr ⟨rfl, vcA_lex rest _ h⟩
        · exact h.elim

theorem lexX_sound {B : Frm} {ops : Array Oper} {K : St → Prop} {Qc : Exit → Act → World → Prop} {S0 : Stable} {w0 : World} (hQ : ∀ s' S' M' a' w', K s' → Sim B S' M' s' a' w' → Ext B S0 S' w0 w' → Qc .normal a' w') :
    ∀ (l : List Oper) (k : Nat) (s : St), (∀ j, l[j]? = ops[k + j]?) → lexX P ops K l s → ∀ S M a w, Sim B S M s a w → Ext B S0 S w0 w → wpOps P ops Qc (List.range' k l.length) a w
  | [], k, s, _, h, S, M, a, w, hs, he => hQ s S M a w h hs he
  | o :: rest, k, s, hl, h, S, M, a, w, hs, he => by
    have h0 : ops[k]? = some o := by simpa using (hl 0).symm
    have hl' : ∀ j, rest[j]? = ops[(k + 1) + j]? := fun j => by have := hl (j + 1); simpa [Nat.add_assoc, Nat.add_comm 1 j] using this
    obtain ⟨hd, h⟩ := h
    simp only [List.length_cons, List.range'_succ, wpOps, h0]
    rcases h with ⟨hg, ⟨v, m', hst, hrest⟩ | hsp⟩ | ⟨hg, hrest⟩
    · rw [gd_ok hs hg, if_pos rfl]
      exact .inl (step_sound hs (dstOk_spec hd) hst _ _ fun u w' S' M' hs' he' => lexX_sound hQ rest (k + 1) _ hl' hrest S' M' _ w' hs' (he.trans he'))
    · rw [gd_ok hs hg, if_pos rfl]
      exact .inl (spec_sound hs (dstOk_spec hd) hsp _ _ fun s' u w' S' M' hk hs' he' => lexX_sound hQ rest (k + 1) s' hl' hk S' M' _ w' hs' (he.trans he'))
    · rw [gd_ok hs hg, if_neg (by simp)]
      exact lexX_sound hQ rest (k + 1) _ hl' hrest S M _ w (skip_sim hs hd) he
theorem awp_regionX {id : Nat} {ops : Array Oper} {Q : Exit → St → Prop} (h : lexX P ops (Q .normal) ops.toList s) : awp P (.region id ops false) Q s := fun B S M a w hs => by
  refine wp_region ?_
  have := lexX_sound (B := B) (S0 := S) (w0 := w) (Qc := fun e a' w' => ∃ s' S' M', Q e s' ∧ Sim B S' M' s' a' w' ∧ Ext B S S' w w') (fun s' S' M' a' w' h1 h2 h3 => ⟨s', S', M', h1, h2, h3⟩) ops.toList 0 s (by simp) h S M a w hs (Ext.refl _ _ _)
  rw [← List.range_eq_range'] at this
  simpa using this

/-- the conditions of a piece of code: what must be shown; loops, regions that draw and what has no rule here stand as they are -/
def vc (P : Program) : Code → (Exit → St → Prop) → St → Prop
  | .skip, Q, s => Q .normal s
  | .label _, Q, s => Q .normal s
  | .ret, Q, s => Q .ret s
  | .exit id, Q, s => Q (.exit id) s
  | .goto l, Q, s => Q (.goto l) s
  | .seq (.label l) y, Q, s => awp P (.seq (.label l) y) Q s
  | .seq x y, Q, s => vc P x (thenQ (vc P y Q) Q) s
  | .cond c x y, Q, s => vcCond (s.eval c) (vc P x Q s) (vc P y Q s)
  | .block id c, Q, s => vc P c (blockQ id Q) s
  | .region _ ops false, Q, s => vcA P true ops (Q .normal) ops.toList s
  | c, Q, s => awp P c Q s

theorem awp_seq_vc {x y : Code} {Q : Exit → St → Prop} {s : St} (hx : ∀ Q s, vc P x Q s → awp P x Q s) (hy : ∀ Q s, vc P y Q s → awp P y Q s) (h : vc P x (thenQ (vc P y Q) Q) s) : awp P (.seq x y) Q s :=
  awp_seq (awp_mono (fun e s' h' => by
      cases e with
      | normal => exact hy Q s' h'
      | _ => exact h') (hx _ s h))
theorem vc_sound : ∀ (c : Code) (Q : Exit → St → Prop) (s : St), vc P c Q s → awp P c Q s
  | .skip, Q, s, h => awp_skip h
  | .label _, Q, s, h => awp_label h
  | .ret, Q, s, h => awp_ret h
  | .exit id, Q, s, h => awp_exit h
  | .goto l, Q, s, h => awp_goto h
  | .seq x y, Q, s, h => by
    cases x with
    | label l => exact h
    | _ => exact awp_seq_vc (vc_sound _) (vc_sound y) h
  | .cond c x y, Q, s, h => by
    unfold vc vcCond at h
    split at h
    · rename_i b hb
      refine awp_cond hb ?_
      cases b
      · exact vc_sound y Q s (h.2 rfl)
      · exact vc_sound x Q s (h.1 rfl)
    · exact h.elim
  | .block id c, Q, s, h => awp_block (vc_sound c _ s h)
  | .region _ ops false, Q, s, h => awp_regionX (vcA_lexX _ _ h)
  | .region _ ops true, Q, s, h => h
  | .loop c, Q, s, h => h
  | .rangeFunc .., Q, s, h => h
  | .scope c, Q, s, h => h
  | .refuse _, Q, s, h => h

end

/-! ### The same, with all that is yet to come out of simp's reach (it does not look into instances) -/
class KS where
  k : St → Prop
class LST where
  l : List Oper
class COD where
  c : Code
class QS where
  q : Exit → St → Prop
class PR where
  p : Prop
class KR where
  k : PV → Hp → Prop
class KV where
  k : PV → Prop
class KH where
  m : Hp

def vRes (r : ARes) [K : KR] : Prop := vcRes r K.k
def vGuard (want : Bool) (p : PV) [A : PR] [B : PR] : Prop := vcGuard want p A.p B.p
def vCond (p : PV) [A : PR] [B : PR] : Prop := vcCond p A.p B.p
def vCall (P : Program) (x : Bool) [M : KH] (c : Option (FuncId × List PV)) [K : KR] : Prop := vcCall P x M.m c K.k
def vA (P : Program) (x : Bool) [K : KS] [G : LST] [L : LST] (s : St) : Prop := vcA P x G.l.toArray K.k L.l s
def vOne (P : Program) (x : Bool) [K : KS] [G : LST] [L : LST] (o : Oper) (s : St) : Prop := vcA P x G.l.toArray K.k (o :: L.l) s
def vOp (P : Program) (x : Bool) [K : KS] (o : Oper) (s : St) : Prop := vcOp P x o s K.k
def gSlot [G : LST] (j : Nat) : Option Nat := (G.l[j]?).bind (·.dst)
def vC (P : Program) [C : COD] [Q : QS] (s : St) : Prop := vc P C.c Q.q s
def vQ [Q : QS] (e : Exit) (s : St) : Prop := Q.q e s

section
variable {P : Program} {x : Bool}
theorem vRes_mk (ok : Prop) (v : PV) (m : Hp) (K : KR) : @vRes ⟨ok, v, m⟩ K = (ok ∧ K.k v m) := rfl
theorem vGuard_tt (A B : PR) : @vGuard true (.bool true) A B = A.p := by simp [vGuard, vcGuard]
theorem vGuard_tf (A B : PR) : @vGuard true (.bool false) A B = B.p := by simp [vGuard, vcGuard]
theorem vGuard_ft (A B : PR) : @vGuard false (.bool true) A B = B.p := by simp [vGuard, vcGuard]
theorem vGuard_ff (A B : PR) : @vGuard false (.bool false) A B = A.p := by simp [vGuard, vcGuard]
theorem vGuard_tup (w : Bool) (l : List PV) (A B : PR) : @vGuard w (.tup l) A B = B.p := rfl
theorem vCond_t (A B : PR) : @vCond (.bool true) A B = A.p := by simp [vCond, vcCond]
theorem vCond_f (A B : PR) : @vCond (.bool false) A B = B.p := by simp [vCond, vcCond]
theorem gSlot_zero (o : Oper) (l : List Oper) : @gSlot ⟨o :: l⟩ 0 = o.dst := rfl
theorem gSlot_succ (o : Oper) (l : List Oper) (j : Nat) : @gSlot ⟨o :: l⟩ (j + 1) = @gSlot ⟨l⟩ j := by simp [gSlot]
theorem vA_nil (K : KS) (G : LST) (s : St) : @vA P x K G ⟨[]⟩ s = K.k s := rfl
theorem vA_cons (K : KS) (G : LST) (o : Oper) (l : List Oper) (s : St) : @vA P x K G ⟨o :: l⟩ s = @vOne P x K G ⟨l⟩ o s := rfl
theorem vOne_plain (K : KS) (G L : LST) (d : Option Tmp) (op : Op) (ty : TypeId) (pos : String) (af : Array Edge) (s : St) :
    @vOne P x K G L ⟨d, op, ty, pos, af, none⟩ s = (dstOk s.n d ∧ @vOp P x ⟨@vA P x K G L⟩ ⟨d, op, ty, "", #[], none⟩ s) := by
  have h : vcOp P x ⟨d, op, ty, pos, af, none⟩ s = vcOp P x ⟨d, op, ty, "", #[], none⟩ s := by
    funext K; cases op <;> rfl
  show (dstOk s.n d ∧ vcOp P x ⟨d, op, ty, pos, af, none⟩ s (vcA P x G.l.toArray K.k L.l)) = _
  rw [h]; rfl
theorem vOne_guard (K : KS) (G L : LST) (d : Option Tmp) (op : Op) (ty : TypeId) (pos : String) (af : Array Edge) (j : Nat) (want : Bool) (s : St) (d' : Nat) (h : @gSlot G j = some d') :
    @vOne P x K G L ⟨d, op, ty, pos, af, some (j, want)⟩ s = (dstOk s.n d ∧ d' < s.n ∧ @vGuard want (s.fr d') ⟨@vOp P x ⟨@vA P x K G L⟩ ⟨d, op, ty, "", #[], none⟩ s⟩ ⟨@vA P x K G L (s.put d (.tup []))⟩) := by
  have h' : (G.l.toArray[j]?).bind (·.dst) = some d' := by simpa [gSlot] using h
  have e : vcOp P x ⟨d, op, ty, pos, af, some (j, want)⟩ s = vcOp P x ⟨d, op, ty, "", #[], none⟩ s := by
    funext K; cases op <;> rfl
  show (dstOk s.n d ∧ (match (G.l.toArray[j]?).bind (·.dst) with
      | none => vcA P x G.l.toArray K.k L.l (s.put d (.tup []))
      | some d => d < s.n ∧ vcGuard want (s.fr d) (vcOp P x ⟨_, op, ty, pos, af, some (j, want)⟩ s (vcA P x G.l.toArray K.k L.l)) (vcA P x G.l.toArray K.k L.l (s.put _ (.tup []))))) = _
  rw [h', e]; rfl

theorem vOp_call (K : KS) (d : Option Tmp) (f : Operand) (args : Array Operand) (ts : Array TypeId) (ty : TypeId) (s : St) :
    @vOp P x K ⟨d, .call ⟨.value f, args, ts⟩, ty, "", #[], none⟩ s = @vCall P x ⟨s.m⟩ (calleeOf s.eval ⟨.value f, args, ts⟩) ⟨fun r m => K.k ((s.with m).put d r)⟩ := rfl

theorem vC_skip (Q : QS) (s : St) : @vC P ⟨.skip⟩ Q s = @vQ Q .normal s := rfl
theorem vC_label (l : Nat) (Q : QS) (s : St) : @vC P ⟨.label l⟩ Q s = @vQ Q .normal s := rfl
theorem vC_ret (Q : QS) (s : St) : @vC P ⟨.ret⟩ Q s = @vQ Q .ret s := rfl
theorem vC_exit (id : Nat) (Q : QS) (s : St) : @vC P ⟨.exit id⟩ Q s = @vQ Q (.exit id) s := rfl
theorem vC_goto (l : Nat) (Q : QS) (s : St) : @vC P ⟨.goto l⟩ Q s = @vQ Q (.goto l) s := rfl
theorem vC_seq_skip (y : Code) (Q : QS) (s : St) : @vC P ⟨.seq (.skip) y⟩ Q s = @vC P ⟨.skip⟩ ⟨thenQ (@vC P ⟨y⟩ Q) Q.q⟩ s := rfl
theorem vC_seq_ret (y : Code) (Q : QS) (s : St) : @vC P ⟨.seq (.ret) y⟩ Q s = @vC P ⟨.ret⟩ ⟨thenQ (@vC P ⟨y⟩ Q) Q.q⟩ s := rfl
theorem vC_seq_exit (id : Nat) (y : Code) (Q : QS) (s : St) : @vC P ⟨.seq (.exit id) y⟩ Q s = @vC P ⟨.exit id⟩ ⟨thenQ (@vC P ⟨y⟩ Q) Q.q⟩ s := rfl
theorem vC_seq_goto (l : Nat) (y : Code) (Q : QS) (s : St) : @vC P ⟨.seq (.goto l) y⟩ Q s = @vC P ⟨.goto l⟩ ⟨thenQ (@vC P ⟨y⟩ Q) Q.q⟩ s := rfl
theorem vC_seq_seq (a b : Code) (y : Code) (Q : QS) (s : St) : @vC P ⟨.seq (.seq a b) y⟩ Q s = @vC P ⟨.seq a b⟩ ⟨thenQ (@vC P ⟨y⟩ Q) Q.q⟩ s := rfl
theorem vC_seq_cond (c : Operand) (a b : Code) (y : Code) (Q : QS) (s : St) : @vC P ⟨.seq (.cond c a b) y⟩ Q s = @vC P ⟨.cond c a b⟩ ⟨thenQ (@vC P ⟨y⟩ Q) Q.q⟩ s := rfl
theorem vC_seq_block (id : Nat) (c : Code) (y : Code) (Q : QS) (s : St) : @vC P ⟨.seq (.block id c) y⟩ Q s = @vC P ⟨.block id c⟩ ⟨thenQ (@vC P ⟨y⟩ Q) Q.q⟩ s := rfl
theorem vC_seq_region (id : Nat) (l : Array Oper) (d : Bool) (y : Code) (Q : QS) (s : St) : @vC P ⟨.seq (.region id l d) y⟩ Q s = @vC P ⟨.region id l d⟩ ⟨thenQ (@vC P ⟨y⟩ Q) Q.q⟩ s := rfl
theorem vC_seq_loop (c : Code) (y : Code) (Q : QS) (s : St) : @vC P ⟨.seq (.loop c) y⟩ Q s = @vC P ⟨.loop c⟩ ⟨thenQ (@vC P ⟨y⟩ Q) Q.q⟩ s := rfl
theorem vC_seq_scope (c : Code) (y : Code) (Q : QS) (s : St) : @vC P ⟨.seq (.scope c) y⟩ Q s = @vC P ⟨.scope c⟩ ⟨thenQ (@vC P ⟨y⟩ Q) Q.q⟩ s := rfl
theorem vC_seq_label (l : Nat) (y : Code) (Q : QS) (s : St) : @vC P ⟨.seq (.label l) y⟩ Q s = awp P (.seq (.label l) y) Q.q s := rfl
theorem vC_cond (c : Operand) (x y : Code) (Q : QS) (s : St) : @vC P ⟨.cond c x y⟩ Q s = @vCond (s.eval c) ⟨@vC P ⟨x⟩ Q s⟩ ⟨@vC P ⟨y⟩ Q s⟩ := rfl
theorem vC_block (id : Nat) (c : Code) (Q : QS) (s : St) : @vC P ⟨.block id c⟩ Q s = @vC P ⟨c⟩ ⟨blockQ id Q.q⟩ s := rfl
theorem vC_region (id : Nat) (l : List Oper) (Q : QS) (s : St) : @vC P ⟨.region id l.toArray false⟩ Q s = @vA P true ⟨@vQ Q .normal⟩ ⟨l⟩ ⟨l⟩ s := rfl
theorem vC_scope (c : Code) (Q : QS) (s : St) : @vC P ⟨.scope c⟩ Q s = awp P (.scope c) Q.q s := rfl
theorem vC_loop (c : Code) (Q : QS) (s : St) : @vC P ⟨.loop c⟩ Q s = awp P (.loop c) Q.q s := rfl
theorem vC_draw (id : Nat) (l : Array Oper) (Q : QS) (s : St) : @vC P ⟨.region id l true⟩ Q s = awp P (.region id l true) Q.q s := rfl

theorem vQ_then_normal (K : St → Prop) (Q : Exit → St → Prop) (s : St) : @vQ ⟨thenQ K Q⟩ .normal s = K s := rfl
theorem vQ_then_ret (K : St → Prop) (Q : Exit → St → Prop) (s : St) : @vQ ⟨thenQ K Q⟩ .ret s = @vQ ⟨Q⟩ .ret s := rfl
theorem vQ_then_exit (K : St → Prop) (Q : Exit → St → Prop) (id : Nat) (s : St) : @vQ ⟨thenQ K Q⟩ (.exit id) s = @vQ ⟨Q⟩ (.exit id) s := rfl
theorem vQ_then_goto (K : St → Prop) (Q : Exit → St → Prop) (id : Nat) (s : St) : @vQ ⟨thenQ K Q⟩ (.goto id) s = @vQ ⟨Q⟩ (.goto id) s := rfl
theorem vQ_block_normal (id : Nat) (Q : Exit → St → Prop) (s : St) : @vQ ⟨blockQ id Q⟩ .normal s = @vQ ⟨Q⟩ .normal s := rfl
theorem vQ_block_ret (id : Nat) (Q : Exit → St → Prop) (s : St) : @vQ ⟨blockQ id Q⟩ .ret s = @vQ ⟨Q⟩ .ret s := rfl
theorem vQ_block_goto (id l : Nat) (Q : Exit → St → Prop) (s : St) : @vQ ⟨blockQ id Q⟩ (.goto l) s = @vQ ⟨Q⟩ (.goto l) s := rfl
theorem vQ_block_exit (id j : Nat) (Q : Exit → St → Prop) (s : St) : @vQ ⟨blockQ id Q⟩ (.exit j) s = (if j = id then @vQ ⟨Q⟩ .normal s else @vQ ⟨Q⟩ (.exit j) s) := rfl
theorem vGuard_t {b : Bool} {A B : PR} (h1 : b = true → A.p) (h2 : b = false → B.p) : @vGuard true (.bool b) A B := ⟨h1, h2⟩
theorem vGuard_f {b : Bool} {A B : PR} (h1 : b = true → B.p) (h2 : b = false → A.p) : @vGuard false (.bool b) A B := ⟨h2, h1⟩
theorem vCond_b {b : Bool} {A B : PR} (h1 : b = true → A.p) (h2 : b = false → B.p) : @vCond (.bool b) A B := ⟨h1, h2⟩
theorem vCall_of {M : KH} {g : FuncId} {args args' : List PV} {K : KR} {r : PV} (h1 : Pure P g args' r) (h0 : PV.givableL M.m args) (he : PV.giveL M.m args = args') (h2 : K.k r M.m) : @vCall P x M (some (g, args)) K :=
  ⟨h0, .inl ⟨r, by rw [he]; exact h1, h2⟩⟩
/-- a call that looks into maps that are written still -/
theorem vCall_sl {M : KH} {g : FuncId} {args args' : List PV} {K : KR} {r : PV} (h1 : Pure P g args' r) (hn : r.nomap = true) (h0 : PV.givableL M.m args) (he : PV.sealL M.m.o (PV.giveL M.m args) = args') (h2 : K.k r M.m) : @vCall P true M (some (g, args)) K :=
  ⟨h0, .inr ⟨rfl, .inl ⟨r, by rw [he]; exact h1, hn, h2⟩⟩⟩
/-- a call that writes a map -/
theorem vCall_wr {M : KH} {g : FuncId} {args : List PV} {K : KR} {A : Nat → List PV} {c c' : MapC} {r : PV} (b : Nat) (h1 : Wr P g A c r c') (h0 : PV.givableL M.m args) (he : PV.giveL M.m args = A b) (hc : M.m.o b = some c) (h2 : K.k r { M.m with o := upd M.m.o b (some c') }) : @vCall P true M (some (g, args)) K :=
  ⟨h0, .inr ⟨rfl, .inr (.inl ⟨b, c, A, r, c', hc, he, h1, h2⟩)⟩⟩
/-- a call that makes a map -/
theorem vCall_mk {M : KH} {g : FuncId} {args args' : List PV} {K : KR} {c : MapC} {r : Nat → PV} (h1 : Mk P g args' r c) (h0 : PV.givableL M.m args) (he : PV.giveL M.m args = args') (h2 : ∀ b, M.m.o b = none → K.k (r b) { M.m with o := upd M.m.o b (some c) }) : @vCall P true M (some (g, args)) K :=
  ⟨h0, .inr ⟨rfl, .inr (.inr (.inl ⟨r, c, by rw [he]; exact h1, h2⟩))⟩⟩
/-- what is handed back, result by result -/
def vRet (P : Program) (r : PV) (s : St) : List PV → List ResultVar → Prop
  | acc, [] => (pack acc.reverse).givable s.m ∧ r = (pack acc.reverse).give s.m
  | acc, .tmp t :: rs => vRet P r s (s.fr t :: acc) rs
  | acc, .cell t ty :: rs => tkn P ty = true ∧ (aLoad P ty (s.fr t) s.m).ok ∧ vRet P r s ((aLoad P ty (s.fr t) s.m).v :: acc) rs

theorem vRet_retP {fn : Func} {r : PV} {s : St} : ∀ (rs : List ResultVar) (acc : List PV), vRet P r s acc rs →
    allOk (rs.map (resV P s)) ∧ (pack (acc.reverse ++ rs.map fun x => (resV P s x).v)).givable s.m ∧ r = (pack (acc.reverse ++ rs.map fun x => (resV P s x).v)).give s.m
  | [], acc, h => by simpa [vRet, allOk] using h
  | .tmp t :: rs, acc, h => by
    obtain ⟨h1, h2, h3⟩ := vRet_retP (fn := fn) rs _ h
    refine ⟨⟨trivial, h1⟩, ?_, ?_⟩
    · simpa [resV] using h2
    · simpa [resV] using h3
  | .cell t ty :: rs, acc, h => by
    obtain ⟨h0, h0', h⟩ := h
    obtain ⟨h1, h2, h3⟩ := vRet_retP (fn := fn) rs _ h
    refine ⟨⟨?_, h1⟩, ?_, ?_⟩
    · simpa [resV, h0] using h0'
    · simpa [resV, h0] using h2
    · simpa [resV, h0] using h3

def vRetQ (P : Program) (rs : List ResultVar) (r : PV) : Exit → St → Prop
  | .normal, s => vRet P r s [] rs
  | .ret, s => vRet P r s [] rs
  | _, _ => False
theorem vQ_vret_ret (rs : List ResultVar) (r : PV) (s : St) : @vQ ⟨vRetQ P rs r⟩ .ret s = vRet P r s [] rs := rfl
theorem vQ_vret_normal (rs : List ResultVar) (r : PV) (s : St) : @vQ ⟨vRetQ P rs r⟩ .normal s = vRet P r s [] rs := rfl

theorem Pure.of_v {f : FuncId} {fn : Func} {c : Code} {args : List PV} {r : PV} {n : Nat} {rs : List ResultVar} (hf : P.funcs[f]? = some fn) (hname : fn.name ≠ "runtime.NumGoroutine") (hb : fn.body = some c) (hn : fn.ntmps = n) (hrs : fn.results = rs.toArray) (hl : args.length ≤ n) (hi : r.dids = [])
    (h : @vC P ⟨c⟩ ⟨vRetQ P rs r⟩ (St.init args n)) : Pure P f args r := by
  subst hn
  refine Pure.intro hf hname hb hl hi (awp_mono (fun e s hq => ?_) (vc_sound _ _ _ h))
  have key : vRet P r s [] rs → retP P fn r s := fun hv => by
    unfold retP
    rw [hrs]
    simpa using vRet_retP (fn := fn) rs [] hv
  cases e with
  | normal => exact key hq
  | ret => exact key hq
  | _ => exact hq
end
end Go.PL

namespace Go.PL
attribute [go_sem] vC_seq_skip vC_seq_ret vC_seq_exit vC_seq_goto vC_seq_seq vC_seq_cond vC_seq_block vC_seq_region vC_seq_loop vC_seq_scope vC_seq_label vC_scope vC_region vC_ret vC_cond vC_block vC_skip vC_label vC_exit vC_goto vC_loop vC_draw vA_cons vA_nil vOne_plain vOne_guard gSlot_zero gSlot_succ vQ_then_normal vQ_then_ret vQ_then_exit vQ_then_goto
  vQ_block_normal vQ_block_ret vQ_block_goto vQ_block_exit vQ_vret_ret vQ_vret_normal vGuard_tt vGuard_tf vGuard_ft vGuard_ff vGuard_tup vCond_t vCond_f vRes_mk
attribute [go_sem] vOp vcOp vcRes dstOk aop St.eval St.init initFr St.put St.with aField aFieldAddr aIndex aIndexAddr aLoad aStore splice Hp.new Hp.empty Hp.setq Hp.freeze PV.cells aBin aInt aFlt aStr aEql aEq ofVal ofAtom partPV PV.known PV.atom
  aPick aNilCheck aCpx aReal aImag aUn aConv aExtract aLen aMax aMin aBuild fillPV aBuildSlice partsOk aSlice loOf hiOf aMakeRow aMakeFull aBuiltin aAppend appended calleeOf PV.give PV.giveL PV.givable PV.givableL PV.share PV.shareL PV.clean PV.cleanL
  vRet pack frozenBy capsOk PV.ids PV.idsL eqLeaf eqLeaves ptrNil slNil mapNil ARes.fail aLookup aMapUpdate aEntry aMapLen isMapPV mapOf mapIt lookV makeX rangeX nextX PV.shut PV.sealL
attribute [go_sem ↓ high] vOp_call
attribute [go_sem] List.append_nil List.nil_append List.cons_append
@[go_sem] theorem upd_lit {α : Type} (f : Nat → α) (i j : Nat) (v : α) : upd f i v j = if i = j then v else f j := rfl
end Go.PL

namespace Go.PL
open Go.RowKit
set_option linter.unusedVariables false

/-- which parts of the call's own memory an operation reads and writes; whether it makes a block, a row of its own -/
structure Fp where
  rh : Bool := false
  rz : Bool := false
  rq : Bool := false
  wh : Bool := false
  wz : Bool := false
  wq : Bool := false
  nb : Bool := false
  nq : Bool := false
  ro : Bool := false
  wo : Bool := false

def fp : Op → Fp
  | .load _ _ => { rh := true }
  | .convert _ _ _ => { rh := true }
  | .store _ _ _ => { rh := true, rz := true, wh := true }
  | .alloc _ => { nb := true }
  | .box _ _ => { nb := true }
  | .makeSlice _ l _ => match l with | .const (.int _ 0) => { nq := true } | _ => { nb := true }
  | .buildSlice _ _ _ => { nq := true }
  | .makeFunc _ _ caps => if caps.isEmpty then {} else { rh := true, wz := true }
  | .lookup _ _ _ _ => { ro := true }
  | .mapUpdate _ _ _ _ => { ro := true, wo := true }
  | .entry _ => { ro := true }
  | .call { callee := .builtin b, .. } => match b with | .append => { rq := true, wq := true } | .len => { ro := true } | _ => {}
  | .call _ => { rh := true, rz := true }
  | _ => {}

/-- what the operands lean on -/
def refsOf (o : Oper) (ρ : Operand → PV) : List Ref := o.op.operands.toList.flatMap fun x => (ρ x).ids

def Wh (o : Oper) (ρ : Operand → PV) (i : Nat) : Prop := ((fp o.op).wh = true ∧ .b i ∈ refsOf o ρ) ∨ ((fp o.op).nb = true ∧ o.dst = some i)
def Wz (o : Oper) (ρ : Operand → PV) (i : Nat) : Prop := ((fp o.op).wz = true ∧ .b i ∈ refsOf o ρ) ∨ ((fp o.op).nb = true ∧ o.dst = some i)
def Wq (o : Oper) (ρ : Operand → PV) (i : Nat) : Prop := ((fp o.op).wq = true ∧ (.r i ∈ refsOf o ρ ∨ o.dst = some i)) ∨ ((fp o.op).nq = true ∧ o.dst = some i)

/-- what the operation does to the memory, and that it does the same wherever what it looks at is the same -/
structure Foot (P : Program) (o : Oper) (ρ : Operand → PV) (m : Hp) (v : PV) (m' : Hp) : Prop where
  h1 : ∀ i, ¬ Wh o ρ i → m'.h i = m.h i
  z1 : ∀ i, ¬ Wz o ρ i → m'.z i = m.z i
  q1 : ∀ i, ¬ Wq o ρ i → m'.q i = m.q i
  hn : (fp o.op).nb = true → ∀ i, o.dst = some i → m.h i = none
  qn : (fp o.op).nq = true → ∀ i, o.dst = some i → m.q i = none
  hl : ∀ i, m.h i ≠ none → m'.h i ≠ none
  ql : ∀ i, m.q i ≠ none → m'.q i ≠ none
  o1 : (fp o.op).wo = false → m'.o = m.o
  i1 : m'.it = m.it
  re : ∀ m2 : Hp, ((fp o.op).rh = true → ∀ i, .b i ∈ refsOf o ρ → m2.h i = m.h i) → ((fp o.op).rz = true → ∀ i, .b i ∈ refsOf o ρ → m2.z i = m.z i) →
    ((fp o.op).rq = true → ∀ i, (.r i ∈ refsOf o ρ ∨ o.dst = some i) → m2.q i = m.q i) → ((fp o.op).nb = true → ∀ i, o.dst = some i → m2.h i = none) → ((fp o.op).nq = true → ∀ i, o.dst = some i → m2.q i = none) →
    ((fp o.op).ro = true → m2.o = m.o) → m2.it = m.it →
    ∃ m2', StepM P o ρ m2 v m2' ∧ (∀ i, (Wh o ρ i → m2'.h i = m'.h i) ∧ (¬ Wh o ρ i → m2'.h i = m2.h i)) ∧ (∀ i, (Wz o ρ i → m2'.z i = m'.z i) ∧ (¬ Wz o ρ i → m2'.z i = m2.z i)) ∧
      (∀ i, (Wq o ρ i → m2'.q i = m'.q i) ∧ (¬ Wq o ρ i → m2'.q i = m2.q i)) ∧ (((fp o.op).wo = true → m2'.o = m'.o) ∧ ((fp o.op).wo = false → m2'.o = m2.o)) ∧ m2'.it = m2.it

/-- the operation looks at no memory of the call's own -/
def NoMem (f : Hp → ARes) : Prop := ∀ m m2, (f m).ok → (f m).m = m ∧ (f m2).ok ∧ (f m2).v = (f m).v ∧ (f m2).m = m2

section
variable {P : Program}

theorem noMem_const {ok : Prop} {v : PV} : NoMem fun m => ⟨ok, v, m⟩ := fun m m2 h => ⟨rfl, h, rfl, rfl⟩
theorem noMem_fail : NoMem fun _ => ARes.fail := fun m m2 h => h.elim

theorem noMem_pick {c x y : PV} : NoMem (aPick c x y) := fun m m2 h => by
  revert h; unfold aPick; split
  · exact noMem_const m m2
  · exact noMem_const m m2
  · exact noMem_fail m m2
theorem noMem_field {t : TypeId} {x : PV} {f : Nat} : NoMem (aField P t x f) := fun m m2 h => by
  revert h; unfold aField; split
  · exact noMem_const m m2
  · exact noMem_fail m m2
theorem noMem_fieldAddr {t : TypeId} {x : PV} {f : Nat} : NoMem (aFieldAddr P t x f) := fun m m2 h => by
  revert h; unfold aFieldAddr; split <;> first | exact noMem_const m m2 | exact noMem_fail m m2
theorem noMem_index {t : TypeId} {x y : PV} : NoMem (aIndex P t x y) := fun m m2 h => by
  revert h; unfold aIndex; split <;> first | exact noMem_const m m2 | exact noMem_fail m m2
theorem noMem_indexAddr {t : TypeId} {x y : PV} : NoMem (aIndexAddr P t x y) := fun m m2 h => by
  revert h; unfold aIndexAddr; split <;> first | exact noMem_const m m2 | exact noMem_fail m m2
theorem noMem_int {op : BinOp} {k k' : IntKind} {x y : Int} : NoMem (aInt op k k' x y) := fun m m2 h => by
  revert h; unfold aInt; split <;> first | exact noMem_const m m2 | exact noMem_fail m m2
theorem noMem_str {op : BinOp} {x y : List UInt8} : NoMem (aStr op x y) := fun m m2 h => by
  revert h; unfold aStr; split <;> first | exact noMem_const m m2 | exact noMem_fail m m2
theorem noMem_flt {op : BinOp} {k k' : FloatKind} {x y : Nat} : NoMem (aFlt op k k' x y) := fun m m2 h => by
  revert h; unfold aFlt; split <;> first | exact noMem_const m m2 | exact noMem_fail m m2
theorem noMem_eq {b : Bool} {r : Option Bool} : NoMem (aEq b r) := fun m m2 h => by
  revert h; unfold aEq; split <;> first | exact noMem_const m m2 | exact noMem_fail m m2
theorem noMem_eql {b : Bool} {t : TypeId} {x y : PV} : NoMem (aEql P b t x y) := fun m m2 h => by
  revert h; unfold aEql
  split
  · split <;> first | exact noMem_eq m m2 | exact noMem_fail m m2
  · split <;> first | exact noMem_eq m m2 | exact noMem_fail m m2
  · split <;> first | exact noMem_eq m m2 | exact noMem_fail m m2
theorem noMem_bin {op : BinOp} {t : TypeId} {x y : PV} : NoMem (aBin P op t x y) := fun m m2 h => by
  revert h; unfold aBin
  split
  · exact noMem_int m m2
  · exact noMem_str m m2
  · exact noMem_flt m m2
  · split <;> first | exact noMem_eql m m2 | exact noMem_fail m m2
theorem noMem_un {op : UnOp} {x : PV} : NoMem (aUn op x) := fun m m2 h => by
  revert h; unfold aUn; split <;> first | exact noMem_const m m2 | exact noMem_fail m m2
theorem noMem_cpx {x y : PV} : NoMem (aCpx x y) := fun m m2 h => by
  revert h; unfold aCpx; split <;> first | exact noMem_const m m2 | exact noMem_fail m m2
theorem noMem_real {x : PV} : NoMem (aReal x) := fun m m2 h => by
  revert h; unfold aReal; split <;> first | exact noMem_const m m2 | exact noMem_fail m m2
theorem noMem_imag {x : PV} : NoMem (aImag x) := fun m m2 h => by
  revert h; unfold aImag; split <;> first | exact noMem_const m m2 | exact noMem_fail m m2
theorem conv_m {a b : TypeId} {x : PV} {m : Hp} (h : (aConv P a b x m).ok) : (aConv P a b x m).m = m := by
  revert h
  unfold aConv
  split
  · exact fun _ => rfl
  · exact fun _ => rfl
  · split
    · exact fun _ => rfl
    · exact fun h => h.elim
  · exact fun _ => rfl
  · split
    · exact fun _ => rfl
    · exact fun h => h.elim
  · split
    · split
      · exact fun _ => rfl
      · exact fun h => h.elim
    · exact fun h => h.elim
  · exact fun h => h.elim
theorem conv_congr {a b : TypeId} {x : PV} {m m2 : Hp} (hm : ∀ i, .b i ∈ x.ids → m2.h i = m.h i) (h : (aConv P a b x m).ok) : (aConv P a b x m2).ok ∧ (aConv P a b x m2).v = (aConv P a b x m).v ∧ (aConv P a b x m2).m = m2 := by
  revert h
  unfold aConv
  split
  · exact fun _ => ⟨trivial, rfl, rfl⟩
  · exact fun _ => ⟨trivial, rfl, rfl⟩
  · split
    · exact fun h => ⟨h, rfl, rfl⟩
    · exact fun h => h.elim
  · exact fun _ => ⟨trivial, rfl, rfl⟩
  · split
    · exact fun _ => ⟨trivial, rfl, rfl⟩
    · exact fun h => h.elim
  · rename_i id off len sz _
    have e := hm id (by simp [PV.ids])
    simp only [e]
    split
    · split
      · exact fun h => ⟨h, rfl, rfl⟩
      · exact fun h => h.elim
    · exact fun h => h.elim
  · exact fun h => h.elim
theorem noMem_extract {x : PV} {i : Nat} : NoMem (aExtract x i) := fun m m2 h => by
  revert h; unfold aExtract; split <;> first | exact noMem_const m m2 | exact noMem_fail m m2
theorem noMem_nilCheck {x : PV} : NoMem (aNilCheck x) := fun m m2 h => by
  revert h; unfold aNilCheck; split <;> first | exact noMem_const m m2 | exact noMem_fail m m2
theorem noMem_len {t : TypeId} {x : PV} : NoMem (aLen P t x) := fun m m2 h => by
  revert h; unfold aLen; split <;> first | exact noMem_const m m2 | exact noMem_fail m m2
theorem noMem_max {x y : PV} : NoMem (aMax x y) := fun m m2 h => by
  revert h; unfold aMax; split <;> first | exact noMem_const m m2 | exact noMem_fail m m2
theorem noMem_min {x y : PV} : NoMem (aMin x y) := fun m m2 h => by
  revert h; unfold aMin; split <;> first | exact noMem_const m m2 | exact noMem_fail m m2
theorem noMem_build {t : TypeId} {l : List (Nat × PV)} : NoMem (aBuild P t l) := fun m m2 h => by
  revert h; unfold aBuild
  split
  · split <;> first | exact noMem_const m m2 | exact noMem_fail m m2
  · split <;> first | exact noMem_const m m2 | exact noMem_fail m m2
  · exact noMem_fail m m2
theorem noMem_slice {t : TypeId} {x : PV} {lo hi : Option PV} : NoMem (aSlice P t x lo hi) := fun m m2 h => by
  revert h; unfold aSlice
  split
  · split <;> first | exact noMem_const m m2 | exact noMem_fail m m2
  · split <;> first | exact noMem_const m m2 | exact noMem_fail m m2
  · split <;> first | exact noMem_const m m2 | exact noMem_fail m m2
  · split <;> first | exact noMem_const m m2 | exact noMem_fail m m2
  · exact noMem_fail m m2

theorem Foot.noMem {o : Oper} {ρ : Operand → PV} {m : Hp} (hn : NoMem (aop P o ρ)) (hf1 : (fp o.op).nb = false) (hf2 : (fp o.op).nq = false) (hf3 : (fp o.op).wh = false) (hf4 : (fp o.op).wz = false) (hf5 : (fp o.op).wq = false) (hf6 : (fp o.op).wo = false) (hok : (aop P o ρ m).ok) :
    Foot P o ρ m (aop P o ρ m).v (aop P o ρ m).m := by
  obtain ⟨e, _⟩ := hn m m hok
  rw [e]
  refine ⟨fun _ _ => rfl, fun _ _ => rfl, fun _ _ => rfl, fun h => (by rw [hf1] at h; cases h), fun h => (by rw [hf2] at h; cases h), fun _ h => h, fun _ h => h, fun _ => rfl, rfl, fun m2 _ _ _ _ _ _ _ => ?_⟩
  obtain ⟨_, g1, g2, g3⟩ := hn m m2 hok
  refine ⟨m2, .inl ⟨g1, g2.symm, g3.symm⟩, fun i => ⟨fun h => ?_, fun _ => rfl⟩, fun i => ⟨fun h => ?_, fun _ => rfl⟩, fun i => ⟨fun h => ?_, fun _ => rfl⟩, ⟨fun h => (by rw [hf6] at h; cases h), fun _ => rfl⟩, rfl⟩
  · simp [Wh, hf1, hf3] at h
  · simp [Wz, hf1, hf4] at h
  · simp [Wq, hf2, hf5] at h

/-- a block, a row of its own -/
theorem Foot.newB {o : Oper} {ρ : Operand → PV} {m : Hp} {d : Nat} {v : PV} {cs : List PV} {ok : Prop} (hd : o.dst = some d) (hop : ∀ m : Hp, aop P o ρ m = ⟨m.h d = none ∧ ok, v, m.new d cs⟩)
    (hf : fp o.op = { nb := true }) (hok : (aop P o ρ m).ok) : Foot P o ρ m (aop P o ρ m).v (aop P o ρ m).m := by
  rw [hop] at hok ⊢
  simp only at hok ⊢
  have W1 : ∀ i, Wh o ρ i ↔ i = d := fun i => by simp [Wh, hf, hd, eq_comm]
  have W2 : ∀ i, Wz o ρ i ↔ i = d := fun i => by simp [Wz, hf, hd, eq_comm]
  have W3 : ∀ i, ¬ Wq o ρ i := fun i => by simp [Wq, hf]
  have n1 : ∀ (m : Hp) i, i ≠ d → (m.new d cs).h i = m.h i := fun m i h => upd_ne _ _ (Ne.symm h)
  have n2 : ∀ (m : Hp) i, i ≠ d → (m.new d cs).z i = m.z i := fun m i h => upd_ne _ _ (Ne.symm h)
  have n3 : ∀ (m : Hp), (m.new d cs).h d = some cs := fun m => upd_same _ _ _
  have n4 : ∀ (m : Hp), (m.new d cs).z d = false := fun m => upd_same _ _ _
  refine ⟨fun i h => n1 m i (fun e => h ((W1 i).2 e)), fun i h => n2 m i (fun e => h ((W2 i).2 e)), fun _ _ => rfl, fun _ i hi => ?_, fun h => ?_, fun i h => ?_, fun _ h => h, fun _ => rfl, rfl, fun m2 _ _ _ h4 _ _ _ => ?_⟩
  · rw [hd] at hi; cases hi; exact hok.1
  · rw [hf] at h; cases h
  · by_cases e : i = d
    · subst e; rw [n3]; simp
    · rw [n1 m i e]; exact h
  · refine ⟨m2.new d cs, .inl ?_, fun i => ⟨fun h => ?_, fun h => n1 m2 i (fun e => h ((W1 i).2 e))⟩, fun i => ⟨fun h => ?_, fun h => n2 m2 i (fun e => h ((W2 i).2 e))⟩, fun i => ⟨fun h => absurd h (W3 i), fun _ => rfl⟩, ⟨fun h => (by rw [hf] at h; cases h), fun _ => rfl⟩, rfl⟩
    · rw [hop]; exact ⟨⟨h4 (by rw [hf]) d hd, hok.2⟩, rfl, rfl⟩
    · obtain rfl := (W1 i).1 h; rw [n3, n3]
    · obtain rfl := (W2 i).1 h; rw [n4, n4]
theorem Foot.newQ {o : Oper} {ρ : Operand → PV} {m : Hp} {d : Nat} {v : PV} {r : Row} {ok : Prop} (hd : o.dst = some d) (hop : ∀ m : Hp, aop P o ρ m = ⟨m.q d = none ∧ ok, v, m.setq d r⟩)
    (hf : fp o.op = { nq := true }) (hok : (aop P o ρ m).ok) : Foot P o ρ m (aop P o ρ m).v (aop P o ρ m).m := by
  rw [hop] at hok ⊢
  simp only at hok ⊢
  have W1 : ∀ i, ¬ Wh o ρ i := fun i => by simp [Wh, hf]
  have W2 : ∀ i, ¬ Wz o ρ i := fun i => by simp [Wz, hf]
  have W3 : ∀ i, Wq o ρ i ↔ i = d := fun i => by simp [Wq, hf, hd, eq_comm]
  have n1 : ∀ (m : Hp) i, i ≠ d → (m.setq d r).q i = m.q i := fun m i h => upd_ne _ _ (Ne.symm h)
  have n3 : ∀ (m : Hp), (m.setq d r).q d = some r := fun m => upd_same _ _ _
  refine ⟨fun _ _ => rfl, fun _ _ => rfl, fun i h => n1 m i (fun e => h ((W3 i).2 e)), fun h => ?_, fun _ i hi => ?_, fun _ h => h, fun i h => ?_, fun _ => rfl, rfl, fun m2 _ _ _ _ h5 _ _ => ?_⟩
  · rw [hf] at h; cases h
  · rw [hd] at hi; cases hi; exact hok.1
  · by_cases e : i = d
    · subst e; rw [n3]; simp
    · rw [n1 m i e]; exact h
  · refine ⟨m2.setq d r, .inl ?_, fun i => ⟨fun h => absurd h (W1 i), fun _ => rfl⟩, fun i => ⟨fun h => absurd h (W2 i), fun _ => rfl⟩, fun i => ⟨fun h => ?_, fun h => n1 m2 i (fun e => h ((W3 i).2 e))⟩, ⟨fun h => (by rw [hf] at h; cases h), fun _ => rfl⟩, rfl⟩
    · rw [hop]; exact ⟨⟨h5 (by rw [hf]) d hd, hok.2⟩, rfl, rfl⟩
    · obtain rfl := (W3 i).1 h; rw [n3, n3]
end
end Go.PL
