/- A logic of values for functions that only read and build, over the model (part 7): no statement of the seat is proved here. -/
import Derived.Test.YtcomkajmhlhphaaGreatPlF
import Derived.Test.YtcomkajmhlhphaaGreatPlA
set_option linter.unusedSimpArgs false
set_option linter.unusedVariables false
namespace Go.PL
open Go.RowKit
set_option linter.unusedVariables false
/-- the same, or a row told as a plain slice -/
def Plain (p q : PV) : Prop := q = p ∨ ∃ d es, p = .sl (.row d) es ∧ q = .sl .no es
theorem Plain.same {p q : PV} (h : p = q) : Plain p q := .inl h.symm
theorem Plain.row (d : Nat) (es : List PV) : Plain (.sl (.row d) es) (.sl .no es) := .inr ⟨d, es, rfl, rfl⟩
structure WeakP (s' s : St) : Prop where
  n : s'.n = s.n
  fr : ∀ i, s'.fr i = .any ∨ Plain (s.fr i) (s'.fr i)
  h : ∀ i, s'.m.h i = none ∨ (s'.m.h i = s.m.h i ∧ s'.m.z i = s.m.z i)
  q : ∀ i, s'.m.q i = none ∨ s'.m.q i = s.m.q i
  o : ∀ i, s'.m.o i = none ∨ s'.m.o i = s.m.o i
  it : ∀ i, s'.m.it i = none ∨ s'.m.it i = s.m.it i
section
variable {P : Program} {B : Frm} {S : Stable} {M : Maps} {s s' : St} {a : Act} {w : World} {Q Q' : Exit → St → Prop}
/-- first the rows that a state tells are told as plain slices, then less is told -/
theorem Sim.weakP (hs : Sim B S M s a w) (hw : WeakP s' s) (hr : Refs s') : Sim B S M s' a w := by
  have rep : ∀ {v p}, RepS S M s.m.q v p → (∀ r ∈ p.ids, Live s'.m r) → RepS S M s'.m.q v p := fun r _ =>
    r.heap (SLe.refl _) (fun _ _ => rfl) (fun i hi n sz e hq => by
      rcases hw.q i with h | h
      · rw [h] at hq; cases hq
      · exact .inl ⟨by rw [← h]; exact hq, rfl, rfl⟩)
  have hh : ∀ {i cs}, s'.m.h i = some cs → s.m.h i = some cs ∧ s'.m.z i = s.m.z i := fun {i cs} hi => by
    rcases hw.h i with h | ⟨h, hz⟩
    · rw [h] at hi; cases hi
    · exact ⟨by rw [← h]; exact hi, hz⟩
  have hq : ∀ {i r}, s'.m.q i = some r → s.m.q i = some r := fun {i r} hi => by
    rcases hw.q i with h | h
    · rw [h] at hi; cases hi
    · rw [← h]; exact hi
  refine ⟨hs.defers, by rw [hs.hn, hw.n], hs.hB, ⟨hs.stable.s, fun b c hc => hs.stable.o b c ?_, fun b x hx => hs.stable.i b x ?_⟩, fun i => ?_, hr.fr, fun i cs hi => ?_, fun i r hi => hs.row i r (hq hi), ?_, ?_, ?_⟩
  · rcases hw.o b with h | h
    · rw [h] at hc; cases hc
    · rw [← h]; exact hc
  · rcases hw.it b with h | h
    · rw [h] at hx; cases hx
    · rw [← h]; exact hx
  · rcases hw.fr i with h | h | ⟨d, es, h1, h2⟩
    · rw [h]; exact .clean (.any _)
    · rw [h]; exact rep (hs.fr i) (by rw [← h]; exact hr.fr i)
    · rw [h2]
      have := hs.fr i
      rw [h1] at this
      exact .clean this.sl_inv
  · obtain ⟨h1, hz⟩ := hh hi
    have hb := hs.blk i cs h1
    rw [hz]
    cases hzi : s.m.z i with
    | false =>
      rw [hzi] at hb
      obtain ⟨g1, g2, ⟨us, t', g3, g4, g5⟩, g6⟩ := hb
      exact ⟨g1, g2, ⟨us, t', g3, g4, fun k hk => rep (g5 k hk) (fun r hr' => hr.h i cs hi _ (getD_mem hk) r hr')⟩, hr.h i cs hi⟩
    | true => rw [hzi] at hb; exact hb
  · intro i j cs cs' hi hj zi zj hij
    obtain ⟨h1, e1⟩ := hh hi
    obtain ⟨h2, e2⟩ := hh hj
    exact hs.inj i j _ _ h1 h2 (by rw [← e1]; exact zi) (by rw [← e2]; exact zj) hij
  · intro i j n1 z1 t1 n2 z2 t2 hi hj ki kj hij
    exact hs.injq i j _ _ _ _ _ _ (hq hi) (hq hj) ki kj hij
  · intro i j cs n1 z1 t1 hi zi hj kj
    obtain ⟨h1, e1⟩ := hh hi
    exact hs.injx i j _ _ _ _ h1 (by rw [← e1]; exact zi) (hq hj) kj

theorem awp_loop_genP {c : Code} {ι : Type} (I : ι → St) (μ : ι → Nat) (i0 : ι) (h0 : WeakP (I i0) s) (hr : ∀ i, Refs (I i))
    (round : ∀ i, awp P c (thenQ (fun s' => ∃ j, μ j < μ i ∧ WeakP (I j) s') Q) (I i)) : awp P (.loop c) Q s := fun B S M a w hs => by
  have key : ∀ (k : Nat) (i : ι), μ i < k → ∀ S1 M1 a1 w1, Sim B S1 M1 (I i) a1 w1 → Ext B S S1 w w1 →
      Code.rounds P c (fun e a' w' => ∃ s' S' M', Q e s' ∧ Sim B S' M' s' a' w' ∧ Ext B S S' w w') k a1 w1 := by
    intro k
    induction k with
    | zero => intro i hi; omega
    | succ k ih =>
      intro i hi S1 M1 a1 w1 hs1 he1
      rw [rounds_succ]
      refine wp_mono (round i B S1 M1 a1 w1 hs1) fun e a' w' hq => ?_
      obtain ⟨s', S', M', h1, h2, h3⟩ := hq
      cases e with
      | normal =>
        obtain ⟨j, hj, hwk⟩ := h1
        exact ih j (by omega) S' M' a' w' (h2.weakP hwk (hr j)) (he1.trans h3)
      | _ => exact ⟨s', S', M', h1, h2, he1.trans h3⟩
  exact wp_loop_rounds (μ i0 + 1) (key _ i0 (Nat.lt_succ_self _) S M a w (hs.weakP h0 (hr i0)) (Ext.refl _ _ _))

structure HasP (n : Nat) (L : List (Nat × PV)) (H : List (Nat × List PV × Bool)) (R : List (Nat × Row)) (s : St) : Prop where
  n : s.n = n
  fr : ∀ x ∈ L, Plain (s.fr x.1) x.2
  h : ∀ x ∈ H, s.m.h x.1 = some x.2.1 ∧ s.m.z x.1 = x.2.2
  q : ∀ x ∈ R, s.m.q x.1 = some x.2
theorem HasP.weak {n : Nat} {L : List (Nat × PV)} {H : List (Nat × List PV × Bool)} {R : List (Nat × Row)} (h : HasP n L H R s) : WeakP (mkSt n L H R) s := by
  have hk : Has n [] H R s := ⟨h.n, fun x hx => (by cases hx), h.h, h.q⟩
  refine ⟨h.n.symm, fun i => ?_, hk.weak.h, hk.weak.q, fun _ => .inl rfl, fun _ => .inl rfl⟩
  by_cases hi : (L.map (·.1)).contains i = true
  · exact .inr (upds_all (R := fun i v => Plain (s.fr i) v) (fun x hx => h.fr x hx) hi)
  · exact .inl (upds_ne (by simpa using hi))
def NextP {ι : Type} (n : Nat) (L : ι → List (Nat × PV)) (H : ι → List (Nat × List PV × Bool)) (R : ι → List (Nat × Row)) (μ : ι → Nat) (i : ι) (s' : St) : Prop := ∃ j, μ j < μ i ∧ HasP n (L j) (H j) (R j) s'
/-- A LOOP at whose head rows are told as plain slices -/
theorem vLoopP {c : Code} {ι : Type} (n : Nat) (L : ι → List (Nat × PV)) (H : ι → List (Nat × List PV × Bool)) (R : ι → List (Nat × Row)) (μ : ι → Nat) (i0 : ι)
    (h0 : HasP n (L i0) (H i0) (R i0) s) (hr : ∀ i, toldB (L i) (H i) (R i))
    (round : ∀ i, @vC P ⟨c⟩ ⟨thenQ (NextP n L H R μ i) Q⟩ (mkSt n (L i) (H i) (R i))) : awp P (.loop c) Q s :=
  awp_loop_genP (fun i => mkSt n (L i) (H i) (R i)) μ i0 h0.weak (fun i => Refs.mkSt (hr i)) fun i => awp_mono (fun e s' h => by
    cases e with
    | normal => obtain ⟨j, hj, hm⟩ := h; exact ⟨j, hj, hm.weak⟩
    | _ => exact h) (vc_sound _ _ _ (round i))
end
end Go.PL

namespace Go.PL
set_option linter.unusedVariables false
set_option linter.unusedSimpArgs false
/-! whole numbers as floats: all of at most 53 digits are there, exactly -/

end Go.PL

namespace Go.PL
open Go.RowKit
set_option linter.unusedVariables false
/-! ### a function that ends in raw steps: its first k parts told by the logic, the rest by the kit (a sort of the row that it hands back) -/
def dropC : Nat → Code → Code
  | 0, c => c
  | k + 1, .seq _ b => dropC k b
  | _ + 1, c => c
/-- the first k parts, told; behind them Q1 -/
def tawp (P : Program) (Q1 : St → Prop) : Nat → Code → St → Prop
  | 0, _, s => Q1 s
  | k + 1, .seq a b, s => awp P a (thenQ (tawp P Q1 k b) fun _ _ => False) s
  | _ + 1, _, _ => False
theorem tawp_seq {P : Program} {Q1 : St → Prop} {k : Nat} {a b : Code} {s : St} (h : @vC P ⟨a⟩ ⟨thenQ (tawp P Q1 k b) fun _ _ => False⟩ s) : tawp P Q1 (k + 1) (.seq a b) s := vc_sound _ _ _ h
theorem tawp_sound {P : Program} {Q1 : St → Prop} {Φ : Exit → Act → World → Prop} {B : Frm} {S0 : Stable} {w0 : World} : ∀ (k : Nat) (c : Code) (s : St) (S : Stable) (M : Maps) (a : Act) (w : World), tawp P Q1 k c s → Sim B S M s a w → Ext B S0 S w0 w →
    (∀ s' S' M' a' w', Q1 s' → Sim B S' M' s' a' w' → Ext B S0 S' w0 w' → (dropC k c).wp P Φ a' w') → c.wp P Φ a w
  | 0, c, s, S, M, a, w, h, hs, hx, hk => hk s S M a w h hs hx
  | k + 1, .seq x y, s, S, M, a, w, h, hs, hx, hk => by
    refine wp_seq (wp_mono (h B S M a w hs) fun e a' w' hq => ?_)
    obtain ⟨s', S', M', h1, h2, h3⟩ := hq
    cases e with
    | normal => exact tawp_sound k y s' S' M' a' w' h1 h2 (hx.trans h3) hk
    | _ => exact absurd h1 id
  | k + 1, .skip, s, S, M, a, w, h, _, _, _ => absurd h id
  | k + 1, .label _, s, S, M, a, w, h, _, _, _ => absurd h id
  | k + 1, .ret, s, S, M, a, w, h, _, _, _ => absurd h id
  | k + 1, .exit _, s, S, M, a, w, h, _, _, _ => absurd h id
  | k + 1, .goto _, s, S, M, a, w, h, _, _, _ => absurd h id
  | k + 1, .block _ _, s, S, M, a, w, h, _, _, _ => absurd h id
  | k + 1, .loop _, s, S, M, a, w, h, _, _, _ => absurd h id
  | k + 1, .scope _, s, S, M, a, w, h, _, _, _ => absurd h id
  | k + 1, .cond _ _ _, s, S, M, a, w, h, _, _, _ => absurd h id
  | k + 1, .region _ _ _, s, S, M, a, w, h, _, _, _ => absurd h id

/-- how elements of k cells are told, and how they lie -/
structure Flat (α : Type) [Inhabited α] where
  p : α → PV
  v : α → List Value
  sz : Nat
  pos : 0 < sz
  hp : ∀ x, (p x).cells.length = sz
  hv : ∀ x, (v x).length = sz
  to : ∀ (S : Stable) x j u, j < sz → Rep S u ((p x).cells.getD j .any) → u = (v x).getD j undef
  of : ∀ (S : Stable) x j, j < sz → Rep S ((v x).getD j undef) ((p x).cells.getD j .any)
/-- a slice over a row that lies at a block not below lo -/
def RawRow {α : Type} [Inhabited α] (F : Flat α) (w : World) (lo : Nat) (xs : List α) (v : Value) : Prop :=
  (xs.length = 0 ∧ v = .slice none 0 0) ∨ ∃ b c e vs, lo ≤ b ∧ v = .slice (some ⟨b, 0, none⟩) xs.length c ∧ xs.length ≤ c ∧ w.heap[b]? = some (.cells ⟨vs⟩ e (0, 0)) ∧ xs.length * F.sz ≤ vs.length ∧
    ∀ i j, i < xs.length → j < F.sz → vs.getD (i * F.sz + j) undef = (F.v (xs.getD i default)).getD j undef
section
variable {P : Program} {B : Frm} {S : Stable} {M : Maps} {s : St} {a : Act} {w : World} {α : Type} [Inhabited α]
theorem row_raw (F : Flat α) {i d n : Nat} {e : TypeId} {xs : List α} {lo : Nat} (hs : Sim B S M s a w) (hlo : ∀ k, k < lo → B k) (hi : s.fr i = .sl (.row d) (xs.map F.p)) (hq : s.m.q d = some (.live n F.sz e)) (hn : xs.length = n) : RawRow F w lo xs (a.tmps.getD i undef) := by
  have hf := hs.fr i
  rw [hi] at hf
  have ho := hs.row d _ hq
  obtain ⟨o1, o2⟩ := ho
  generalize a.tmps.getD i undef = v at hf
  cases hf with
  | clean r => cases r
  | row _ _ _ r t =>
    obtain ⟨_, t2⟩ := t n F.sz e hq
    obtain ⟨t3, t4⟩ := t2 (by rw [List.length_map]; exact hn)
    cases hk : M.κ d with
    | zero => exact .inl ⟨by rw [hn]; exact o1 hk, t3 hk⟩
    | succ c =>
      obtain ⟨p1, p2, p3, ⟨vs, p4, p5⟩, p6⟩ := o2 c hk
      have hv := t4 c hk
      refine .inr ⟨M.ψ d, c, e, vs, ?_, by rw [hn]; exact hv, by omega, p4, ?_, fun i j hi hj => ?_⟩
      · exact Nat.le_of_not_lt fun h => p3 (hlo _ h)
      · rw [p5, hn]; exact Nat.mul_le_mul_right _ p1
      · rw [hv] at r
        generalize hes : xs.map F.p = es at r
        cases r with
        | sl0 => 
          have : xs.length = 0 := by
            have := congrArg List.length hes
            simpa using this
          omega
        | sl b o cap sz es vals hsz hcap hS hR =>
          have hlen : es.length = xs.length := by rw [← hes]; simp
          have hi' : i < es.length := by omega
          have hcell : es.getD i .any = F.p (xs.getD i default) := by
            rw [← hes, getD_lt (l := xs.map F.p) (by simpa using hi), getD_lt hi]; simp
          have hsz' : sz = F.sz := by have := hsz i hi'; rw [hcell, F.hp] at this; exact this.symm
          subst hsz'
          have hst := hs.stable.s.c _ _ _ (hS i j hi' hj)
          have hr := hR i j hi' hj
          rw [hcell] at hr
          have hval := F.to S _ j _ hj hr
          rw [← hval]
          have hidx : i * F.sz + j < vs.length := by
            have q1 : (i + 1) * F.sz ≤ c * F.sz := Nat.mul_le_mul_right _ (by omega)
            rw [Nat.succ_mul] at q1
            omega
          rw [cell_of p4] at hst
          rw [Nat.zero_add] at hst
          rw [List.getElem?_eq_getElem hidx] at hst
          rw [getD_lt hidx]
          exact Option.some.inj hst

/-- A FUNCTION THAT HANDS BACK A ROW OF ITS OWN, turned in place by raw steps at the end: what they make of it is G's f -/
theorem Pure.tail (F : Flat α) {f : FuncId} {fn : Func} {c : Code} {args : List PV} {r : PV} (k i d N : Nat) {Q1 : St → Prop} (G : List α → Prop) (g : List α → List α) (hf : P.funcs[f]? = some fn) (hname : fn.name ≠ "runtime.NumGoroutine") (hb : fn.body = some c) (hl : args.length ≤ fn.ntmps) (hi : r.dids = [])
    (h1 : tawp P Q1 k c (St.init args fn.ntmps))
    (hQ : ∀ s, Q1 s → ∃ xs e, G xs ∧ s.n = N ∧ s.fr i = .sl (.row d) (xs.map F.p) ∧ s.m.q d = some (.live xs.length F.sz e))
    (h2 : ∀ xs lo (a : Act) (w : World), G xs → a.defers = [] → a.tmps.size = N → RawRow F w lo xs (a.tmps.getD i undef) → lo ≤ w.heap.size →
      (dropC k c).wp P (fun ex a' w' => (ex = .normal ∨ ex = .ret) ∧ a'.defers = [] ∧ ∃ v', (results fn a'.tmps).run P w' = .ok v' w' ∧ RawRow F w' lo (g xs) v' ∧ BelowF (fun k => k < lo) w w') a w)
    (hr : ∀ xs, G xs → r = .sl .no ((g xs).map F.p)) : Pure P f args r := by
  refine ⟨⟨fn, hf, hname, by rw [hb]; rfl⟩, hi, fun w S vs hst hlen hrep => ?_⟩
  refine calls_of_wp hf hb ?_
  have hs := sim_init (B := fun k => k < w.heap.size) (w := w) (n := fn.ntmps) (o := fun _ => none) hl hlen hrep (fun k hk => hk) ⟨hst, fun b c hc => by simp at hc, fun b x hx => by simp at hx⟩
  have hsz : (⟨vs⟩ : Array Value).size = vs.length := by simp
  rw [hsz]
  refine tawp_sound (B := fun k => k < w.heap.size) (S0 := S) (w0 := w) k c _ S _ _ w h1 hs (Ext.refl _ _ _) fun s' S' M' a' w' hq hs' hx => ?_
  obtain ⟨xs, e, hg, hsn, hfr, hrow⟩ := hQ s' hq
  have hsize : w.heap.size ≤ w'.heap.size := hx.2.2.size
  have hraw := row_raw F (lo := w.heap.size) hs' (fun k hk => hk) hfr hrow rfl
  have hn : a'.tmps.size = N := by rw [hs'.hn, hsn]
  refine wp_mono (h2 xs w.heap.size a' w' hg hs'.defers hn hraw hsize) fun ex a2 w2 ⟨hex, hdf, v', hv', hrr, hbl⟩ => ?_
  have hr' := hr xs hg
  have hbel : BelowF (fun k => k < w.heap.size) w w2 := hx.2.2.trans hbl
  have fin : ∃ v S', Ending.returned v' = .returned v ∧ Rep S' v r ∧ StabS S' w2 ∧ SLe S S' ∧ (∀ b, b < w.heap.size → (∀ o, S' b o = S b o) ∧ S'.m b = S.m b) ∧ Below w.heap.size w w2 := by
    rw [hr']
    have hold : StabS S w2 := ⟨fun b o u h => by
      have h1 := hst.c b o u h
      have hbl := cell_lt h1
      rw [World.cell?_of_block (w := w) (hbel.block b hbl)]
      exact h1, fun b es h => by
      have h1 := hst.m b es h
      have hbl := (Array.getElem?_eq_some_iff.1 h1).1
      rw [hbel.block b hbl]
      exact h1⟩
    rcases hrr with ⟨h0, hv0⟩ | ⟨b, c', e', us, hb1, hb2, hb3, hb4, hb5, hb6⟩
    · refine ⟨v', S, rfl, ?_, hold, SLe.refl S, fun b _ => ⟨fun _ => rfl, rfl⟩, hbel.to⟩
      have : g xs = [] := List.length_eq_zero_iff.1 h0
      rw [this, hv0]
      exact .sl0 none 0
    · let S2 : Stable := ⟨fun b' o => if b' = b ∧ o < (g xs).length * F.sz then some (us.getD o undef) else S b' o, S.m⟩
      have fresh : ∀ o, S b o = none := fun o => by
        cases hc : S b o with
        | none => rfl
        | some u => have := cell_lt (hst.c b o u hc); omega
      refine ⟨v', S2, rfl, ?_, ⟨fun b' o u h => ?_, fun b' es h => hold.m b' es h⟩, ⟨fun b' o u h => ?_, fun b' es h => h⟩, fun b' hb' => ⟨fun o => ?_, rfl⟩, hbel.to⟩
      · rw [hb2]
        have hmap : ((g xs).map F.p).length = (g xs).length := by simp
        rw [← hmap]
        refine .sl b 0 c' F.sz _ (fun i j => us.getD (i * F.sz + j) undef) (fun i hi => ?_) (by rw [hmap]; exact hb3) (fun i j hi hj => ?_) (fun i j hi hj => ?_)
        · rw [hmap] at hi
          rw [getD_lt (l := (g xs).map F.p) (by simpa using hi), List.getElem_map, F.hp]
        · rw [hmap] at hi
          show (if b = b ∧ 0 + i * F.sz + j < (g xs).length * F.sz then some (us.getD (0 + i * F.sz + j) undef) else S b (0 + i * F.sz + j)) = _
          have q1 : (i + 1) * F.sz ≤ (g xs).length * F.sz := Nat.mul_le_mul_right _ (by omega)
          rw [Nat.succ_mul] at q1
          rw [if_pos ⟨rfl, by omega⟩, Nat.zero_add]
        · rw [hmap] at hi
          have e1 : ((g xs).map F.p).getD i .any = F.p ((g xs).getD i default) := by
            rw [getD_lt (l := (g xs).map F.p) (by simpa using hi), getD_lt hi]; simp
          rw [e1]
          show Rep _ (us.getD (i * F.sz + j) undef) _
          rw [hb6 i j hi hj]
          exact F.of _ _ _ hj
      · have h9 : (if b' = b ∧ o < (g xs).length * F.sz then some (us.getD o undef) else S b' o) = some u := h
        clear h
        by_cases hc : b' = b ∧ o < (g xs).length * F.sz
        · rw [if_pos hc] at h9
          rw [hc.1, cell_of hb4, List.getElem?_eq_getElem (by omega), ← h9, getD_lt (by omega)]
        · rw [if_neg hc] at h9
          exact hold.c b' o u h9
      · show (if b' = b ∧ o < (g xs).length * F.sz then some (us.getD o undef) else S b' o) = some u
        have : b' ≠ b := fun e => by subst e; rw [fresh o] at h; cases h
        rw [if_neg (fun hc => this hc.1)]
        exact h
      · show (if b' = b ∧ o < (g xs).length * F.sz then some (us.getD o undef) else S b' o) = S b' o
        rw [if_neg (fun hc => by have := hc.1; omega)]
  rcases hex with rfl | rfl
  · exact ⟨hdf, v', hv', fin⟩
  · exact ⟨hdf, v', hv', fin⟩
end
end Go.PL

namespace Go.PL
open Go.RowKit
set_option linter.unusedVariables false
section
variable {P : Program} {a : Act} {w : World} {Q : Exit → Act → World → Prop}
theorem wpOps_go {o : Oper} {ops : Array Oper} {i : Nat} {rest : List Nat} (ho : ops[i]? = some o) (hg : o.guard = none) (h : o.wp P a w (wpOps P ops Q rest) Q) : wpOps P ops Q (i :: rest) a w := by
  unfold wpOps
  rw [ho]
  have hw : Region.wanted o (yielded ops a.tmps) = true := by simp [Region.wanted, hg]
  simp only [hw, if_true]
  exact .inl h
theorem wp_move {dst : Option Tmp} {x : Operand} {ty : TypeId} {pos : String} {after : Array Edge} {next : Act → World → Prop} (h : next (a.put dst (a.eval x)) w) : (Oper.mk dst (.move x) ty pos after none).wp P a w next Q := by
  have hr : (execOp a.eval (Oper.mk dst (.move x) ty pos after none)).run P w = .ok (.value (a.eval x)) w := by simp [execOp, Sem.run]
  unfold Oper.wp
  rw [hr]
  exact h
theorem wp_assign {dst : Option Tmp} {x : Operand} {ty : TypeId} {pos : String} {after : Array Edge} {next : Act → World → Prop} (h : next (a.put dst (a.eval x)) w) : (Oper.mk dst (.assign x) ty pos after none).wp P a w next Q := by
  have hr : (execOp a.eval (Oper.mk dst (.assign x) ty pos after none)).run P w = .ok (.value (a.eval x)) w := by simp [execOp, Sem.run]
  unfold Oper.wp
  rw [hr]
  exact h
theorem wp_callF {f : FuncId} {fn : Func} {dst : Option Tmp} {xs : List Operand} {ts : Array TypeId} {ty : TypeId} {pos : String} {after : Array Edge} {next : Act → World → Prop} (hf : P.funcs[f]? = some fn) (hn : fn.name ≠ "runtime.NumGoroutine") (hb : fn.body ≠ none)
    (h : Calls P f ⟨xs.map a.eval⟩ w fun e w' => ∃ v, e = .returned v ∧ next (a.put dst v) w') : (Oper.mk dst (.call ⟨.value (.func f), ⟨xs⟩, ts⟩) ty pos after none).wp P a w next Q := by
  have hr : (execOp a.eval (Oper.mk dst (.call ⟨.value (.func f), ⟨xs⟩, ts⟩) ty pos after none)).run P w = .ok (.enter f ⟨xs.map a.eval⟩) w := by
    simp [execOp, resolve, Deferred.ofValue, Act.eval, invoke, callFunc, program, Sem.run, hf, hb, hn]
  unfold Oper.wp
  rw [hr]
  show Calls P f ⟨xs.map a.eval⟩ w _
  refine h.mono fun e w' h => ?_
  obtain ⟨v, rfl, h2⟩ := h
  exact h2
/-- 'sort(out); return out' -/
theorem wp_sort_ret {i1 i2 : Nat} {s t1 t2 t3 r N sf g : Nat} {fn : Func} {y1 y2 y3 y4 : TypeId} {ts : Array TypeId} {p1 p2 p3 p4 : String} {q1 q2 q3 q4 : Array Edge} {Φ : Exit → Act → World → Prop}
    (hN : a.tmps.size = N) (b1 : t1 < N) (b2 : t2 < N) (b3 : t3 < N) (b4 : r < N) (n1 : t1 ≠ s) (n2 : t2 ≠ s) (n3 : t2 ≠ t1) (hf : P.funcs[sf]? = some fn) (hn : fn.name ≠ "runtime.NumGoroutine") (hb : fn.body ≠ none)
    (h : Calls P sf #[a.tmps.getD s undef, .func (.func g) #[] #[]] w fun e w' => ∃ v, e = .returned v ∧ ∀ a', a'.defers = a.defers → a'.tmps.getD r undef = a.tmps.getD s undef → Φ .ret a' w') :
    (Code.seq (.region i1 #[Oper.mk (some t1) (.move (.tmp s)) y1 p1 q1 none, Oper.mk (some t2) (.call ⟨.value (.func sf), #[.tmp t1, .func g], ts⟩) y2 p2 q2 none] false)
      (.seq (.region i2 #[Oper.mk (some t3) (.move (.tmp s)) y3 p3 q3 none, Oper.mk (some r) (.assign (.tmp t3)) y4 p4 q4 none] false) .ret)).wp P Φ a w := by
  refine wp_seq (wp_region ?_)
  refine wpOps_go rfl rfl (wp_move ?_)
  refine wpOps_go rfl rfl (wp_callF (xs := [.tmp t1, .func g]) hf hn hb ?_)
  have e1 : (a.put (some t1) (a.eval (.tmp s))).eval (.tmp t1) = a.tmps.getD s undef := by
    simp [Act.put, Act.eval, hN, b1]
  have e2 : (⟨List.map (a.put (some t1) (a.eval (.tmp s))).eval [.tmp t1, .func g]⟩ : Array Value) = #[a.tmps.getD s undef, .func (.func g) #[] #[]] := by
    simp only [List.map_cons, List.map_nil, e1]
    rfl
  rw [e2]
  refine h.mono fun e w' ⟨v, he, hk⟩ => ⟨v, he, ?_⟩
  show (Exit.then _ Φ) .normal _ _
  refine wp_seq (wp_region ?_)
  refine wpOps_go rfl rfl (wp_move ?_)
  refine wpOps_go rfl rfl (wp_assign ?_)
  show (Exit.then _ Φ) .normal _ _
  refine wp_ret (hk _ rfl ?_)
  simp [Act.put, Act.eval, hN, b1, b2, b3, b4, Array.getD_eq_getD_getElem?, Array.getElem?_setIfInBounds, n1, n2, n3]
end
end Go.PL
