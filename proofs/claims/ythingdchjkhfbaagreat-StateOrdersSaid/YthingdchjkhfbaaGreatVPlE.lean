/- A logic of values for functions that only read and build, over the model (part 5): no statement of the seat is proved here. -/
import Derived.Test.YthingdchjkhfbaaGreatVPlD
import Derived.Maps.RangeRun
set_option linter.unusedSimpArgs false
set_option linter.unusedVariables false
namespace Go.PL
open Go.RowKit
set_option linter.unusedVariables false
structure MemL where
 H : List (Nat × List PV)
 R : List (Nat × Row)
 V : List (Nat × List PV)
def MemL.hp (m : MemL) : Hp :=
 { h := upds (m.H.map fun x => (x.1, some x.2)) fun _ => none, z := fun _ => false, q := upds (m.R.map fun x => (x.1, some x.2)) fun _ => none, o := fun _ => none, it := fun _ => none, om := fun _ => none, v := upds (m.V.map fun x => (x.1, some x.2)) fun _ => none, ph := fun _ => none, pq := fun _ => none, vm := fun _ => false }
def MemL.has (m : MemL) : Ref → Prop
 | .b i => ∃ y ∈ m.H, y.1 = i
 | .r i => ∃ y ∈ m.R, y.1 = i
structure MemL.Ok (m : MemL) : Prop where
 nh : (m.H.map (·.1)).Nodup
 nr : (m.R.map (·.1)).Nodup
 nv : (m.V.map (·.1)).Nodup
 vr : ∀ x ∈ m.V, ∃ y ∈ m.R, y.1 = x.1
 ch : ∀ x ∈ m.H, ∀ c ∈ x.2, ∀ i ∈ c.ids, m.has i
 cv : ∀ x ∈ m.V, ∀ c ∈ x.2, ∀ i ∈ c.ids, m.has i
def actNo : Act := { tmps := #[], defers := [] }
def stNo (m : Hp) : St := ⟨fun _ => .any, m, 0⟩
structure Eff (P : Program) (f : FuncId) (args : List PV) (m0 : MemL) (r : PV) (m1 : MemL) : Prop where
 cal : Callable P f
 ok0 : m0.Ok
 ok1 : m1.Ok
 ca : ∀ p ∈ args, ∀ i ∈ p.ids, m0.has i
 cr : ∀ i ∈ r.ids, m1.has i
 kh : ∀ i, m0.has i → m1.has i
 run : ∀ (B : Frm) (S : Stable) (M : Maps) (w : World) (vs : List Value), Sim B S M (stNo m0.hp) actNo w → vs.length = args.length → (∀ i, i < args.length → RepS S M m0.hp.q (vs.getD i undef) (args.getD i .any)) →
  Calls P f ⟨vs⟩ w fun en w' => ∃ v S' M', en = .returned v ∧ RepS S' M' m1.hp.q v r ∧ Sim B S' M' (stNo m1.hp) actNo w' ∧ Ext B S S' w w' ∧ (∀ x ∈ m0.H, M'.φ x.1 = M.φ x.1) ∧ ∀ x ∈ m0.R, RowLe M M' x.1 (m0.hp.q x.1) (m1.hp.q x.1)
theorem upds_some {α : Type} {L : List (Nat × α)} {f : Nat → Option α} {i : Nat} {y : α} (h : upds (L.map fun x => (x.1, some x.2)) f i = some y) : (i, y) ∈ L ∨ f i = some y := by
 induction L with
 | nil => exact .inr h
 | cons x L ih =>
  have h' : upd (upds (L.map fun x => (x.1, some x.2)) f) x.1 (some x.2) i = some y := h
  by_cases e : x.1 = i
  ·rw [e, upd_same] at h'
   cases h'
   exact .inl (by subst e; simp)
  ·rw [upd_ne _ _ e] at h'
   exact (ih h').imp (fun h => List.mem_cons_of_mem _ h) id
theorem upds_at {α β : Type} {L : List (Nat × α)} {k : Nat → Nat} {F : Nat × α → β} {f : Nat → β} {x : Nat × α} (hx : x ∈ L) (hn : (L.map (·.1)).Nodup) (hk : ∀ y ∈ L, ∀ z ∈ L, k y.1 = k z.1 → y.1 = z.1) : upds (L.map fun x => (k x.1, F x)) f (k x.1) = F x := by
 induction L with
 | nil => cases hx
 | cons y L ih =>
  show upd (upds (L.map fun x => (k x.1, F x)) f) (k y.1) (F y) (k x.1) = F x
  simp only [List.map_cons, List.nodup_cons] at hn
  rcases List.mem_cons.1 hx with rfl | hx'
  ·rw [upd_same]
  ·have hne : y.1 ≠ x.1 := fun e => hn.1 (List.mem_map.2 ⟨x, hx', e.symm⟩)
   rw [upd_ne _ _ fun e => hne (hk y (by simp) x (by simp [hx']) e)]
   exact ih hx' hn.2 (fun a ha b hb => hk a (by simp [ha]) b (by simp [hb]))
theorem upds_off {α β : Type} {L : List (Nat × α)} {k : Nat → Nat} {F : Nat × α → β} {f : Nat → β} {i : Nat} (h : ∀ x ∈ L, k x.1 ≠ i) : upds (L.map fun x => (k x.1, F x)) f i = f i := by
 induction L with
 | nil => rfl
 | cons y L ih =>
  show upd (upds (L.map fun x => (k x.1, F x)) f) (k y.1) (F y) i = f i
  rw [upd_ne _ _ (h y (by simp))]
  exact ih fun x hx => h x (by simp [hx])
section
variable {m : MemL}
theorem MemL.h_mem {i : Nat} {cs : List PV} (h : m.hp.h i = some cs) : (i, cs) ∈ m.H := (upds_some h).resolve_right (by simp)
theorem MemL.q_mem {i : Nat} {r : Row} (h : m.hp.q i = some r) : (i, r) ∈ m.R := (upds_some h).resolve_right (by simp)
theorem MemL.v_mem {i : Nat} {es : List PV} (h : m.hp.v i = some es) : (i, es) ∈ m.V := (upds_some h).resolve_right (by simp)
theorem MemL.Ok.h_at (ok : m.Ok) {x : Nat × List PV} (hx : x ∈ m.H) : m.hp.h x.1 = some x.2 := upds_at (k := fun i => i) (F := fun x => some x.2) hx ok.nh (fun _ _ _ _ h => h)
theorem MemL.Ok.q_at (ok : m.Ok) {x : Nat × Row} (hx : x ∈ m.R) : m.hp.q x.1 = some x.2 := upds_at (k := fun i => i) (F := fun x => some x.2) hx ok.nr (fun _ _ _ _ h => h)
theorem MemL.Ok.live (ok : m.Ok) {i : Ref} (h : m.has i) : Live m.hp i := by
 cases i with
 | b i => obtain ⟨y, hy, rfl⟩ := h; show m.hp.h y.1 ≠ none; rw [ok.h_at hy]; simp
 | r i => obtain ⟨y, hy, rfl⟩ := h; show m.hp.q y.1 ≠ none; rw [ok.q_at hy]; simp
theorem MemL.has_of {i : Ref} (h : Live m.hp i) : m.has i := by
 cases i with
 | b i => cases e : m.hp.h i with
  | none => exact absurd e h
  | some cs => exact ⟨_, MemL.h_mem e, rfl⟩
 | r i => cases e : m.hp.q i with
  | none => exact absurd e h
  | some cs => exact ⟨_, MemL.q_mem e, rfl⟩
end
def layM (m1 : MemL) (f g : Nat → Nat) (m : Hp) : Hp :=
 { m with h := upds (m1.H.map fun x => (g x.1, some (x.2.map (PV.ren f g)))) m.h, z := upds (m1.H.map fun x => (g x.1, false)) m.z, q := upds (m1.R.map fun x => (f x.1, some x.2)) m.q, v := upds (m1.R.map fun x => (f x.1, (m1.hp.v x.1).map (List.map (PV.ren f g)))) m.v }
structure FitsM (m0 m1 : MemL) (f g : Nat → Nat) (m : Hp) : Prop where
 h : ∀ x ∈ m0.H, m.h (g x.1) = some (x.2.map (PV.ren f g)) ∧ m.z (g x.1) = false
 q : ∀ x ∈ m0.R, m.q (f x.1) = some x.2
 v : ∀ x ∈ m0.V, m.v (f x.1) = some (x.2.map (PV.ren f g))
 nh : ∀ x ∈ m1.H, (∃ y ∈ m0.H, y.1 = x.1) ∨ m.h (g x.1) = none
 nr : ∀ x ∈ m1.R, (∃ y ∈ m0.R, y.1 = x.1) ∨ m.q (f x.1) = none
 ig : ∀ x ∈ m1.H, ∀ y ∈ m1.H, g x.1 = g y.1 → x.1 = y.1
 jf : ∀ x ∈ m1.R, ∀ y ∈ m1.R, f x.1 = f y.1 → x.1 = y.1
section
variable {P : Program} {B : Frm} {S : Stable} {M : Maps} {s : St} {a : Act} {w : World} {fn : FuncId} {args : List PV} {m0 m1 : MemL} {r : PV} {f g : Nat → Nat}
def effB (B : Frm) (M : Maps) (m : Hp) (m0 : MemL) (f g : Nat → Nat) : Frm := fun k =>
 B k ∨ (∃ id cs, m.h id = some cs ∧ m.z id = false ∧ (∀ x ∈ m0.H, g x.1 ≠ id) ∧ M.φ id = k) ∨ (∃ id r, m.q id = some r ∧ r.own = true ∧ 0 < M.κ id ∧ (∀ x ∈ m0.R, f x.1 ≠ id) ∧ M.ψ id = k) ∨ (∃ c, m.o k = some c) ∨ (∃ x, m.it k = some x) ∨ ∃ c, m.om k = some c
theorem Sim.small (hs : Sim B S M s a w) (ok : m0.Ok) (hf : FitsM m0 m1 f g s.m) (ig : ∀ x ∈ m0.H, ∀ y ∈ m0.H, g x.1 = g y.1 → x.1 = y.1) (jf : ∀ x ∈ m0.R, ∀ y ∈ m0.R, f x.1 = f y.1 → x.1 = y.1) :
  Sim (effB B M s.m m0 f g) S ⟨fun i => M.φ (g i), fun i => M.ψ (f i), fun i => M.κ (f i)⟩ (stNo m0.hp) actNo w := by
 have hq : ∀ {i r}, m0.hp.q i = some r → s.m.q (f i) = some r := fun h => hf.q _ (MemL.q_mem h)
 have un : ∀ {v p}, RepS S M s.m.q v (p.ren f g) → (∀ i ∈ p.ids, m0.has i) → RepS S ⟨fun i => M.φ (g i), fun i => M.ψ (f i), fun i => M.κ (f i)⟩ m0.hp.q v p := fun rr hids =>
  rr.unren _ rfl (fun i _ => rfl) fun i hi => ⟨by obtain ⟨y, hy, rfl⟩ := hids _ hi; rw [hf.q y hy, ok.q_at hy], rfl, rfl⟩
 have cell_nomap : ∀ {k vs t fz}, w.heap[k]? = some (.cells vs t fz) → ¬ ((∃ c, s.m.o k = some c) ∨ (∃ x, s.m.it k = some x) ∨ ∃ c, s.m.om k = some c) := fun {k vs t fz} h0 h => by
  rcases h with ⟨c, hc⟩ | ⟨x, hx⟩ | ⟨c, hc⟩
  ·obtain ⟨_, _, es, h1, _⟩ := hs.stable.o k c hc; rw [h0] at h1; cases h1
  ·have h1 := (hs.stable.i k x hx).2.1; unfold IterAt at h1; rw [h0] at h1; cases h1
  ·obtain ⟨_, _, _, ⟨es, h1, _⟩, _⟩ := hs.rm k c hc; rw [h0] at h1; cases h1
 have nb : ∀ {id cs}, m0.hp.h id = some cs → ¬ effB B M s.m m0 f g (M.φ (g id)) := fun {id cs} h hB => by
  have hx := MemL.h_mem h
  obtain ⟨k1, k2⟩ := hf.h _ hx
  obtain ⟨g1, g2, ⟨vs, t, g3, _⟩, _⟩ := hs.own k1 k2
  rcases hB with hB | ⟨id', cs', e1, e2, e3, e4⟩ | ⟨id', r', e1, e2, e3, e4, e5⟩ | hB
  ·exact g1 hB
  ·exact hs.inj id' (g id) _ _ e1 k1 e2 k2 (fun e => e3 _ hx e.symm) e4
  ·exact hs.injx (g id) id' _ _ k1 k2 e1 e2 e3 e5.symm
  ·exact cell_nomap g3 hB
 have nr : ∀ {id r}, m0.hp.q id = some r → r.own = true → 0 < M.κ (f id) → ¬ effB B M s.m m0 f g (M.ψ (f id)) := fun {id r} h ho hk hB => by
  have hx := MemL.q_mem h
  have k1 := hq h
  have hrow := hs.row _ _ k1
  obtain ⟨c, hc⟩ : ∃ c, M.κ (f id) = c + 1 := ⟨M.κ (f id) - 1, by omega⟩
  have hcell : ∃ vs e, w.heap[M.ψ (f id)]? = some (.cells ⟨vs⟩ e (0, 0)) ∧ ¬ B (M.ψ (f id)) := by
   cases r with
   | dead => cases ho
   | live n sz e => obtain ⟨_, h2⟩ := hrow; obtain ⟨_, _, g1, ⟨vs, g2, _⟩, _⟩ := h2 c hc; exact ⟨vs, e, g2, g1⟩
   | vec n sz e => obtain ⟨_, h2⟩ := hrow; obtain ⟨_, _, g1, ⟨vs, g2, _⟩, _⟩ := h2 c hc; exact ⟨vs, e, g2, g1⟩
  obtain ⟨vs, e, g3, g1⟩ := hcell
  rcases hB with hB | ⟨id', cs', e1, e2, e3, e4⟩ | ⟨id', r', e1, e2, e3, e4, e5⟩ | hB
  ·exact g1 hB
  ·exact hs.injx id' (f id) _ _ e1 e2 k1 ho hk e4
  ·exact hs.injq id' (f id) _ _ e1 k1 e2 ho e3 hk (fun e => e4 _ hx e.symm) e5
  ·exact cell_nomap g3 hB
 refine ⟨rfl, rfl, fun k hB => ?_, ⟨hs.stable.s, fun b c hc => (by cases hc), fun b x hx => (by cases hx)⟩, fun i => .clean (.any _), fun i id h => (by simp [stNo, PV.ids] at h), fun id cs h => ?_, fun id r h => ?_, fun id id' cs cs' h h' _ _ hne => ?_, fun id id' r r' h h' o o' k k' hne => ?_, fun id id' cs r h _ h' o k => ?_, fun b c hc => (by cases hc), fun id es h => ?_, ⟨fun _ _ h => (by cases h), fun _ _ _ _ h => (by cases h)⟩⟩
 ·rcases hB with hB | ⟨id', cs', e1, e2, e3, e4⟩ | ⟨id', r', e1, e2, e3, e4, e5⟩ | ⟨c, hc⟩ | ⟨x, hx⟩ | ⟨c, hc⟩
  ·exact hs.hB k hB
  ·rw [← e4]; exact hs.blk_lt e1 e2
  ·rw [← e5]; exact hs.row_lt e1 e2 e3
  ·exact (hs.stable.o k c hc).2.2.lt
  ·exact (hs.stable.i k x hx).2.1.lt
  ·exact (hs.rm k c hc).2.2.2.lt
 ·have hx := MemL.h_mem h
  obtain ⟨k1, k2⟩ := hf.h _ hx
  obtain ⟨g1, g2, ⟨vs, t, g3, g4, g5⟩, g6⟩ := hs.own k1 k2
  have hcl : ∀ c ∈ cs, ∀ i ∈ c.ids, m0.has i := ok.ch _ hx
  refine ⟨nb h, g2, ⟨vs, t, g3, by simpa using g4, fun j hj => un ?_ (hcl _ (getD_mem hj))⟩, fun c hc i hi => ok.live (hcl c hc i hi)⟩
  have := g5 j (by simpa using hj)
  rw [getD_lt (l := cs.map _) (by simpa using hj), List.getElem_map] at this
  rw [getD_lt hj]; exact this
 ·have k1 := hq h
  have hrow := hs.row _ _ k1
  cases r with
  | dead => trivial
  | live n sz e =>
   obtain ⟨h1, h2⟩ := hrow
   refine ⟨h1, fun c hc => ?_⟩
   obtain ⟨g1, g2, g3, g4, g5⟩ := h2 c hc
   exact ⟨g1, g2, nr h rfl (by show 0 < M.κ (f id); have : M.κ (f id) = c + 1 := hc; omega), g4, g5⟩
  | vec n sz e =>
   obtain ⟨h1, h2⟩ := hrow
   refine ⟨h1, fun c hc => ?_⟩
   obtain ⟨g1, g2, g3, g4, g5⟩ := h2 c hc
   exact ⟨g1, g2, nr h rfl (by show 0 < M.κ (f id); have : M.κ (f id) = c + 1 := hc; omega), g4, g5⟩
 ·have hx := MemL.h_mem h
  have hx' := MemL.h_mem h'
  obtain ⟨k1, k2⟩ := hf.h _ hx
  obtain ⟨k3, k4⟩ := hf.h _ hx'
  exact hs.inj _ _ _ _ k1 k3 k2 k4 fun e => hne (ig _ hx _ hx' e)
 ·have hx := MemL.q_mem h
  have hx' := MemL.q_mem h'
  exact hs.injq _ _ _ _ (hq h) (hq h') o o' k k' fun e => hne (jf _ hx _ hx' e)
 ·obtain ⟨k1, k2⟩ := hf.h _ (MemL.h_mem h)
  exact hs.injx _ _ _ _ k1 k2 (hq h') o k
 ·have hx := MemL.v_mem h
  obtain ⟨sz, e, q1, r1, r2, r4⟩ := hs.vc _ _ (hf.v _ hx)
  obtain ⟨y, hy, hyx⟩ := ok.vr _ hx
  have hyx' : y.1 = id := hyx
  have hqy := hf.q y hy
  rw [hyx'] at hqy
  rw [hqy, List.length_map] at q1
  have hy2 : y.2 = .vec es.length sz e := by simpa using q1
  have hcl : ∀ c ∈ es, ∀ i ∈ c.ids, m0.has i := ok.cv _ hx
  refine ⟨sz, e, ?_, fun p hp => ?_, fun p hp i hi => ok.live (hcl p hp i hi), fun c hc vs t fz hvs i j hi hj => ?_⟩
  ·have := ok.q_at hy; rw [hyx', hy2] at this; exact this
  ·have := r1 (p.ren f g) (List.mem_map.2 ⟨p, hp, rfl⟩)
   rw [ren_cells] at this
   refine ⟨by simpa using this.1, ?_⟩
   have h2 := this.2
   rw [List.all_map] at h2
   rw [List.all_eq_true] at h2 ⊢
   intro x hx
   have := h2 x hx
   simpa [ren_atom] using this
  ·have hg := r4 c hc vs t fz hvs i j (by simpa using hi) hj
   rw [getD_lt (l := es.map _) (by simpa using hi), List.getElem_map, ren_cells] at hg
   have hlen := (r1 ((es.getD i .any).ren f g) (List.mem_map.2 ⟨_, getD_mem hi, rfl⟩)).1
   rw [ren_cells, List.length_map] at hlen
   rw [getD_lt hi] at hlen ⊢
   have hjl : j < es[i].cells.length := by omega
   rw [getD_lt (l := es[i].cells.map _) (by simpa using hjl), List.getElem_map] at hg
   rw [getD_lt (l := es[i].cells) hjl]
   exact un hg fun k hk => hcl _ (List.getElem_mem hi) k (cells_ids (List.getElem_mem _) hk)
open Classical in
noncomputable def effM (M M1 : Maps) (m1 : MemL) (f g : Nat → Nat) : Maps where
 φ := fun id => if h : ∃ x ∈ m1.H, g x.1 = id then M1.φ h.choose.1 else M.φ id
 ψ := fun id => if h : ∃ x ∈ m1.R, f x.1 = id then M1.ψ h.choose.1 else M.ψ id
 κ := fun id => if h : ∃ x ∈ m1.R, f x.1 = id then M1.κ h.choose.1 else M.κ id
theorem effM_φ {M M1 : Maps} {x : Nat × List PV} (hx : x ∈ m1.H) (ig : ∀ x ∈ m1.H, ∀ y ∈ m1.H, g x.1 = g y.1 → x.1 = y.1) : (effM M M1 m1 f g).φ (g x.1) = M1.φ x.1 := by
 have h : ∃ y ∈ m1.H, g y.1 = g x.1 := ⟨x, hx, rfl⟩
 show (if h : ∃ y ∈ m1.H, g y.1 = g x.1 then M1.φ h.choose.1 else M.φ (g x.1)) = _
 rw [dif_pos h, ig _ h.choose_spec.1 _ hx h.choose_spec.2]
theorem effM_φn {M M1 : Maps} {id : Nat} (h : ¬ ∃ x ∈ m1.H, g x.1 = id) : (effM M M1 m1 f g).φ id = M.φ id := dif_neg h
theorem effM_ψ {M M1 : Maps} {x : Nat × Row} (hx : x ∈ m1.R) (jf : ∀ x ∈ m1.R, ∀ y ∈ m1.R, f x.1 = f y.1 → x.1 = y.1) : (effM M M1 m1 f g).ψ (f x.1) = M1.ψ x.1 ∧ (effM M M1 m1 f g).κ (f x.1) = M1.κ x.1 := by
 have h : ∃ y ∈ m1.R, f y.1 = f x.1 := ⟨x, hx, rfl⟩
 constructor
 ·show (if h : ∃ y ∈ m1.R, f y.1 = f x.1 then M1.ψ h.choose.1 else M.ψ (f x.1)) = _
  rw [dif_pos h, jf _ h.choose_spec.1 _ hx h.choose_spec.2]
 ·show (if h : ∃ y ∈ m1.R, f y.1 = f x.1 then M1.κ h.choose.1 else M.κ (f x.1)) = _
  rw [dif_pos h, jf _ h.choose_spec.1 _ hx h.choose_spec.2]
theorem effM_ψn {M M1 : Maps} {id : Nat} (h : ¬ ∃ x ∈ m1.R, f x.1 = id) : (effM M M1 m1 f g).ψ id = M.ψ id ∧ (effM M M1 m1 f g).κ id = M.κ id := ⟨dif_neg h, dif_neg h⟩
theorem Eff.call (hs : Sim B S M s a w) (he : Eff P fn args m0 r m1) (hf : FitsM m0 m1 f g s.m) {vs : List Value} (hl : vs.length = args.length) (hr : ∀ i, i < args.length → RepS S M s.m.q (vs.getD i undef) ((args.getD i .any).ren f g)) :
  Calls P fn ⟨vs⟩ w fun en w' => ∃ v S' M', en = .returned v ∧ Sim B S' M' (s.with (layM m1 f g s.m)) a w' ∧ RepS S' M' (layM m1 f g s.m).q v (r.ren f g) ∧ (∀ i ∈ (r.ren f g).ids, Live (layM m1 f g s.m) i) ∧ Ext B S S' w w' := by
 have h01 : ∀ x ∈ m0.H, ∃ y ∈ m1.H, y.1 = x.1 := fun x hx => he.kh (.b x.1) ⟨x, hx, rfl⟩
 have r01 : ∀ x ∈ m0.R, ∃ y ∈ m1.R, y.1 = x.1 := fun x hx => he.kh (.r x.1) ⟨x, hx, rfl⟩
 have ig0 : ∀ x ∈ m0.H, ∀ y ∈ m0.H, g x.1 = g y.1 → x.1 = y.1 := fun x hx y hy e => by
  obtain ⟨x', hx', ex⟩ := h01 x hx
  obtain ⟨y', hy', ey⟩ := h01 y hy
  rw [← ex, ← ey] at e ⊢; exact hf.ig _ hx' _ hy' e
 have jf0 : ∀ x ∈ m0.R, ∀ y ∈ m0.R, f x.1 = f y.1 → x.1 = y.1 := fun x hx y hy e => by
  obtain ⟨x', hx', ex⟩ := r01 x hx
  obtain ⟨y', hy', ey⟩ := r01 y hy
  rw [← ex, ← ey] at e ⊢; exact hf.jf _ hx' _ hy' e
 have hs0 := hs.small he.ok0 hf ig0 jf0
 refine (he.run _ S _ w vs hs0 hl fun i hi => ?_).mono fun en w' ⟨v, S', M1, e1, e2, hs1, hext, e5, e6⟩ => ?_
 ·refine (hr i hi).unren _ rfl (fun k _ => rfl) fun k hk => ⟨?_, rfl, rfl⟩
  obtain ⟨y, hy, rfl⟩ := he.ca _ (getD_mem hi) _ hk
  rw [hf.q y hy, he.ok0.q_at hy]
 obtain ⟨hle, hag, hbel⟩ := hext
 let M' := effM M M1 m1 f g
 let m' := layM m1 f g s.m
 have lh : ∀ x ∈ m1.H, m'.h (g x.1) = some (x.2.map (PV.ren f g)) ∧ m'.z (g x.1) = false := fun x hx =>
  ⟨upds_at (α := List PV) (β := Option (List PV)) (k := g) (F := fun x => some (x.2.map (PV.ren f g))) hx he.ok1.nh hf.ig, upds_at (α := List PV) (β := Bool) (k := g) (F := fun _ => false) hx he.ok1.nh hf.ig⟩
 have lhn : ∀ {id}, (¬ ∃ x ∈ m1.H, g x.1 = id) → m'.h id = s.m.h id ∧ m'.z id = s.m.z id := fun {id} h =>
  ⟨upds_off (α := List PV) (β := Option (List PV)) (k := g) (F := fun x => some (x.2.map (PV.ren f g))) fun x hx e => h ⟨x, hx, e⟩, upds_off (α := List PV) (β := Bool) (k := g) (F := fun _ => false) fun x hx e => h ⟨x, hx, e⟩⟩
 have lq : ∀ x ∈ m1.R, m'.q (f x.1) = some x.2 ∧ m'.v (f x.1) = (m1.hp.v x.1).map (List.map (PV.ren f g)) := fun x hx =>
  ⟨upds_at (α := Row) (β := Option Row) (k := f) (F := fun x => some x.2) hx he.ok1.nr hf.jf, upds_at (α := Row) (β := Option (List PV)) (k := f) (F := fun x => (m1.hp.v x.1).map (List.map (PV.ren f g))) hx he.ok1.nr hf.jf⟩
 have lqn : ∀ {id}, (¬ ∃ x ∈ m1.R, f x.1 = id) → m'.q id = s.m.q id ∧ m'.v id = s.m.v id := fun {id} h =>
  ⟨upds_off (α := Row) (β := Option Row) (k := f) (F := fun x => some x.2) fun x hx e => h ⟨x, hx, e⟩, upds_off (α := Row) (β := Option (List PV)) (k := f) (F := fun x => (m1.hp.v x.1).map (List.map (PV.ren f g))) fun x hx e => h ⟨x, hx, e⟩⟩
 have live_old : ∀ i, Live s.m i → Live m' i := fun i hi => by
  cases i with
  | b i =>
   show m'.h i ≠ none
   by_cases h : ∃ x ∈ m1.H, g x.1 = i
   ·obtain ⟨x, hx, rfl⟩ := h; rw [(lh x hx).1]; simp
   ·rw [(lhn h).1]; exact hi
  | r i =>
   show m'.q i ≠ none
   by_cases h : ∃ x ∈ m1.R, f x.1 = i
   ·obtain ⟨x, hx, rfl⟩ := h; rw [(lq x hx).1]; simp
   ·rw [(lqn h).1]; exact hi
 have live_new : ∀ i, m1.has i → Live m' (i.ren f g) := fun i hi => by
  cases i with
  | b i => obtain ⟨y, hy, rfl⟩ := hi; show m'.h (g y.1) ≠ none; rw [(lh y hy).1]; simp
  | r i => obtain ⟨y, hy, rfl⟩ := hi; show m'.q (f y.1) ≠ none; rw [(lq y hy).1]; simp
 have φ_old : ∀ id, s.m.h id ≠ none → M'.φ id = M.φ id := fun id hid => by
  by_cases h : ∃ x ∈ m1.H, g x.1 = id
  ·obtain ⟨x, hx, rfl⟩ := h
   refine (effM_φ hx hf.ig).trans ?_
   rcases hf.nh x hx with ⟨y, hy, e⟩ | h0
   ·have := e5 y hy; rw [e] at this; exact this
   ·exact absurd h0 hid
  ·exact effM_φn h
 have row_old : ∀ id, s.m.q id ≠ none → RowLe M M' id (s.m.q id) (m'.q id) := fun id hid => by
   by_cases h : ∃ x ∈ m1.R, f x.1 = id
   ·obtain ⟨x, hx, rfl⟩ := h
    rcases hf.nr x hx with ⟨y, hy, e⟩ | h0
    ·have h6 := e6 y hy
     rw [e] at h6
     have hqy := hf.q y hy
     have h0q := he.ok0.q_at hy
     rw [e] at hqy h0q
     rw [(lq x hx).1, hqy]
     rw [he.ok1.q_at hx, h0q] at h6
     obtain ⟨k1, k2⟩ := effM_ψ (M := M) (M1 := M1) hx hf.jf
     exact ⟨fun n sz e' h => (h6.l n sz e' h).imp (fun ⟨a1, a2, a3⟩ => ⟨a1, k2.trans a2, k1.trans a3⟩) id, fun n sz e' h => (h6.v n sz e' h).imp (fun ⟨e0, a1, a2, a3⟩ => ⟨e0, a1, k2.trans a2, k1.trans a3⟩) id⟩
    ·exact absurd h0 hid
   ·obtain ⟨k1, k2⟩ := effM_ψn (M := M) (M1 := M1) h
    exact .of_eq (lqn h).1 k2 k1
 have rep_old : ∀ v p, RepS S M s.m.q v p → (∀ i ∈ p.ids, Live s.m i) → RepS S' M' m'.q v p := fun v p rr hids =>
  rr.heap hle (fun id hid => φ_old id (hids _ hid)) (fun id hid => row_old id (hids _ hid))
 have rep_new : ∀ v p, RepS S' M1 m1.hp.q v p → (∀ i ∈ p.ids, m1.has i) → RepS S' M' m'.q v (p.ren f g) := fun v p rr hids =>
  rr.ren (fun i hi => by obtain ⟨y, hy, rfl⟩ := hids _ hi; exact effM_φ hy hf.ig) (fun i hi => by
   obtain ⟨y, hy, rfl⟩ := hids _ hi
   obtain ⟨k1, k2⟩ := effM_ψ (M := M) (M1 := M1) hy hf.jf
   exact ⟨by rw [(lq y hy).1, he.ok1.q_at hy], k2, k1⟩)
 have inB : ∀ {id cs}, s.m.h id = some cs → s.m.z id = false → (¬ ∃ x ∈ m1.H, g x.1 = id) → effB B M s.m m0 f g (M.φ id) := fun {id cs} h1 h2 h => .inr (.inl ⟨id, cs, h1, h2, fun x hx e => by
  obtain ⟨y, hy, ey⟩ := h01 x hx; exact h ⟨y, hy, by rw [ey]; exact e⟩, rfl⟩)
 have inR : ∀ {id r}, s.m.q id = some r → r.own = true → 0 < M.κ id → (¬ ∃ x ∈ m1.R, f x.1 = id) → effB B M s.m m0 f g (M.ψ id) := fun {id r} h1 h2 h3 h => .inr (.inr (.inl ⟨id, r, h1, h2, h3, fun x hx e => by
  obtain ⟨y, hy, ey⟩ := r01 x hx; exact h ⟨y, hy, by rw [ey]; exact e⟩, rfl⟩))
 have toB : ∀ {k}, B k → effB B M s.m m0 f g k := fun h => .inl h
 have nbk : ∀ {x}, x ∈ m1.H → ¬ effB B M s.m m0 f g (M1.φ x.1) := fun {x} hx => by
  have := hs1.blk x.1 x.2 (he.ok1.h_at hx)
  exact this.1
 have nrw : ∀ {x : Nat × Row}, x ∈ m1.R → x.2.own = true → 0 < M1.κ x.1 → ¬ effB B M s.m m0 f g (M1.ψ x.1) := fun {x} hx ho hk => by
  have hrow := hs1.row x.1 x.2 (he.ok1.q_at hx)
  obtain ⟨i, r⟩ := x
  cases r with
  | dead => cases ho
  | live n sz e => obtain ⟨_, h2⟩ := hrow; exact (h2 (M1.κ i - 1) (by show M1.κ i = _; simp only at hk; omega)).2.2.1
  | vec n sz e => obtain ⟨_, h2⟩ := hrow; exact (h2 (M1.κ i - 1) (by show M1.κ i = _; simp only at hk; omega)).2.2.1
 have hm' : ∀ {b c}, s.m.o b = some c → S'.m b = none := fun {b c} h => by rw [(hag b (.inr (.inr (.inr (.inl ⟨c, h⟩))))).2]; exact (hs.stable.o b c h).2.1
 refine ⟨v, S', M', e1, ⟨hs.defers, hs.hn, fun k hk => Nat.lt_of_lt_of_le (hs.hB k hk) hbel.size, ?_, fun i => rep_old _ _ (hs.fr i) (hs.ids i), fun i k hk => live_old k (hs.ids i k hk), fun id cs h => ?_, fun id r h => ?_, fun id id' cs cs' h h' z z' hne => ?_, fun id id' q1 q2 h h' o o' k k' hne => ?_, fun id id' cs q1 h z h' o k => ?_, fun b c hc => ?_, fun id es h => ?_, hs.pn.move rfl rfl live_old φ_old row_old⟩, rep_new _ _ e2 he.cr, fun i hi => ?_, hle, fun b hb => hag b (toB hb), hbel.mono fun k hk => toB hk⟩
 ·exact hs.stable.move hle (fun b c hc => hm' hc) hs1.stable.s (fun b c hc => hbel.block b (.inr (.inr (.inr (.inl ⟨c, hc⟩))))) (fun b x hx => hbel.block b (.inr (.inr (.inr (.inr (.inl ⟨x, hx⟩))))))
 ·have h : m'.h id = some cs := h
  show BlkOk B S' M' m' w' id cs (m'.z id)
  by_cases hg : ∃ x ∈ m1.H, g x.1 = id
  ·obtain ⟨x, hx, rfl⟩ := hg
   rw [(lh x hx).1] at h
   cases h
   rw [(lh x hx).2]
   have hb1 := hs1.blk x.1 x.2 (he.ok1.h_at hx)
   obtain ⟨g1, g2, ⟨us, t, g3, g4, g5⟩, g6⟩ := hb1
   have hφ : M'.φ (g x.1) = M1.φ x.1 := effM_φ hx hf.ig
   refine ⟨by rw [hφ]; exact fun hB => g1 (toB hB), fun o => by rw [hφ]; exact g2 o, ⟨us, t, by rw [hφ]; exact g3, by simpa using g4, fun j hj => ?_⟩, fun c hc i hi => ?_⟩
   ·simp only [List.length_map] at hj
    rw [getD_lt (l := x.2.map _) (by simpa using hj), List.getElem_map]
    have := g5 j hj
    rw [getD_lt (l := x.2) hj] at this
    exact rep_new _ _ this (he.ok1.ch x hx _ (List.getElem_mem hj))
   ·obtain ⟨c0, hc0, rfl⟩ := List.mem_map.1 hc
    rw [ren_ids] at hi
    obtain ⟨i0, hi0, rfl⟩ := List.mem_map.1 hi
    exact live_new i0 (he.ok1.ch x hx c0 hc0 i0 hi0)
  ·rw [(lhn hg).1] at h
   rw [(lhn hg).2]
   have hb := hs.blk id cs h
   have hφ : M'.φ id = M.φ id := effM_φn hg
   cases hz : s.m.z id with
   | true =>
    rw [hz] at hb
    obtain ⟨vals, hv⟩ := hb
    exact ⟨vals, fun j hj => ⟨by rw [hφ]; exact hle _ _ _ (hv j hj).1, (hv j hj).2.mono hle⟩⟩
   | false =>
    rw [hz] at hb
    obtain ⟨g1, g2, ⟨us, t, g3, g4, g5⟩, g6⟩ := hb
    have hin := inB h hz hg
    exact ⟨by rw [hφ]; exact g1, fun o => by rw [hφ, (hag _ hin).1]; exact g2 o, ⟨us, t, by rw [hφ, hbel.block _ hin]; exact g3, g4, fun j hj => rep_old _ _ (g5 j hj) (fun k hk => g6 _ (getD_mem hj) k hk)⟩, fun c hc k hk => live_old k (g6 c hc k hk)⟩
 ·have h : m'.q id = some r := h
  by_cases hg : ∃ x ∈ m1.R, f x.1 = id
  ·obtain ⟨x, hx, rfl⟩ := hg
   rw [(lq x hx).1] at h
   cases h
   obtain ⟨k1, k2⟩ := effM_ψ (M := M) (M1 := M1) hx hf.jf
   have hrow := hs1.row x.1 x.2 (he.ok1.q_at hx)
   obtain ⟨i, rw0⟩ := x
   cases rw0 with
   | dead => trivial
   | live n sz e =>
    obtain ⟨h1, h2⟩ := hrow
    refine ⟨fun h0 => h1 (by rw [← k2]; exact h0), fun c hc => ?_⟩
    obtain ⟨g1, g2, g3, g4, g5⟩ := h2 c (by rw [← k2]; exact hc)
    simp only [M', k1]
    exact ⟨g1, g2, fun hB => g3 (toB hB), g4, g5⟩
   | vec n sz e =>
    obtain ⟨h1, h2⟩ := hrow
    refine ⟨fun h0 => h1 (by rw [← k2]; exact h0), fun c hc => ?_⟩
    obtain ⟨g1, g2, g3, g4, g5⟩ := h2 c (by rw [← k2]; exact hc)
    simp only [M', k1]
    exact ⟨g1, g2, fun hB => g3 (toB hB), g4, g5⟩
  ·rw [(lqn hg).1] at h
   obtain ⟨k1, k2⟩ := effM_ψn (M := M) (M1 := M1) hg
   have hrow := hs.row id r h
   cases r with
   | dead => trivial
   | live n sz e =>
    obtain ⟨h1, h2⟩ := hrow
    refine ⟨fun h0 => h1 (by rw [← k2]; exact h0), fun c hc => ?_⟩
    have hc' : M.κ id = c + 1 := by rw [← k2]; exact hc
    obtain ⟨g1, g2, g3, g4, g5⟩ := h2 c hc'
    have hin := inR h rfl (by omega) hg
    simp only [M', k1, hbel.block _ hin]
    exact ⟨g1, g2, g3, g4, fun o ho => by rw [(hag _ hin).1]; exact g5 o ho⟩
   | vec n sz e =>
    obtain ⟨h1, h2⟩ := hrow
    refine ⟨fun h0 => h1 (by rw [← k2]; exact h0), fun c hc => ?_⟩
    have hc' : M.κ id = c + 1 := by rw [← k2]; exact hc
    obtain ⟨g1, g2, g3, g4, g5⟩ := h2 c hc'
    have hin := inR h rfl (by omega) hg
    simp only [M', k1, hbel.block _ hin]
    exact ⟨g1, g2, g3, g4, fun o => by rw [(hag _ hin).1]; exact g5 o⟩
 ·have h : m'.h id = some cs := h
  have h' : m'.h id' = some cs' := h'
  have z : m'.z id = false := z
  have z' : m'.z id' = false := z'
  by_cases hg : ∃ x ∈ m1.H, g x.1 = id
  ·obtain ⟨x, hx, rfl⟩ := hg
   have hφ : M'.φ (g x.1) = M1.φ x.1 := effM_φ hx hf.ig
   by_cases hg' : ∃ x ∈ m1.H, g x.1 = id'
   ·obtain ⟨y, hy, rfl⟩ := hg'
    have hφ' : M'.φ (g y.1) = M1.φ y.1 := effM_φ hy hf.ig
    rw [hφ, hφ']
    exact hs1.inj _ _ _ _ (he.ok1.h_at hx) (he.ok1.h_at hy) rfl rfl fun e => hne (by rw [e])
   ·rw [(lhn hg').1] at h'
    rw [(lhn hg').2] at z'
    have hφ' : M'.φ id' = M.φ id' := effM_φn hg'
    rw [hφ, hφ']
    exact fun e => nbk hx (by rw [e]; exact inB h' z' hg')
  ·rw [(lhn hg).1] at h
   rw [(lhn hg).2] at z
   have hφ : M'.φ id = M.φ id := effM_φn hg
   by_cases hg' : ∃ x ∈ m1.H, g x.1 = id'
   ·obtain ⟨y, hy, rfl⟩ := hg'
    have hφ' : M'.φ (g y.1) = M1.φ y.1 := effM_φ hy hf.ig
    rw [hφ, hφ']
    exact fun e => nbk hy (by rw [← e]; exact inB h z hg)
   ·rw [(lhn hg').1] at h'
    rw [(lhn hg').2] at z'
    have hφ' : M'.φ id' = M.φ id' := effM_φn hg'
    rw [hφ, hφ']
    exact hs.inj _ _ _ _ h h' z z' hne
 ·have h : m'.q id = some q1 := h
  have h' : m'.q id' = some q2 := h'
  by_cases hg : ∃ x ∈ m1.R, f x.1 = id
  ·obtain ⟨x, hx, rfl⟩ := hg
   rw [(lq x hx).1] at h
   cases h
   obtain ⟨k1, k2⟩ := effM_ψ (M := M) (M1 := M1) hx hf.jf
   have k : 0 < M1.κ x.1 := by rw [← k2]; exact k
   by_cases hg' : ∃ x ∈ m1.R, f x.1 = id'
   ·obtain ⟨y, hy, rfl⟩ := hg'
    rw [(lq y hy).1] at h'
    cases h'
    obtain ⟨k3, k4⟩ := effM_ψ (M := M) (M1 := M1) hy hf.jf
    have k' : 0 < M1.κ y.1 := by rw [← k4]; exact k'
    simp only [M', k1, k3]
    exact hs1.injq _ _ _ _ (he.ok1.q_at hx) (he.ok1.q_at hy) o o' k k' fun e => hne (by rw [e])
   ·rw [(lqn hg').1] at h'
    obtain ⟨k3, k4⟩ := effM_ψn (M := M) (M1 := M1) hg'
    have k' : 0 < M.κ id' := by rw [← k4]; exact k'
    simp only [M', k1, k3]
    exact fun e => nrw hx o k (by rw [e]; exact inR h' o' k' hg')
  ·rw [(lqn hg).1] at h
   obtain ⟨k1, k2⟩ := effM_ψn (M := M) (M1 := M1) hg
   have k : 0 < M.κ id := by rw [← k2]; exact k
   by_cases hg' : ∃ x ∈ m1.R, f x.1 = id'
   ·obtain ⟨y, hy, rfl⟩ := hg'
    rw [(lq y hy).1] at h'
    cases h'
    obtain ⟨k3, k4⟩ := effM_ψ (M := M) (M1 := M1) hy hf.jf
    have k' : 0 < M1.κ y.1 := by rw [← k4]; exact k'
    simp only [M', k1, k3]
    exact fun e => nrw hy o' k' (by rw [← e]; exact inR h o k hg)
   ·rw [(lqn hg').1] at h'
    obtain ⟨k3, k4⟩ := effM_ψn (M := M) (M1 := M1) hg'
    have k' : 0 < M.κ id' := by rw [← k4]; exact k'
    simp only [M', k1, k3]
    exact hs.injq _ _ _ _ h h' o o' k k' hne
 ·have h : m'.h id = some cs := h
  have z : m'.z id = false := z
  have h' : m'.q id' = some q1 := h'
  by_cases hg' : ∃ x ∈ m1.R, f x.1 = id'
  ·obtain ⟨y, hy, rfl⟩ := hg'
   rw [(lq y hy).1] at h'
   cases h'
   obtain ⟨k3, k4⟩ := effM_ψ (M := M) (M1 := M1) hy hf.jf
   have k : 0 < M1.κ y.1 := by rw [← k4]; exact k
   by_cases hg : ∃ x ∈ m1.H, g x.1 = id
   ·obtain ⟨x, hx, rfl⟩ := hg
    have hφ : M'.φ (g x.1) = M1.φ x.1 := effM_φ hx hf.ig
    rw [hφ]
    simp only [M', k3]
    exact hs1.injx _ _ _ _ (he.ok1.h_at hx) rfl (he.ok1.q_at hy) o k
   ·rw [(lhn hg).1] at h
    rw [(lhn hg).2] at z
    have hφ : M'.φ id = M.φ id := effM_φn hg
    rw [hφ]
    simp only [M', k3]
    exact fun e => nrw hy o k (by rw [← e]; exact inB h z hg)
  ·rw [(lqn hg').1] at h'
   obtain ⟨k3, k4⟩ := effM_ψn (M := M) (M1 := M1) hg'
   have k : 0 < M.κ id' := by rw [← k4]; exact k
   by_cases hg : ∃ x ∈ m1.H, g x.1 = id
   ·obtain ⟨x, hx, rfl⟩ := hg
    have hφ : M'.φ (g x.1) = M1.φ x.1 := effM_φ hx hf.ig
    rw [hφ]
    simp only [M', k3]
    exact fun e => nbk hx (by rw [e]; exact inR h' o k hg')
   ·rw [(lhn hg).1] at h
    rw [(lhn hg).2] at z
    have hφ : M'.φ id = M.φ id := effM_φn hg
    rw [hφ]
    simp only [M', k3]
    exact hs.injx _ _ _ _ h z h' o k
 ·have hc : s.m.om b = some c := hc
  obtain ⟨g1, g2, g3, g4⟩ := hs.rm b c hc
  have hin : effB B M s.m m0 f g b := .inr (.inr (.inr (.inr (.inr ⟨c, hc⟩))))
  exact ⟨g1, by rw [(hag b hin).2]; exact g2, g3, g4.move hle (hbel.block b hin) rep_old live_old⟩
 ·have h : m'.v id = some es := h
  by_cases hg : ∃ x ∈ m1.R, f x.1 = id
  ·obtain ⟨x, hx, rfl⟩ := hg
   rw [(lq x hx).2] at h
   cases hv : m1.hp.v x.1 with
   | none => rw [hv] at h; cases h
   | some es0 =>
    rw [hv] at h
    simp only [Option.map_some, Option.some.injEq] at h
    subst h
    have hxv := MemL.v_mem hv
    obtain ⟨k1, k2⟩ := effM_ψ (M := M) (M1 := M1) hx hf.jf
    obtain ⟨sz, e, q1, r1, r2, r4⟩ := hs1.vc x.1 es0 hv
    refine ⟨sz, e, ?_, fun p hp => ?_, fun p hp i hi => ?_, fun c hc us t fz hus i j hi hj => ?_⟩
    ·have : m1.hp.q x.1 = some x.2 := he.ok1.q_at hx
     have q1' : m1.hp.q x.1 = some (.vec es0.length sz e) := q1
     rw [this] at q1'
     have hq2 : m'.q (f x.1) = some x.2 := (lq x hx).1
     rw [List.length_map]
     exact hq2.trans q1'
    ·obtain ⟨p0, hp0, rfl⟩ := List.mem_map.1 hp
     obtain ⟨c1, c2⟩ := r1 p0 hp0
     rw [ren_cells]
     refine ⟨by simpa using c1, ?_⟩
     rw [List.all_map, List.all_eq_true]
     rw [List.all_eq_true] at c2
     intro y hy
     simpa [ren_atom] using c2 y hy
    ·obtain ⟨p0, hp0, rfl⟩ := List.mem_map.1 hp
     rw [ren_ids] at hi
     obtain ⟨i0, hi0, rfl⟩ := List.mem_map.1 hi
     exact live_new i0 (MemL.has_of (r2 p0 hp0 i0 hi0))
    ·have hc' : M1.κ x.1 = c + 1 := by rw [← k2]; exact hc
     have hus' : w'.heap[M1.ψ x.1]? = some (.cells ⟨us⟩ t fz) := by rw [← k1]; exact hus
     simp only [List.length_map] at hi
     have hlen := (r1 _ (getD_mem (d := .any) hi)).1
     have := r4 c hc' us t fz hus' i j hi hj
     rw [getD_lt (l := es0.map _) (by simpa using hi), List.getElem_map, ren_cells]
     rw [getD_lt hi] at hlen
     rw [getD_lt (l := es0) hi] at this
     have hjl : j < es0[i].cells.length := by omega
     rw [getD_lt (l := es0[i].cells.map _) (by simpa using hjl), List.getElem_map]
     rw [getD_lt (l := es0[i].cells) hjl] at this
     exact rep_new _ _ this fun k hk => MemL.has_of (r2 _ (List.getElem_mem hi) k (cells_ids (List.getElem_mem hjl) hk))
  ·rw [(lqn hg).2] at h
   obtain ⟨k1, k2⟩ := effM_ψn (M := M) (M1 := M1) hg
   obtain ⟨sz1, e1', q1⟩ := hs.vec_q h
   refine (hs.vc id es h).move (fun n sz e hq => ?_) k2 k1 (fun hk => hbel.block _ (inR q1 rfl hk hg)) rep_old live_old
   show m'.q id = _
   rw [(lqn hg).1]; exact hq
 ·rw [ren_ids] at hi
  obtain ⟨i0, hi0, rfl⟩ := List.mem_map.1 hi
  exact live_new i0 (he.cr i0 hi0)
end
end Go.PL
namespace Go.PL
open Go.RowKit
set_option linter.unusedVariables false
section
variable {P : Program} {B : Frm} {S : Stable} {M : Maps} {s : St} {a : Act} {w : World}
theorem Sim.reOm (hs : Sim B S M s a w) {om' : Nat → Option MapC} (h : ∀ b c, om' b = some c → ¬ B b ∧ S.m b = none ∧ s.m.o b = none ∧ MapAtR S M s.m w b c) : Sim B S M (s.with { s.m with om := om' }) a w := by
 have live : ∀ i, Live s.m i → Live { s.m with om := om' } i := fun i h => by cases i <;> exact h
 refine ⟨hs.defers, hs.hn, hs.hB, hs.stable, hs.fr, fun i k hk => live k (hs.ids i k hk), fun i cs hi => ?_, hs.row, hs.inj, hs.injq, hs.injx, fun b c hc => ?_, fun i es he => ?_, ⟨hs.pn.h, hs.pn.q⟩⟩
 ·have h' := hs.blk i cs hi
  show BlkOk _ _ _ _ _ _ _ (s.m.z i)
  cases hz : s.m.z i with
  | false =>
   rw [hz] at h'
   obtain ⟨g1, g2, g3, g6⟩ := h'
   exact ⟨g1, g2, g3, fun c hc k hk => live k (g6 c hc k hk)⟩
  | true => rw [hz] at h'; exact h'
 ·obtain ⟨g1, g2, g3, g4⟩ := h b c hc
  exact ⟨g1, g2, g3, g4.move (SLe.refl _) rfl (fun v p r _ => r) live⟩
 ·exact (hs.vc i es he).move (fun _ _ _ h => h) rfl rfl (fun _ => rfl) (fun v p r _ => r) live
theorem Sim.setOm (hs : Sim B S M s a w) {b : Nat} {c c' : MapC} {es' : List MapEntry} (hb : s.m.om b = some c) (g1 : es'.length = c'.ks.length) (g2 : c'.vs.length = c'.ks.length) (g3 : ∀ i, i < c'.ks.length → (es'.getD i default).born = i)
  (g4 : ∀ i, i < c'.ks.length → Rep S (es'.getD i default).key (c'.ks.getD i .any)) (g5 : ∀ i, i < c'.ks.length → RepS S M s.m.q (es'.getD i default).val (c'.vs.getD i .any)) (lv : ∀ p ∈ c'.vs, ∀ i ∈ p.ids, Live s.m i) :
  Sim B S M (s.with { s.m with om := upd s.m.om b (some c') }) a { w with heap := w.heap.setIfInBounds b (.map ⟨es'⟩ es'.length) } ∧ Ext B S S w { w with heap := w.heap.setIfInBounds b (.map ⟨es'⟩ es'.length) } := by
 obtain ⟨o1, o2, o3, ⟨es, e1, _⟩, _⟩ := hs.rm b c hb
 have hnc : ∀ vs t f, w.heap[b]? ≠ some (.cells vs t f) := fun vs t f h => by rw [e1] at h; cases h
 obtain ⟨w1, w2⟩ := setObj_at (o' := .map ⟨es'⟩ es'.length) e1
 have h1 := hs.reOm (om' := upd s.m.om b none) (fun k d hd => by
  by_cases e : b = k
  ·subst e; rw [upd_same] at hd; cases hd
  ·rw [upd_ne _ _ e] at hd; exact hs.rm k d hd)
 have h2 := h1.special (w' := { w with heap := w.heap.setIfInBounds b (.map ⟨es'⟩ es'.length) }) (o' := s.m.o) (it' := s.m.it) hnc w2 (by simp) ⟨stabS_special hs.stable.s hnc o2 w2, fun k d hd => by
   obtain ⟨q1, q2, q3⟩ := hs.stable.o k d hd
   exact ⟨q1, q2, q3.move (SLe.refl _) (w2 k (fun e => by subst e; rw [o3] at hd; cases hd))⟩, fun k x hx => by
   obtain ⟨q1, q2⟩ := hs.stable.i k x hx
   refine ⟨q1, ?_⟩
   unfold IterAt at q2 ⊢
   rw [w2 k (fun e => by subst e; have q3 := q2.1; rw [e1] at q3; cases q3)]
   exact q2⟩ (fun k d hd => by
   have hd : upd s.m.om b none k = some d := hd
   by_cases e : b = k
   ·subst e; rw [upd_same] at hd; cases hd
   ·rw [upd_ne _ _ e] at hd; exact ⟨Ne.symm e, (hs.rm k d hd).2.2.1⟩)
 have h3 := h2.reOm (om' := upd s.m.om b (some c')) (fun k d hd => by
  by_cases e : b = k
  ·subst e
   rw [upd_same] at hd
   cases hd
   exact ⟨o1, o2, o3, ⟨es', w1, g1, g2, g3, g4, g5⟩, lv⟩
  ·rw [upd_ne _ _ e] at hd
   exact h2.rm k d (by show upd s.m.om b none k = _; rw [upd_ne _ _ e]; exact hd))
 exact ⟨h3, SLe.refl _, fun _ _ => ⟨fun _ => rfl, rfl⟩, ⟨rfl, rfl, rfl, by simp, fun k hk => w2 k (fun e => o1 (e ▸ hk))⟩⟩
theorem Sim.oToOm (hs : Sim B S M s a w) {b : Nat} {c : MapC} (hb : s.m.o b = some c) : Sim B S M (s.with { s.m with o := upd s.m.o b none, om := upd s.m.om b (some c) }) a w := by
 obtain ⟨o1, o2, es, e1, e2, e3, e4, e5, e6⟩ := hs.stable.o b c hb
 have hnc : ∀ vs t f, w.heap[b]? ≠ some (.cells vs t f) := fun vs t f h => by rw [e1] at h; cases h
 have h1 := hs.special (w' := w) (o' := upd s.m.o b none) (it' := s.m.it) hnc (fun _ _ => rfl) rfl ⟨hs.stable.s, fun k d hd => by
   by_cases e : b = k
   ·subst e; rw [upd_same] at hd; cases hd
   ·rw [upd_ne _ _ e] at hd; exact hs.stable.o k d hd, hs.stable.i⟩ (fun k d hk => hs.om_ne hk hb)
 exact h1.reOm (om' := upd s.m.om b (some c)) (fun k d hd => by
  by_cases e : b = k
  ·subst e
   rw [upd_same] at hd
   cases hd
   refine ⟨o1, o2, upd_same _ _ _, ⟨es, e1, e2, e3, e4, e5, fun i hi => .clean (e6 i hi)⟩, fun p hp i hi => ?_⟩
   obtain ⟨j, hj, rfl⟩ := List.getElem_of_mem hp
   have := e6 j (by omega)
   rw [getD_lt hj] at this
   exact absurd hi (this.clean_ids i)
  ·rw [upd_ne _ _ e] at hd
   exact h1.rm k d hd)
theorem Sim.omToO (hs : Sim B S M s a w) {b : Nat} {c : MapC} (hb : s.m.om b = some c) (hc : ∀ p ∈ c.vs, p.clean = true) : Sim B S M (s.with { s.m with o := upd s.m.o b (some ⟨c.ks, c.vs.map PV.share⟩), om := upd s.m.om b none }) a w := by
 obtain ⟨o1, o2, o3, ⟨es, e1, e2, e3, e4, e5, e6⟩, lv⟩ := hs.rm b c hb
 have hnc : ∀ vs t f, w.heap[b]? ≠ some (.cells vs t f) := fun vs t f h => by rw [e1] at h; cases h
 have h1 := hs.reOm (om' := upd s.m.om b none) (fun k d hd => by
  by_cases e : b = k
  ·subst e; rw [upd_same] at hd; cases hd
  ·rw [upd_ne _ _ e] at hd; exact hs.rm k d hd)
 exact h1.special (w' := w) (o' := upd s.m.o b (some ⟨c.ks, c.vs.map PV.share⟩)) (it' := s.m.it) hnc (fun _ _ => rfl) rfl ⟨hs.stable.s, fun k d hd => by
   by_cases e : b = k
   ·subst e
    rw [upd_same] at hd
    cases hd
    refine ⟨o1, o2, es, e1, e2, by simpa using e3, e4, e5, fun i hi => ?_⟩
    have hi' : i < c.vs.length := by rw [e3]; exact hi
    have := (e6 i hi).share (hc _ (getD_mem hi'))
    rw [getD_lt (l := c.vs.map PV.share) (by simpa using hi'), List.getElem_map]
    rwa [getD_lt hi'] at this
   ·rw [upd_ne _ _ e] at hd; exact hs.stable.o k d hd, hs.stable.i⟩ (fun k d hd => by
   have hd : upd s.m.om b none k = some d := hd
   by_cases e : b = k
   ·subst e; rw [upd_same] at hd; cases hd
   ·rw [upd_ne _ _ e] at hd; exact ⟨Ne.symm e, by rw [upd_ne _ _ e]; exact (hs.rm k d hd).2.2.1⟩)
def entV (z : PV) (c : MapC) : Option Nat → PV
 | some j => .tup [c.vs.getD j .any, .int .i64 (j : Int)]
 | none => .tup [z, .int .i64 (c.ks.length : Int)]
def entC (z : PV) (cs : List PV) (c : MapC) : Option Nat → MapC
 | some _ => c
 | none => ⟨c.ks ++ [.agg (PV.shareL cs)], c.vs ++ [z]⟩
theorem om_entry (hs : Sim B S M s a w) {t : TypeId} {b : Nat} {c : MapC} {ls : List Leaf} {z : PV} {v : Value} {cs : List PV} {r : Option Nat} (hb : s.m.om b = some c) (h1 : tmap P t = some (ls, z)) (hv : RepS S M s.m.q v (.agg cs)) (hf : findP ls cs c.ks 0 = some r) (hlen : cs.length = ls.length) (hc1 : PV.cleanL cs = true) :
  ∃ u w', (Instr.mapEntry t (.map (some b)) v).run P w = .ok u w' ∧ Sim B S M (s.with { s.m with om := upd s.m.om b (some (entC z cs c r)) }) a w' ∧ RepS S M s.m.q u (entV z c r) ∧ Ext B S S w w' ∧ ∀ i ∈ (entV z c r).ids, Live s.m i := by
 obtain ⟨kt, et, fs, i, zv, t1, t2, t3, t4, t5, rfl, t6⟩ := tmap_spec h1
 obtain ⟨o1, o2, o3, ⟨es, e1, e2, e3, e4, e5, e6⟩, lv⟩ := hs.rm b c hb
 obtain ⟨vs, rfl, hl, hrv⟩ := hv.agg_inv
 have ht : tagg P kt = true := by simp [tagg, t2]
 have hg := MapKept.run_getObj_map (P := P) e1
 have hck : (Instr.checkKey false 10000 kt (.agg ⟨vs⟩)).run P w = .ok () w := run_checkKey_key (vs := vs) t2 (fun f hf => by rw [hl, hlen]; exact t6 f hf) false 9997 w
 obtain ⟨f1, f2⟩ := find_ok (S := S) (M := M) (q := s.m.q) t3 ht ⟨hl, hrv⟩ w es c.ks 0 _ e2 e5 hf
 cases r with
 | some j =>
  obtain ⟨_, g2, ds, g3, g4⟩ := f2 j rfl
  have hj : j < c.ks.length := by omega
  rw [Nat.sub_zero] at g3
  have hkj := e5 j hj
  rw [g3] at hkj
  obtain ⟨us, hus, hul, hru⟩ := (RepS.clean (S := S) (M := M) (q := s.m.q) hkj).agg_inv
  obtain ⟨hsame, hbits⟩ := eqLeaves_same g4 ⟨hl, hrv⟩ ⟨hul, hru⟩
  subst hsame
  have hjl : j < es.length := by omega
  have hkey : (es.getD j default).key = .agg ⟨vs⟩ := hus
  have hsb : Instr.sameBits 10000 (.agg ⟨vs⟩) (.agg ⟨vs⟩) = true := by
   simp only [Instr.sameBits, BEq.rfl, Bool.true_and]
   rw [List.all_eq_true]
   rintro ⟨p, q⟩ hpq
   rw [List.zip_eq_zipWith] at hpq
   simp only at hpq ⊢
   obtain ⟨n, hn, hpn⟩ := List.getElem_of_mem hpq
   simp only [List.getElem_zipWith] at hpn
   cases hpn
   exact hbits _ (List.getElem_mem _) _
  have hfk : (Instr.findKey kt (.agg ⟨vs⟩) es).run P w = .ok (some (j, (es.getD j default).val)) w := by
   rw [run_findKey_eq w (by rw [t2]) (.agg ⟨vs⟩) es]; simpa using f1
  have hej : (⟨es⟩ : Array MapEntry)[j]? = some (es.getD j default) := by
   rw [getD_lt hjl]; simp [hjl]
  have hmod : (⟨es⟩ : Array MapEntry).modify j (fun e => { e with key := .agg ⟨vs⟩ }) = ⟨es⟩ := by
   apply Array.ext'
   apply List.ext_getElem?
   intro n
   rw [Array.getElem?_toList, Array.getElem?_modify]
   by_cases e : j = n
   ·subst e
    have hk2 : (es[j]).key = .agg ⟨vs⟩ := by rw [getD_lt hjl] at hkey; exact hkey
    simp [hjl, ← hk2]
   ·simp [e]
  have hborn := e4 j hj
  have hrun : (Instr.mapEntry t (.map (some b)) (.agg ⟨vs⟩)).run P w = .ok (.tuple #[(es.getD j default).val, .int .i64 (j : Int)]) { w with heap := w.heap.setIfInBounds b (.map ⟨es⟩ es.length) } := by
   have hks : (Instr.keyThatStays (.agg ⟨vs⟩) (.agg ⟨vs⟩)).run P w = .ok (.agg ⟨vs⟩) w := by simp [Instr.keyThatStays, hsb]
   simp only [Instr.mapEntry, Sem.run_bind, run_underlying t1, Result.andThen_ok, hg, hck, hfk, hej, Option.map_some, Option.getD_some, hkey, hks, hmod, hborn, MapKept.run_setObj_map _ e1]
   simp [goInt]
  obtain ⟨k1, k2⟩ := hs.setOm (c' := c) hb e2 e3 e4 e5 e6 lv
  have hjv : j < c.vs.length := by omega
  refine ⟨_, _, hrun, k1, .tup [_, _] [_, _] rfl (fun i hi => ?_), k2, fun i hi => ?_⟩
  ·match i, hi with
   | 0, _ => exact e6 j hj
   | 1, _ => exact .clean (.int _ _)
  ·simp only [entV, PV.ids, PV.idsL, List.append_nil] at hi
   exact lv _ (getD_mem hjv) i hi
 | none =>
  have hfk : (Instr.findKey kt (.agg ⟨vs⟩) es).run P w = .ok none w := by
   rw [run_findKey_eq w (by rw [t2]) (.agg ⟨vs⟩) es]; simpa using f1
  have hz : (zeroValue et).run P w = .ok zv w := by simp [zeroValue, run_inf t4, t5]
  have hrun : (Instr.mapEntry t (.map (some b)) (.agg ⟨vs⟩)).run P w = .ok (.tuple #[zv, .int .i64 (es.length : Int)]) { w with heap := w.heap.setIfInBounds b (.map ⟨es ++ [{ key := .agg ⟨vs⟩, val := zv, born := es.length }]⟩ (es.length + 1)) } := by
   simp only [Instr.mapEntry, Sem.run_bind, run_underlying t1, Result.andThen_ok, hg, hck, hfk, hz, List.push_toArray, MapKept.run_setObj_map _ e1]
   simp [goInt]
  have hget : ∀ i, i < c.ks.length + 1 → (es ++ [({ key := .agg ⟨vs⟩, val := zv, born := es.length } : MapEntry)]).getD i default = if i < c.ks.length then es.getD i default else { key := .agg ⟨vs⟩, val := zv, born := es.length } := fun i hi => by
   by_cases e : i < c.ks.length
   ·rw [if_pos e, getD_append_left (by omega)]
   ·rw [if_neg e, getD_append_right (by omega)]
    have : i - es.length = 0 := by omega
    simp [this]
  have hkc : Rep S (.agg ⟨vs⟩) (.agg (PV.shareL cs)) := (RepS.agg (S := S) (M := M) (q := s.m.q) vs cs hl hrv).share hc1
  obtain ⟨k1, k2⟩ := hs.setOm (b := b) (c := c) (c' := ⟨c.ks ++ [.agg (PV.shareL cs)], c.vs ++ [ofVal zv]⟩) (es' := es ++ [{ key := .agg ⟨vs⟩, val := zv, born := es.length }]) hb (by simp [e2]) (by simp [e3]) (fun i hi => by
    simp only [List.length_append, List.length_cons, List.length_nil] at hi
    rw [hget i (by omega)]
    split
    ·rename_i e; exact e4 i e
    ·show es.length = i; omega) (fun i hi => by
    simp only [List.length_append, List.length_cons, List.length_nil] at hi
    rw [hget i (by omega)]
    show Rep S _ ((c.ks ++ [PV.agg (PV.shareL cs)]).getD i .any)
    split
    ·rename_i e; rw [getD_append_left e]; exact e5 i e
    ·rename_i e
     rw [getD_append_right (by omega)]
     have : i - c.ks.length = 0 := by omega
     simpa [this] using hkc) (fun i hi => by
    simp only [List.length_append, List.length_cons, List.length_nil] at hi
    rw [hget i (by omega)]
    show RepS S M s.m.q _ ((c.vs ++ [ofVal zv]).getD i .any)
    split
    ·rename_i e; rw [getD_append_left (by omega)]; exact e6 i e
    ·rename_i e
     rw [getD_append_right (by omega)]
     have : i - c.vs.length = 0 := by omega
     simpa [this] using RepS.clean (rep_ofVal S zv)) (fun p hp i hi => by
    rcases List.mem_append.1 hp with hp | hp
    ·exact lv p hp i hi
    ·simp only [List.mem_singleton] at hp
     subst hp
     rw [ids_ofVal] at hi; cases hi)
  refine ⟨_, _, hrun, by simpa [entC] using k1, .tup [_, _] [_, _] rfl (fun i hi => ?_), by simpa using k2, fun i hi => ?_⟩
  ·match i, hi with
   | 0, _ => exact .clean (rep_ofVal S zv)
   | 1, _ => rw [← e2]; exact .clean (.int _ _)
  ·simp only [entV, PV.ids, PV.idsL, List.append_nil, ids_ofVal] at hi
   cases hi
theorem om_store (hs : Sim B S M s a w) {t : TypeId} {b : Nat} {c : MapC} {v : Value} {p : PV} {k : Nat} (hb : s.m.om b = some c) (hv : RepS S M s.m.q v p) (hid : ∀ i ∈ p.ids, Live s.m i) (hk : k < c.ks.length) :
  ∃ w', (Instr.entryStore t (.map (some b)) (.int .i64 (k : Int)) v).run P w = .ok () w' ∧ Sim B S M (s.with { s.m with om := upd s.m.om b (some ⟨c.ks, c.vs.set k p⟩) }) a w' ∧ Ext B S S w w' := by
 obtain ⟨o1, o2, o3, ⟨es, e1, e2, e3, e4, e5, e6⟩, lv⟩ := hs.rm b c hb
 have hg := MapKept.run_getObj_map (P := P) e1
 have hkl : k < es.length := by omega
 have hfind : (⟨es⟩ : Array MapEntry).findIdx? (fun e => (e.born : Int) == (k : Int)) = some k := by
  rw [List.findIdx?_toArray, List.findIdx?_eq_some_iff_getElem]
  refine ⟨hkl, ?_, fun j hj => ?_⟩
  ·have := e4 k hk
   rw [getD_lt hkl] at this
   simp [this]
  ·have := e4 j (by omega)
   rw [getD_lt (by omega)] at this
   simp only [this, beq_iff_eq]
   omega
 have hmod : (⟨es⟩ : Array MapEntry).modify k (fun e => { e with val := v }) = ⟨es.set k { es.getD k default with val := v }⟩ := by
  apply Array.ext'
  apply List.ext_getElem?
  intro n
  rw [Array.getElem?_toList, Array.getElem?_modify]
  simp only [List.getElem?_set]
  by_cases e : k = n
  ·subst e; simp [hkl, getD_lt hkl]
  ·simp [e]
 have hrun : (Instr.entryStore t (.map (some b)) (.int .i64 (k : Int)) v).run P w = .ok () { w with heap := w.heap.setIfInBounds b (.map ⟨es.set k { es.getD k default with val := v }⟩ es.length) } := by
  simp only [Instr.entryStore, Sem.run_bind, Result.andThen_ok, hg]
  have ha : (asInt (.int .i64 (k : Int))).run P w = .ok (k : Int) w := by simp [asInt, asIntOf]
  simp only [ha, Result.andThen_ok, hfind, hmod]
  exact MapKept.run_setObj_map _ e1
 have hget : ∀ i, i < c.ks.length → (es.set k { es.getD k default with val := v }).getD i default = if i = k then { es.getD k default with val := v } else es.getD i default := fun i hi => by
  rw [getD_lt (by simp; omega), List.getElem_set]
  by_cases e : k = i
  ·subst e; simp
  ·rw [if_neg e, if_neg (Ne.symm e)]; exact (getD_lt (by omega)).symm
 obtain ⟨k1, k2⟩ := hs.setOm (b := b) (c := c) (c' := ⟨c.ks, c.vs.set k p⟩) (es' := es.set k { es.getD k default with val := v }) hb (by simpa using e2) (by simp [e3]) (fun i hi => by
   rw [hget i hi]
   split
   ·rename_i e; subst e; exact e4 i hi
   ·exact e4 i hi) (fun i hi => by
   rw [hget i hi]
   split
   ·rename_i e; subst e; exact e5 i hi
   ·exact e5 i hi) (fun i hi => by
   rw [hget i hi]
   have hi : i < c.ks.length := hi
   have hgv : (c.vs.set k p).getD i .any = if i = k then p else c.vs.getD i .any := by
    rw [getD_lt (by simp; omega), List.getElem_set]
    by_cases e : k = i
    ·subst e; simp
    ·rw [if_neg e, if_neg (Ne.symm e)]; exact (getD_lt (by omega)).symm
   show RepS S M s.m.q _ ((c.vs.set k p).getD i .any)
   rw [hgv]
   split
   ·exact hv
   ·exact e6 i hi) (fun x hx i hi => by
   rcases List.mem_or_eq_of_mem_set hx with hx | rfl
   ·exact lv x hx i hi
   ·exact hid i hi)
 rw [List.length_set] at k1 k2
 exact ⟨_, hrun, k1, k2⟩
end
end Go.PL
namespace Go.PL
open Go.RowKit
set_option linter.unusedVariables false
mutual
def PV.nomap : PV → Bool
 | .rmap _ _ => false
 | .sl _ es => PV.nomapL es
 | .rptr cs => PV.nomapL cs
 | .agg cs => PV.nomapL cs
 | .tup cs => PV.nomapL cs
 | .fn _ cs => PV.nomapL cs
 | _ => true
def PV.nomapL : List PV → Bool
 | [] => true
 | c :: cs => PV.nomap c && PV.nomapL cs
end
mutual
def PV.shut (o : Nat → Option MapC) : PV → PV
 | .mref b => match o b with
  | some c => .rmap c.ks c.vs
  | none => .mref b
 | .rptr cs => .rptr (PV.sealL o cs)
 | .agg cs => .agg (PV.sealL o cs)
 | .tup cs => .tup (PV.sealL o cs)
 | .fn f cs => .fn f (PV.sealL o cs)
 | p => p
def PV.sealL (o : Nat → Option MapC) : List PV → List PV
 | [] => []
 | c :: cs => PV.shut o c :: PV.sealL o cs
end
theorem nomapL_iff : ∀ {cs : List PV}, PV.nomapL cs = true ↔ ∀ c ∈ cs, c.nomap = true
 | [] => by simp [PV.nomapL]
 | c :: cs => by simp [PV.nomapL, nomapL_iff (cs := cs)]
theorem nomapL_getD {cs : List PV} (h : PV.nomapL cs = true) (i : Nat) : (cs.getD i .any).nomap = true := by
 by_cases hi : i < cs.length
 ·exact nomapL_iff.1 h _ (getD_mem hi)
 ·rw [getD_ge (by omega)]; rfl
theorem nomap_cells {p : PV} (h : p.nomap = true) (j : Nat) : (p.cells.getD j .any).nomap = true := by
 cases p with
 | agg cs => exact nomapL_getD (cs := cs) (by simpa [PV.nomap] using h) j
 | _ =>
  simp only [PV.cells]
  cases j with
  | zero => simpa using h
  | succ j => simp [PV.nomap]
theorem sealL_length (o : Nat → Option MapC) : ∀ (cs : List PV), (PV.sealL o cs).length = cs.length
 | [] => rfl
 | c :: cs => by simp [PV.sealL, sealL_length o cs]
theorem sealL_getD (o : Nat → Option MapC) : ∀ (cs : List PV) (i : Nat), i < cs.length → (PV.sealL o cs).getD i .any = (cs.getD i .any).shut o
 | [], i, h => by simp at h
 | c :: cs, 0, _ => by simp [PV.sealL]
 | c :: cs, i + 1, h => by simpa [PV.sealL] using sealL_getD o cs i (by simpa using h)
theorem Rep.cells_only {S S' : Stable} (h : S'.c = S.c) {v : Value} {p : PV} (r : Rep S v p) (hn : p.nomap = true) : Rep S' v p := by
 induction r with
 | any v => exact .any v
 | int k n => exact .int k n
 | bool b => exact .bool b
 | str l => exact .str l
 | flt k b => exact .flt k b
 | cpx k a b => exact .cpx k a b
 | agg vs cs hl _ ih => exact .agg vs cs hl (fun i hi => ih i hi (nomapL_getD hn i))
 | tup vs cs hl _ ih => exact .tup vs cs hl (fun i hi => ih i hi (nomapL_getD hn i))
 | sl0 a cap => exact .sl0 a cap
 | slnil => exact .slnil
 | sl b o cap sz es vals hsz hcap hS _ ih => exact .sl b o cap sz es vals hsz hcap (fun i j hi hj => by rw [h]; exact hS i j hi hj) (fun i j hi hj => ih i j hi hj (nomap_cells (nomapL_getD hn i) j))
 | rptr b o cs vals hS _ ih => exact .rptr b o cs vals (fun j hj => by rw [h]; exact hS j hj) (fun j hj => ih j hj (nomapL_getD hn j))
 | nilp => exact .nilp
 | nilfn => exact .nilfn
 | nilmap => exact .nilmap
 | mref b => exact .mref b
 | iptr b => exact .iptr b
 | rmap b es ks vs hS hk hv hb _ _ ihK ihV => simp [PV.nomap] at hn
 | fn f vs cs hl _ ih => exact .fn f vs cs hl (fun i hi => ih i hi (nomapL_getD hn i))
def sealS (S : Stable) (w : World) (o : Nat → Option MapC) : Stable :=
 ⟨S.c, fun b => match o b with
  | some _ => (match w.heap[b]? with | some (.map es _) => some es.toList | _ => none)
  | none => S.m b⟩
section
variable {P : Program} {B : Frm} {S : Stable} {M : Maps} {s : St} {a : Act} {w : World} {o : Nat → Option MapC} {it : Nat → Option IterC}
theorem sealS_at (hs : Stab B S w o it) {b : Nat} {c : MapC} (h : o b = some c) : ∃ es, (sealS S w o).m b = some es ∧ w.heap[b]? = some (.map ⟨es⟩ es.length) ∧ es.length = c.ks.length ∧ c.vs.length = c.ks.length ∧ (∀ i, i < c.ks.length → (es.getD i default).born = i) ∧
  (∀ i, i < c.ks.length → Rep S (es.getD i default).key (c.ks.getD i .any)) ∧ (∀ i, i < c.ks.length → Rep S (es.getD i default).val (c.vs.getD i .any)) := by
 obtain ⟨_, _, es, h1, h2⟩ := hs.o b c h
 exact ⟨es, by simp [sealS, h, h1], h1, h2⟩
theorem sealS_le (hs : Stab B S w o it) : SLe S (sealS S w o) := by
 refine ⟨fun _ _ _ h => h, fun b es h => ?_⟩
 cases ho : o b with
 | some c => rw [(hs.o b c ho).2.1] at h; cases h
 | none => simpa [sealS, ho] using h
theorem sealS_stab (hs : Stab B S w o it) : StabS (sealS S w o) w := by
 refine ⟨hs.s.c, fun b es h => ?_⟩
 cases ho : o b with
 | some c =>
  obtain ⟨es', h1, h2, _⟩ := sealS_at hs ho
  rw [h1] at h
  cases h
  exact h2
 | none => simp [sealS, ho] at h; exact hs.s.m b es h
theorem Rep.shut (hs : Stab B S w o it) {v : Value} {p : PV} (r : Rep S v p) : Rep (sealS S w o) v (p.shut o) := by
 have hle := sealS_le hs
 induction r with
 | agg vs cs hl _ ih => exact .agg vs _ (by rw [sealL_length]; exact hl) (fun i hi => by rw [sealL_length] at hi; rw [sealL_getD o cs i hi]; exact ih i hi)
 | tup vs cs hl _ ih => exact .tup vs _ (by rw [sealL_length]; exact hl) (fun i hi => by rw [sealL_length] at hi; rw [sealL_getD o cs i hi]; exact ih i hi)
 | fn f vs cs hl _ ih => exact .fn f vs _ (by rw [sealL_length]; exact hl) (fun i hi => by rw [sealL_length] at hi; rw [sealL_getD o cs i hi]; exact ih i hi)
 | any v => exact .any v
 | int k n => exact .int k n
 | bool b => exact .bool b
 | str l => exact .str l
 | flt k b => exact .flt k b
 | cpx k a b => exact .cpx k a b
 | sl0 a cap => exact .sl0 a cap
 | slnil => exact .slnil
 | sl b o' cap sz es vals h1 h2 h3 h4 _ => exact (Rep.sl b o' cap sz es vals h1 h2 h3 h4).mono hle
 | rptr b o' cs vals h1 h2 ih =>
  refine .rptr b o' _ vals (fun j hj => ?_) (fun j hj => ?_)
  ·rw [sealL_length] at hj; exact h1 j hj
  ·rw [sealL_length] at hj; rw [sealL_getD o cs j hj]; exact ih j hj
 | nilp => exact .nilp
 | nilfn => exact .nilfn
 | nilmap => exact .nilmap
 | iptr b => exact .iptr b
 | mref b =>
  unfold PV.shut
  cases ho : o b with
  | none => exact .mref b
  | some c =>
   obtain ⟨es, h1, h2, h3, h4, h5, h6, h7⟩ := sealS_at hs ho
   exact .rmap b es c.ks c.vs h1 h3 h4 h5 (fun i hi => (h6 i hi).mono hle) (fun i hi => (h7 i hi).mono hle)
 | rmap b es ks vs h1 h2 h3 h4 h5 h6 _ _ => exact (Rep.rmap b es ks vs h1 h2 h3 h4 h5 h6).mono hle
end
def Wr (P : Program) (f : FuncId) (args : Nat → List PV) (c : MapC) (r : PV) (c' : MapC) : Prop :=
 Callable P f ∧ r.dids = [] ∧ ∀ (b : Nat) (w : World) (S : Stable) (vs : List Value), StabS S w → S.m b = none → MapAt S w b c → vs.length = (args b).length → (∀ i, i < (args b).length → Rep S (vs.getD i undef) ((args b).getD i .any)) →
  Calls P f ⟨vs⟩ w fun e w' => ∃ v S', e = .returned v ∧ Rep S' v r ∧ StabS S' w' ∧ SLe S S' ∧ (∀ k, k < w.heap.size → k ≠ b → (∀ o, S' k o = S k o) ∧ S'.m k = S.m k) ∧ S'.m b = none ∧ MapAt S' w' b c' ∧ BelowF (fun k => k < w.heap.size ∧ k ≠ b) w w'
def Mk (P : Program) (f : FuncId) (args : List PV) (r : Nat → PV) (c : MapC) : Prop :=
 Callable P f ∧ (∀ b, (r b).dids = []) ∧ ∀ (w : World) (S : Stable) (vs : List Value), StabS S w → vs.length = args.length → (∀ i, i < args.length → Rep S (vs.getD i undef) (args.getD i .any)) →
  Calls P f ⟨vs⟩ w fun e w' => ∃ v S' b, e = .returned v ∧ w.heap.size ≤ b ∧ Rep S' v (r b) ∧ StabS S' w' ∧ SLe S S' ∧ (∀ k, k < w.heap.size → (∀ o, S' k o = S k o) ∧ S'.m k = S.m k) ∧ S'.m b = none ∧ MapAt S' w' b c ∧ Below w.heap.size w w'
def Xt (P : Program) (f : FuncId) (args : List PV) (r : PV) : Prop :=
 ∀ (w : World) (S : Stable) (vs : List Value), vs.length = args.length → (∀ i, i < args.length → Rep S (vs.getD i undef) (args.getD i .any)) → ∃ v, Rep S v r ∧ (callFunc f ⟨vs⟩).run P w = .ok (.value v) w
def Rw (P : Program) (f : FuncId) (args : List PV) (r : Nat → PV) (n sz : Nat) (e : TypeId) : Prop :=
 Callable P f ∧ (∀ d, ∀ i ∈ (r d).ids, i = .r d) ∧ ∀ (w : World) (S : Stable) (vs : List Value), StabS S w → vs.length = args.length → (∀ i, i < args.length → Rep S (vs.getD i undef) (args.getD i .any)) →
  Calls P f ⟨vs⟩ w fun en w' => ∃ v S' κ ψ, en = .returned v ∧ (∀ (d : Nat) (M : Maps) (q : Rows), M.κ d = κ → M.ψ d = ψ → q d = some (.live n sz e) → RepS S' M q v (r d)) ∧
   RowOk (fun k => k < w.heap.size) S' ⟨id, fun _ => ψ, fun _ => κ⟩ w' 0 (.live n sz e) ∧ StabS S' w' ∧ SLe S S' ∧ (∀ k, k < w.heap.size → (∀ o, S' k o = S k o) ∧ S'.m k = S.m k) ∧ Below w.heap.size w w'
def callX (P : Program) (g : FuncId) (args : List PV) (m : Hp) (K : PV → Hp → Prop) : Prop :=
 (∃ r, Pure P g (PV.sealL m.o args) r ∧ r.nomap = true ∧ K r m) ∨
 (∃ b c A r c', m.o b = some c ∧ args = A b ∧ Wr P g A c r c' ∧ K r { m with o := upd m.o b (some c') }) ∨
 (∃ r c, Mk P g args r c ∧ ∀ b, m.o b = none → K (r b) { m with o := upd m.o b (some c) }) ∨
 (∃ r, Xt P g args r ∧ K r m) ∨
 (∃ r n sz e d, Rw P g args r n sz e ∧ m.q d = none ∧ K (r d) (m.setq d (.live n sz e)))
def callE (P : Program) (g : FuncId) (args : List PV) (m : Hp) (K : PV → Hp → Prop) : Prop :=
 ∃ args0 m0 r m1 f' g', Eff P g args0 m0 r m1 ∧ FitsM m0 m1 f' g' m ∧ args = args0.map (PV.ren f' g') ∧ K (r.ren f' g') (layM m1 f' g' m)
def isVecs : List PV → Bool
 | .vsl _ _ _ :: _ => true
 | _ => false
def vmB (dst : Option Nat) (m : Hp) : Bool :=
 match dst with
 | some d => m.vm d
 | none => false
def vApp1 (x y : PV) (d : Nat) (ei : EInfo) (ys : List PV) (m : Hp) (K : PV → Hp → Prop) : Prop :=
 match x with
 | .vsl id n sz => match m.v id with
  | some es => es.length = n ∧ sz = ei.size ∧ m.q id = some (.vec n sz ei.e) ∧ (d = id ∨ m.q d = none) ∧ vsrcOk y m ys ei.size [id, d] ∧ (∀ p ∈ es ++ ys, .r id ∉ p.ids) ∧ Room (n + ys.length) ei.bytes ∧
    K (.vsl d (n + ys.length) sz) (appM m id d (n + ys.length) sz ei.e (es ++ ys))
  | none => False
 | .sl .nil [] => m.q d = none ∧ vsrcOk y m ys ei.size [d] ∧ (∀ p ∈ ys, .r d ∉ p.ids) ∧ Room ys.length ei.bytes ∧ K (.vsl d ys.length ei.size) { m.setq d (.vec ys.length ei.size ei.e) with v := upd m.v d (some ys) }
 | _ => False
def vApp (P : Program) (dst : Option Nat) (ts : List TypeId) (xs : List PV) (m : Hp) (K : PV → Hp → Prop) : Prop :=
 match dst, ts, xs with
 | some d, [t, tx], [x, y] => match telem P t, appendedV P tx y m with
  | some ei, some ys => (∀ p ∈ ys, p.cells.length = ei.size ∧ p.cells.all PV.atom = true) ∧ vApp1 x y d ei ys m K
  | _, _ => False
 | _, _, _ => False
def vBld (P : Program) (dst : Option Nat) (t : TypeId) (len : Nat) (parts : List (Nat × PV)) (m : Hp) (K : PV → Hp → Prop) : Prop :=
 match dst, telem P t with
 | some d, some ei => m.q d = none ∧ len = parts.length ∧ len * ei.size ≤ 16777216 ∧ partsV ei.size d 0 parts ∧ K (.vsl d len ei.size) { m.setq d (.vec len ei.size ei.e) with v := upd m.v d (some (parts.map (·.2))) }
 | _, _ => False
def rangeX (x : PV) (m : Hp) (K : PV → Hp → Prop) : Prop :=
 match x with
 | .mref b => match m.o b with
  | some c => ∀ ib, m.it ib = none → K (.iptr ib) { m with it := upd m.it ib (some ⟨b, c.ks.length, [], none⟩) }
  | none => False
 | .rmap ks vs => ∀ ib b, m.it ib = none → K (.iptr ib) { m with it := upd m.it ib (some ⟨b, ks.length, [], some ⟨ks, vs⟩⟩) }
 | _ => False
def nextX (x : PV) (m : Hp) (K : PV → Hp → Prop) : Prop :=
 match x with
 | .iptr ib => match m.it ib with
  | some it => match mapIt m it with
   | some c => c.ks.length = it.n ∧ ((∀ i, i < it.n → i ∈ it.seen) → K (.tup [.bool false]) m) ∧
     ∀ i, i < it.n → i ∉ it.seen → K (.tup [.bool true, c.ks.getD i .any, c.vs.getD i .any]) { m with it := upd m.it ib (some ⟨it.b, it.n, it.seen ++ [i], it.c⟩) }
   | none => False
  | none => False
 | _ => False
def makeX (m : Hp) (K : PV → Hp → Prop) : Prop := ∀ b, m.o b = none → K (.mref b) { m with o := upd m.o b (some ⟨[], []⟩) }
def entryX (P : Program) (t : TypeId) (x k : PV) (m : Hp) (K : PV → Hp → Prop) : Prop :=
 match x, tmap P t, k with
 | .mref b, some (ls, z), .agg cs => match m.om b with
  | some c => match findP ls cs c.ks 0 with
   | some r => cs.length = ls.length ∧ PV.cleanL cs = true ∧ K (entV z c r) { m with om := upd m.om b (some (entC z cs c r)) }
   | none => False
  | none => False
 | _, _, _ => False
def storeX (x st v : PV) (m : Hp) (K : PV → Hp → Prop) : Prop :=
 match x, st with
 | .mref b, .int .i64 k => match m.om b with
  | some c => 0 ≤ k ∧ k.toNat < c.ks.length ∧ K (.tup []) { m with om := upd m.om b (some ⟨c.ks, c.vs.set k.toNat v⟩) }
  | none => False
 | _, _ => False
def spec (P : Program) (o : Oper) (s : St) (K : St → Prop) : Prop :=
 match o.op with
 | .call c => match calleeOf s.eval c with
  | some (g, args) => (PV.givableL s.m args ∧ callX P g (PV.giveL s.m args) s.m fun r m => K ((s.with m).put o.dst r)) ∨ callE P g (PV.giveL s.m args) s.m fun r m => K ((s.with m).put o.dst r)
  | none => match c.callee with
   | .builtin .append => vApp P o.dst c.argTypes.toList (c.args.toList.map s.eval) s.m fun r m => K ((s.with m).put o.dst r)
   | _ => False
 | .buildSlice t len parts => vBld P o.dst t len (parts.toList.map fun x => (x.1, s.eval x.2)) s.m fun r m => K ((s.with m).put o.dst r)
 | .makeMap _ none => makeX s.m fun r m => K ((s.with m).put o.dst r)
 | .mapEntry t x k => entryX P t (s.eval x) (s.eval k) s.m fun r m => K ((s.with m).put o.dst r)
 | .entryStore t x st v => o.dst = none ∧ storeX (s.eval x) (s.eval st) (s.eval v) s.m fun r m => K ((s.with m).put o.dst r)
 | .range t x => tmapB P t = true ∧ rangeX (s.eval x) s.m fun r m => K ((s.with m).put o.dst r)
 | .next x false => nextX (s.eval x) s.m fun r m => K ((s.with m).put o.dst r)
 | _ => False
end Go.PL
namespace Go.PL
open Go.RowKit
set_option linter.unusedVariables false
section
variable {P : Program} {B : Frm} {S : Stable} {M : Maps} {s : St} {a : Act} {w : World}
theorem RepS.iptr_inv {v : Value} {qq : Rows} {b : Nat} (r : RepS S M qq v (.iptr b)) : v = .pointer (some ⟨b, 0, none⟩) := by
 cases r with | clean r => cases r; rfl
theorem Sim.growX (hs : Sim B S M s a w) {b : Nat} (hb : ∀ vs t f, w.heap[b]? ≠ some (.cells vs t f)) {S' : Stable} {w' : World} (hle : SLe S S') (hag : ∀ k, k < w.heap.size → k ≠ b → ∀ o, S' k o = S k o)
  (hw : ∀ k, k < w.heap.size → k ≠ b → w'.heap[k]? = w.heap[k]?) (hsz : w.heap.size ≤ w'.heap.size) {o' : Nat → Option MapC} {it' : Nat → Option IterC} (hst : Stab B S' w' o' it') (hom : ∀ k d, s.m.om k = some d → k ≠ b ∧ o' k = none ∧ S'.m k = none) : Sim B S' M (s.with { s.m with o := o', it := it' }) a w' := by
 have rep : ∀ {v p}, RepS S M s.m.q v p → RepS S' M s.m.q v p := fun r => r.heap hle (fun _ _ => rfl) (fun _ _ => .refl _ _ _)
 have live : ∀ i, Live s.m i → Live { s.m with o := o', it := it' } i := fun i h => by cases i <;> exact h
 refine ⟨hs.defers, hs.hn, fun k hk => Nat.lt_of_lt_of_le (hs.hB k hk) hsz, hst, fun i => rep (hs.fr i), fun i k hk => live k (hs.ids i k hk), fun id cs hc => ?_, fun id r hr => ?_, hs.inj, hs.injq, hs.injx, fun k d hk => ?_, fun i es he => ?_, ⟨hs.pn.h, hs.pn.q⟩⟩
 ·have hb' := hs.blk id cs hc
  show BlkOk _ _ _ _ _ _ _ (s.m.z id)
  cases hz : s.m.z id with
  | false =>
   rw [hz] at hb'
   have hlt := hs.blk_lt hc hz
   obtain ⟨h1, h2, ⟨vs, t, h3, h4, h5⟩, h6⟩ := hb'
   have hne : M.φ id ≠ b := fun e => hb _ _ _ (e ▸ h3)
   exact ⟨h1, fun o => by rw [hag _ hlt hne]; exact h2 o, ⟨vs, t, by rw [hw _ hlt hne]; exact h3, h4, fun j hj => rep (h5 j hj)⟩, fun c hc k hk => live k (h6 c hc k hk)⟩
  | true =>
   rw [hz] at hb'
   obtain ⟨vals, hv⟩ := hb'; exact ⟨vals, fun j hj => ⟨hle _ _ _ (hv j hj).1, (hv j hj).2.mono hle⟩⟩
 ·have hr' := hs.row id r hr
  cases r with
  | live n sz e =>
   obtain ⟨h1, h2⟩ := hr'
   refine ⟨h1, fun c hk => ?_⟩
   have hlt := hs.row_lt hr rfl (by omega)
   obtain ⟨g0, g0', g1, ⟨vs, g2, g3⟩, g4⟩ := h2 c hk
   have hne : M.ψ id ≠ b := fun e => hb _ _ _ (e ▸ g2)
   exact ⟨g0, g0', g1, ⟨vs, by rw [hw _ hlt hne]; exact g2, g3⟩, fun o ho => by rw [hag _ hlt hne]; exact g4 o ho⟩
  | vec n sz e =>
   obtain ⟨h1, h2⟩ := hr'
   refine ⟨h1, fun c hk => ?_⟩
   have hlt := hs.row_lt hr rfl (by omega)
   obtain ⟨g0, g0', g1, ⟨vs, g2, g3⟩, g4⟩ := h2 c hk
   have hne : M.ψ id ≠ b := fun e => hb _ _ _ (e ▸ g2)
   exact ⟨g0, g0', g1, ⟨vs, by rw [hw _ hlt hne]; exact g2, g3⟩, fun o => by rw [hag _ hlt hne]; exact g4 o⟩
  | dead => trivial
 ·obtain ⟨g1, g2, g3, g4⟩ := hs.rm k d hk
  obtain ⟨e1, e2, e3⟩ := hom k d hk
  exact ⟨g1, e3, e2, g4.move hle (hw k g4.lt e1) (fun v p r _ => rep r) live⟩
 ·refine (hs.vc i es he).move (fun _ _ _ h => h) rfl rfl (fun hk => hw _ (hs.vec_lt he hk) fun ee => ?_) (fun v p r _ => rep r) live
  obtain ⟨sz, e, q1⟩ := hs.vec_q he
  obtain ⟨_, h2⟩ := hs.row i _ q1
  obtain ⟨_, _, _, ⟨vs, k5, _⟩, _⟩ := h2 (M.κ i - 1) (by omega)
  exact hb _ _ _ (ee ▸ k5)
theorem calls_args (hs : Sim B S M s a w) {f : Operand} {cargs : List Operand} {ts : Array TypeId} {g : FuncId} {args : List PV} (hc : calleeOf s.eval ⟨.value f, ⟨cargs⟩, ts⟩ = some (g, args)) (hg : PV.givableL s.m args) (hcal : Callable P g)
  {dst : Option Tmp} {ty : TypeId} {pos : String} {after : Array Edge} {guard : Option (Nat × Bool)} :
  ∃ vs : List Value, vs.length = args.length ∧ (∀ i, i < args.length → Rep S (vs.getD i undef) ((PV.giveL s.m args).getD i .any)) ∧ (execOp a.eval ⟨dst, .call ⟨.value f, ⟨cargs⟩, ts⟩, ty, pos, after, guard⟩).run P w = .ok (.enter g ⟨vs⟩) w := by
 unfold calleeOf at hc
 simp only at hc
 split at hc
 ·rename_i g' caps hf
  simp only [Option.some.injEq, Prod.mk.injEq] at hc
  obtain ⟨rfl, rfl⟩ := hc
  have ef := hs.eval f
  rw [hf] at ef
  obtain ⟨vs, hv, hl, hr⟩ := ef.fn_inv
  obtain ⟨fn, c1, c2, c3⟩ := hcal
  have hargs : ∀ i, i < (cargs.map s.eval ++ caps).length → RepS S M s.m.q ((cargs.map a.eval ++ vs).getD i undef) ((cargs.map s.eval ++ caps).getD i .any) := by
   intro i hi
   by_cases h1 : i < cargs.length
   ·rw [getD_append_left (by simpa using h1), getD_append_left (by simpa using h1)]
    exact map_getD (s := s) hs.eval i (by simpa using h1)
   ·rw [getD_append_right (by simp; omega), getD_append_right (by simp; omega)]
    simp only [List.length_map]
    exact hr _ (by simp at hi; omega)
  refine ⟨cargs.map a.eval ++ vs, by simp [hl], fun i hi => ?_, ?_⟩
  ·rw [PV.giveL_getD _ _ i hi]
   exact (hargs i hi).give hs (PV.givableL_getD hg i hi)
  ·have hb : ¬ fn.body = none := by intro h; simp [h] at c3
   simp [execOp, resolve, Deferred.ofValue, hv, invoke, callFunc, program, Sem.run, c1, hb, c2]
 ·cases hc
theorem RepS.giveE (hs : Sim B S M s a w) {v : Value} {p : PV} (r : RepS S M s.m.q v p) : RepS S M s.m.q v (p.give s.m) := by
 induction r with
 | clean r => exact .clean (r.give s.m)
 | ptr id off =>
  cases hz : s.m.z id with
  | false => simp only [PV.give, hz]; exact .ptr id off
  | true =>
   cases hh : s.m.h id with
   | none => simp only [PV.give, hz, hh]; exact .ptr id off
   | some cs => exact .clean ((RepS.ptr (S := S) (M := M) (q := s.m.q) id off).give hs ⟨hz, by rw [hh]; simp⟩)
 | osl id off len cap sz hc => exact .osl id off len cap sz hc
 | row id v es r _ => exact .clean r
 | vsl id len sz v hv t => exact .vsl id len sz v hv t
 | vptr id n sz i off v hv hi t => exact .vptr id n sz i off v hv hi t
 | agg vs cs hl _ ih => exact .agg vs _ (by rw [PV.giveL_length]; exact hl) (fun i hi => by rw [PV.giveL_length] at hi; rw [PV.giveL_getD s.m cs i hi]; exact ih i hi)
 | tup vs cs hl _ ih => exact .tup vs _ (by rw [PV.giveL_length]; exact hl) (fun i hi => by rw [PV.giveL_length] at hi; rw [PV.giveL_getD s.m cs i hi]; exact ih i hi)
 | fn f vs cs hl _ ih => exact .fn f vs _ (by rw [PV.giveL_length]; exact hl) (fun i hi => by rw [PV.giveL_length] at hi; rw [PV.giveL_getD s.m cs i hi]; exact ih i hi)
theorem calls_argsE (hs : Sim B S M s a w) {f : Operand} {cargs : List Operand} {ts : Array TypeId} {g : FuncId} {args : List PV} (hc : calleeOf s.eval ⟨.value f, ⟨cargs⟩, ts⟩ = some (g, args)) (hcal : Callable P g)
  {dst : Option Tmp} {ty : TypeId} {pos : String} {after : Array Edge} {guard : Option (Nat × Bool)} :
  ∃ vs : List Value, vs.length = args.length ∧ (∀ i, i < args.length → RepS S M s.m.q (vs.getD i undef) ((PV.giveL s.m args).getD i .any)) ∧ (execOp a.eval ⟨dst, .call ⟨.value f, ⟨cargs⟩, ts⟩, ty, pos, after, guard⟩).run P w = .ok (.enter g ⟨vs⟩) w := by
 unfold calleeOf at hc
 simp only at hc
 split at hc
 ·rename_i g' caps hf
  simp only [Option.some.injEq, Prod.mk.injEq] at hc
  obtain ⟨rfl, rfl⟩ := hc
  have ef := hs.eval f
  rw [hf] at ef
  obtain ⟨vs, hv, hl, hr⟩ := ef.fn_inv
  obtain ⟨fn, c1, c2, c3⟩ := hcal
  have hargs : ∀ i, i < (cargs.map s.eval ++ caps).length → RepS S M s.m.q ((cargs.map a.eval ++ vs).getD i undef) ((cargs.map s.eval ++ caps).getD i .any) := by
   intro i hi
   by_cases h1 : i < cargs.length
   ·rw [getD_append_left (by simpa using h1), getD_append_left (by simpa using h1)]
    exact map_getD (s := s) hs.eval i (by simpa using h1)
   ·rw [getD_append_right (by simp; omega), getD_append_right (by simp; omega)]
    simp only [List.length_map]
    exact hr _ (by simp at hi; omega)
  refine ⟨cargs.map a.eval ++ vs, by simp [hl], fun i hi => ?_, ?_⟩
  ·rw [PV.giveL_getD _ _ i hi]
   exact (hargs i hi).giveE hs
  ·have hb : ¬ fn.body = none := by intro h; simp [h] at c3
   simp [execOp, resolve, Deferred.ofValue, hv, invoke, callFunc, program, Sem.run, c1, hb, c2]
 ·cases hc
theorem Stab.turn {S' : Stable} {w' : World} {o : Nat → Option MapC} {it : Nat → Option IterC} (hs : Stab B S w o it) {b : Nat} {c : MapC} (hle : SLe S S') (hst : StabS S' w') (hm : ∀ k, k < w.heap.size → k ≠ b → S'.m k = S.m k)
  (hw : ∀ k, k < w.heap.size → k ≠ b → w'.heap[k]? = w.heap[k]?) (hB : ¬ B b) (hb : S'.m b = none) (hc : MapAt S' w' b c) (hit : ∀ x, it b ≠ some x) : Stab B S' w' (upd o b (some c)) it := by
 refine ⟨hst, fun k d hd => ?_, fun k x hx => ?_⟩
 ·by_cases e : b = k
  ·subst e
   rw [upd_same] at hd
   cases hd
   exact ⟨hB, hb, hc⟩
  ·rw [upd_ne _ _ e] at hd
   obtain ⟨q1, q2, q3⟩ := hs.o k d hd
   exact ⟨q1, by rw [hm k q3.lt (Ne.symm e)]; exact q2, q3.move hle (hw k q3.lt (Ne.symm e))⟩
 ·obtain ⟨q1, q2, q3⟩ := hs.i k x hx
  refine ⟨q1, ?_, q3.mono hle⟩
  have hlt := q2.lt
  unfold IterAt at q2 ⊢
  rw [hw k hlt (fun e => by subst e; exact hit x hx)]
  exact q2
theorem ext_args (hs : Sim B S M s a w) {f : Operand} {cargs : List Operand} {ts : Array TypeId} {g : FuncId} {args : List PV} (hc : calleeOf s.eval ⟨.value f, ⟨cargs⟩, ts⟩ = some (g, args)) (hg : PV.givableL s.m args)
  {dst : Option Tmp} {ty : TypeId} {pos : String} {after : Array Edge} {guard : Option (Nat × Bool)} :
  ∃ vs : List Value, vs.length = args.length ∧ (∀ i, i < args.length → Rep S (vs.getD i undef) ((PV.giveL s.m args).getD i .any)) ∧ (execOp a.eval ⟨dst, .call ⟨.value f, ⟨cargs⟩, ts⟩, ty, pos, after, guard⟩).run P w = (callFunc g ⟨vs⟩).run P w := by
 unfold calleeOf at hc
 simp only at hc
 split at hc
 ·rename_i g' caps hf
  simp only [Option.some.injEq, Prod.mk.injEq] at hc
  obtain ⟨rfl, rfl⟩ := hc
  have ef := hs.eval f
  rw [hf] at ef
  obtain ⟨vs, hv, hl, hr⟩ := ef.fn_inv
  have hargs : ∀ i, i < (cargs.map s.eval ++ caps).length → RepS S M s.m.q ((cargs.map a.eval ++ vs).getD i undef) ((cargs.map s.eval ++ caps).getD i .any) := by
   intro i hi
   by_cases h1 : i < cargs.length
   ·rw [getD_append_left (by simpa using h1), getD_append_left (by simpa using h1)]
    exact map_getD (s := s) hs.eval i (by simpa using h1)
   ·rw [getD_append_right (by simp; omega), getD_append_right (by simp; omega)]
    simp only [List.length_map]
    exact hr _ (by simp at hi; omega)
  refine ⟨cargs.map a.eval ++ vs, by simp [hl], fun i hi => ?_, ?_⟩
  ·rw [PV.giveL_getD _ _ i hi]
   exact (hargs i hi).give hs (PV.givableL_getD hg i hi)
  ·simp [execOp, resolve, Deferred.ofValue, hv, invoke]
 ·cases hc
theorem Sim.addRow (hs : Sim B S M s a w) {d κ ψ n sz : Nat} {e : TypeId} (hd : s.m.q d = none) (hrow : RowOk B S ⟨id, fun _ => ψ, fun _ => κ⟩ w 0 (.live n sz e))
  (hnq : ∀ i r, s.m.q i = some r → r.own = true → 0 < M.κ i → 0 < κ → M.ψ i ≠ ψ) (hnh : ∀ i cs, s.m.h i = some cs → s.m.z i = false → 0 < κ → M.φ i ≠ ψ) :
  Sim B S { M with ψ := upd M.ψ d ψ, κ := upd M.κ d κ } (s.with (s.m.setq d (.live n sz e))) a w :=
 hs.layRow (.inl hd) (by simpa only [RowOk, upd_same] using hrow) (hs.v_none fun _ _ _ h => by rw [hd] at h; cases h) (fun i r _ hi oi ki _ k => hnq i r hi oi ki k) (fun i cs hi zi _ k => hnh i cs hi zi k)
theorem Sim.om_new (hs : Sim B S M s a w) {b : Nat} (hb : w.heap.size ≤ b) {S' : Stable} (hS : ∀ k, k < w.heap.size → S'.m k = S.m k) {o' : Nat → Option MapC} (ho : ∀ k, k ≠ b → o' k = s.m.o k) (k : Nat) (d : MapC) (h : s.m.om k = some d) : k ≠ b ∧ o' k = none ∧ S'.m k = none := by
 obtain ⟨g1, g2, g3, g4⟩ := hs.rm k d h
 have hlt := g4.lt
 have hne : k ≠ b := by omega
 exact ⟨hne, by rw [ho k hne]; exact g3, by rw [hS k hlt]; exact g2⟩
theorem spec_sound (hs : Sim B S M s a w) {o : Oper} {K : St → Prop} (hd : ∀ x, o.dst = some x → x < s.n) (h : spec P o s K) (next : Act → World → Prop) (Q : Exit → Act → World → Prop)
  (hn : ∀ s' v w' S' M', K s' → Sim B S' M' s' (a.put o.dst v) w' → Ext B S S' w w' → next (a.put o.dst v) w') : o.wp P a w next Q := by
 obtain ⟨dst, op, ty, pos, after, guard⟩ := o
 unfold spec at h
 simp only at h hd hn ⊢
 cases op with
 | call c =>
  obtain ⟨callee, cargs, ts⟩ := c
  obtain ⟨cargs⟩ := cargs
  cases callee with
  | value f =>
   simp only at h
   cases hc : calleeOf s.eval ⟨.value f, ⟨cargs⟩, ts⟩ with
   | none => rw [hc] at h; exact h.elim
   | some ga =>
    obtain ⟨g, args⟩ := ga
    rw [hc] at h
    unfold Oper.wp
    rcases h with ⟨hg, hx⟩ | ⟨args0, m0, r, m1, f', g', heff, hfit, hargs, hk⟩
    rotate_left
    ·obtain ⟨vs, hl, hrep, hrun⟩ := calls_argsE (dst := dst) (ty := ty) (pos := pos) (after := after) (guard := guard) hs hc heff.cal
     rw [hrun]
     show Calls P g ⟨vs⟩ w _
     have hlen : args.length = args0.length := by rw [← PV.giveL_length s.m args, hargs]; simp
     refine (heff.call hs hfit (vs := vs) (by omega) (fun i hi => ?_)).mono fun en w' hq => ?_
     ·have := hrep i (by omega)
      rw [hargs, getD_lt (l := args0.map _) (by simpa using hi), List.getElem_map] at this
      rw [getD_lt hi]; exact this
     ·obtain ⟨v, S', M', rfl, h2, h3, h4, h5⟩ := hq
      exact hn _ v w' S' M' hk (h2.put hd h3 h4) h5
    rcases hx with ⟨r, ⟨hcal, _, hcalls⟩, hno, hk⟩ | ⟨b, c, A, r, c', hob, hA, ⟨hcal, _, hcalls⟩, hk⟩ | ⟨r, c, ⟨hcal, _, hcalls⟩, hk⟩ | ⟨r, hxt, hk⟩ | ⟨r, n, sz, e, d, ⟨hcal, hri, hcalls⟩, hqd, hk⟩
    ·obtain ⟨vs, hl, hrep, hrun⟩ := calls_args (dst := dst) (ty := ty) (pos := pos) (after := after) (guard := guard) hs hc hg hcal
     rw [hrun]
     show Calls P g ⟨vs⟩ w _
     refine (hcalls w (sealS S w s.m.o) vs (sealS_stab hs.stable) (by rw [sealL_length, PV.giveL_length]; exact hl) (fun i hi => ?_)).mono fun e w' hq => ?_
     ·rw [sealL_length, PV.giveL_length] at hi
      rw [sealL_getD _ _ i (by rw [PV.giveL_length]; exact hi)]
      exact (hrep i hi).shut hs.stable
     ·obtain ⟨v, S1, rfl, h2, h3, h4, h5, h6⟩ := hq
      let S' : Stable := ⟨S1.c, fun k => match s.m.o k with | some _ => none | none => S1.m k⟩
      have m1 : ∀ k c, s.m.o k = some c → S'.m k = none := fun k c hc => by simp [S', hc]
      have m2 : ∀ k, s.m.o k = none → S'.m k = S1.m k := fun k hc => by simp [S', hc]
      have m3 : ∀ k, s.m.o k = none → (sealS S w s.m.o).m k = S.m k := fun k hc => by simp [sealS, hc]
      have l1 : SLe S S' := ⟨fun k o v hv => h4.c k o v hv, fun k es he => by
       cases ho : s.m.o k with
       | some c => rw [(hs.stable.o k c ho).2.1] at he; cases he
       | none => rw [m2 k ho]; exact h4.m k es (by rw [m3 k ho]; exact he)⟩
      have l2 : ∀ k, k < w.heap.size → (∀ o, S' k o = S k o) ∧ S'.m k = S.m k := fun k hk => by
       obtain ⟨a1, a2⟩ := h5 k hk
       refine ⟨a1, ?_⟩
       cases ho : s.m.o k with
       | some c => rw [m1 k c ho, (hs.stable.o k c ho).2.1]
       | none => rw [m2 k ho, a2, m3 k ho]
      have l3 : StabS S' w' := ⟨h3.c, fun k es he => by
       cases ho : s.m.o k with
       | some c => rw [m1 k c ho] at he; cases he
       | none => rw [m2 k ho] at he; exact h3.m k es he⟩
      have hs' := hs.grow l1 l2 l3 h6.block h6.size
      have hr' : Rep S' v r := Rep.cells_only (S := S1) (S' := S') rfl h2 hno
      exact hn _ v w' S' M hk (hs'.put hd (.clean hr') (fun i hi => absurd hi (hr'.clean_ids i))) ⟨l1, fun k hk => l2 k (hs.hB k hk), (BelowF.of h6).mono hs.hB⟩
    ·obtain ⟨vs, hl, hrep, hrun⟩ := calls_args (dst := dst) (ty := ty) (pos := pos) (after := after) (guard := guard) hs hc hg hcal
     rw [hrun]
     show Calls P g ⟨vs⟩ w _
     obtain ⟨q1, q2, q3⟩ := hs.stable.o b c hob
     rw [hA] at hrep
     refine (hcalls b w S vs hs.stable.s q2 q3 (by rw [← hA, PV.giveL_length]; exact hl) (fun i hi => hrep i (by rw [← hA, PV.giveL_length] at hi; exact hi))).mono fun e w' hq => ?_
     obtain ⟨v, S', rfl, h2, h3, h4, h5, h5', h6, h7⟩ := hq
     have hnc : ∀ vs t f, w.heap[b]? ≠ some (.cells vs t f) := fun vs t f hh => by obtain ⟨es, e1, _⟩ := q3; rw [e1] at hh; cases hh
     have hit : ∀ x, s.m.it b ≠ some x := fun x hx => by
      have h1 := (hs.stable.i b x hx).2.1
      obtain ⟨es, e1, _⟩ := q3
      unfold IterAt at h1
      rw [e1] at h1; cases h1
     have hst : Stab B S' w' (upd s.m.o b (some c')) s.m.it := hs.stable.turn h4 h3 (fun k hk hkb => (h5 k hk hkb).2) (fun k hk hkb => h7.block k ⟨hk, hkb⟩) q1 h5' h6 hit
     have hs' := hs.growX hnc h4 (fun k hk hkb => (h5 k hk hkb).1) (fun k hk hkb => h7.block k ⟨hk, hkb⟩) h7.size hst (fun k d hk => ⟨(hs.om_ne hk hob (x := none)).1, (hs.om_ne hk hob).2, by rw [(h5 k (hs.rm k d hk).2.2.2.lt (hs.om_ne hk hob (x := none)).1).2]; exact (hs.rm k d hk).2.1⟩)
     exact hn _ v w' S' M hk (hs'.put hd (.clean h2) (fun i hi => absurd hi (h2.clean_ids i))) ⟨h4, fun k hk => h5 k (hs.hB k hk) (fun e => q1 (e ▸ hk)), h7.mono (fun k hk => ⟨hs.hB k hk, fun e => q1 (e ▸ hk)⟩)⟩
    ·obtain ⟨vs, hl, hrep, hrun⟩ := calls_args (dst := dst) (ty := ty) (pos := pos) (after := after) (guard := guard) hs hc hg hcal
     rw [hrun]
     show Calls P g ⟨vs⟩ w _
     refine (hcalls w S vs hs.stable.s (by rw [PV.giveL_length]; exact hl) (fun i hi => hrep i (by rw [PV.giveL_length] at hi; exact hi))).mono fun e w' hq => ?_
     obtain ⟨v, S', b, rfl, hbl, h2, h3, h4, h5, h5', h6, h7⟩ := hq
     have hnb : s.m.o b = none := by
      cases ho : s.m.o b with
      | none => rfl
      | some d => have := (hs.stable.o b d ho).2.2.lt; omega
     have hBb : ¬ B b := fun hh => by have := hs.hB b hh; omega
     have hnc : ∀ vs t f, w.heap[b]? ≠ some (.cells vs t f) := fun vs t f hh => by have := (Array.getElem?_eq_some_iff.1 hh).1; omega
     have hit : ∀ x, s.m.it b ≠ some x := fun x hx => by have := (hs.stable.i b x hx).2.1.lt; omega
     have hst : Stab B S' w' (upd s.m.o b (some c)) s.m.it := hs.stable.turn h4 h3 (fun k hk _ => (h5 k hk).2) (fun k hk _ => h7.block k hk) hBb h5' h6 hit
     have hs' := hs.growX hnc h4 (fun k hk _ => (h5 k hk).1) (fun k hk _ => h7.block k hk) h7.size hst (hs.om_new hbl (fun k hk => (h5 k hk).2) fun k hk => upd_ne _ _ (Ne.symm hk))
     exact hn _ v w' S' M (hk b hnb) (hs'.put hd (.clean h2) (fun i hi => absurd hi (h2.clean_ids i))) ⟨h4, fun k hk => h5 k (hs.hB k hk), (BelowF.of h7).mono hs.hB⟩
    ·obtain ⟨vs, hl, hrep, hrun⟩ := ext_args (dst := dst) (ty := ty) (pos := pos) (after := after) (guard := guard) hs hc hg
     obtain ⟨v, hv, hrun2⟩ := hxt w S vs (by rw [PV.giveL_length]; exact hl) (fun i hi => hrep i (by rw [PV.giveL_length] at hi; exact hi))
     rw [hrun, hrun2]
     exact hn _ v w S M hk (hs.put hd (.clean hv) (fun i hi => absurd hi (hv.clean_ids i))) (Ext.refl _ _ _)
    ·obtain ⟨vs, hl, hrep, hrun⟩ := calls_args (dst := dst) (ty := ty) (pos := pos) (after := after) (guard := guard) hs hc hg hcal
     rw [hrun]
     show Calls P g ⟨vs⟩ w _
     refine (hcalls w S vs hs.stable.s (by rw [PV.giveL_length]; exact hl) (fun i hi => hrep i (by rw [PV.giveL_length] at hi; exact hi))).mono fun en w' hq => ?_
     obtain ⟨v, S', κ, ψ, rfl, h1, h2, h3, h4, h5, h6⟩ := hq
     have hs1 := hs.grow h4 h5 h3 h6.block h6.size
     have hψ : 0 < κ → w.heap.size ≤ ψ := fun h0 => by
      obtain ⟨_, g2⟩ := h2
      obtain ⟨_, _, g3, _⟩ := g2 (κ - 1) (by show κ = _; omega)
      exact Nat.not_lt.1 g3
     have hs2 := hs1.addRow (d := d) (κ := κ) (ψ := ψ) (n := n) (sz := sz) (e := e) hqd
      (by
       obtain ⟨g1, g2⟩ := h2
       refine ⟨g1, fun c hc => ?_⟩
       obtain ⟨k1, k2, k3, k4, k5⟩ := g2 c hc
       exact ⟨k1, k2, fun hB => k3 (hs.hB _ hB), k4, k5⟩)
      (fun i r1 hi oi ki k0 => by have := hs.row_lt hi oi ki; have := hψ k0; omega)
      (fun i cs hi zi k0 => by have := hs.blk_lt hi zi; have := hψ k0; omega)
     have hrv := h1 d { M with ψ := upd M.ψ d ψ, κ := upd M.κ d κ } (s.m.setq d (.live n sz e)).q (upd_same _ _ _) (upd_same _ _ _) (upd_same _ _ _)
     exact hn _ v w' S' _ hk (hs2.put hd hrv (fun i hi => by
      rw [hri d i hi]
      show upd s.m.q d _ d ≠ none
      rw [upd_same]; simp)) ⟨h4, fun k hk => h5 k (hs.hB k hk), (BelowF.of h6).mono hs.hB⟩
  | builtin b =>
   cases b with
   | append =>
    simp only [calleeOf] at h
    unfold vApp at h
    split at h
    ·rename_i d t tx x y hts hxs
     split at h
     ·rename_i ei ys h1 h2
      obtain ⟨g4, h⟩ := h
      obtain ⟨x1, x2, rfl, e1, e2⟩ : ∃ x1 x2, cargs = [x1, x2] ∧ s.eval x1 = x ∧ s.eval x2 = y := by
       have hxs : cargs.map s.eval = [x, y] := hxs
       clear hts
       rcases cargs with _ | ⟨x1, _ | ⟨x2, _ | ⟨x3, l⟩⟩⟩
       ·simp at hxs
       ·simp at hxs
       ·simp at hxs; exact ⟨x1, x2, rfl, hxs.1, hxs.2⟩
       ·simp at hxs
      obtain ⟨tys⟩ := ts
      have hts' : tys = [t, tx] := hts
      subst hts'
      unfold Oper.wp
      have hrun : ∀ {rr w'}, (Builtin.append_ #[t, tx] ty #[a.eval x1, a.eval x2]).run P w = .ok rr w' → (execOp a.eval ⟨some d, .call ⟨.builtin .append, ⟨[x1, x2]⟩, ⟨[t, tx]⟩⟩, ty, pos, after, guard⟩).run P w = .ok (.value rr) w' := fun k1 => by
       simp [execOp, resolve, invoke, builtin, k1]
      unfold vApp1 at h
      split at h
      ·rename_i id n sz
       split at h
       ·rename_i es h3
        obtain ⟨g0, g1, g2, g3, g5, g6, g7, hk⟩ := h
        subst g0
        subst g1
        have r1 := hs.eval x1
        rw [e1] at r1
        have r2 := hs.eval x2
        rw [e2] at r2
        obtain ⟨rr, w', S', M', k1, k2, k3, k4⟩ := vec_appendTo hs (d := d) (ty := ty) h1 r1 h3 g2 r2 h2 g5 g3 g4 g6 g7
        rw [hrun k1]
        refine hn _ rr w' S' M' hk (k2.put hd k3 fun i hi => ?_) k4
        simp only [PV.ids, List.mem_singleton] at hi
        subst hi
        show (appM _ _ _ _ _ _ _).q d ≠ none
        unfold appM
        split <;> simp [Hp.setq, upd_same]
       ·exact h.elim
      ·obtain ⟨g0, g5, g6, g7, hk⟩ := h
       have hs1 := hs.nilVec (sz := ei.size) (e := ei.e) g0
       have r1 := hs.eval x1
       rw [e1] at r1
       have hu : a.eval x1 = .slice none 0 0 := r1.slnil_inv
       have r1' : RepS S { M with κ := upd M.κ d 0 } (upd s.m.q d (some (.vec 0 ei.size ei.e))) (a.eval x1) (.vsl d ([] : List PV).length ei.size) := by
        rw [hu]
        refine .vsl d 0 ei.size _ ⟨none, 0, rfl, Nat.le_refl _, fun h => absurd h (Nat.lt_irrefl _)⟩ fun n' sz' e' hq => ?_
        rw [upd_same] at hq
        cases hq
        exact ⟨Nat.le_refl _, fun _ => ⟨rfl, fun _ => rfl, fun c hc => by simp [upd_same] at hc⟩⟩
       have r2 := hs1.eval x2
       have r2' : RepS S { M with κ := upd M.κ d 0 } (upd s.m.q d (some (.vec 0 ei.size ei.e))) (a.eval x2) y := by rw [← e2]; exact r2
       have hav : appendedV P tx y { s.m.setq d (.vec 0 ei.size ei.e) with v := upd s.m.v d (some []) } = some ys := by
        cases y <;> first | exact h2 | skip
        rename_i id n sz
        have hne : d ≠ id := fun e => g5.2.2.2 (by simp [e])
        simp only [appendedV] at h2 ⊢
        split at h2
        ·rw [upd_ne _ _ hne]; exact h2
        ·cases h2
       have hso : vsrcOk y { s.m.setq d (.vec 0 ei.size ei.e) with v := upd s.m.v d (some []) } ys ei.size [d, d] := by
        cases y <;> first | exact g5 | skip
        rename_i id n sz
        obtain ⟨q1, q2, ⟨e, q3⟩, q4⟩ := g5
        have hne : d ≠ id := fun e => q4 (by simp [e])
        refine ⟨q1, q2, ⟨e, ?_⟩, by simpa using q4⟩
        show upd s.m.q d _ id = _
        rw [upd_ne _ _ hne]; exact q3
       obtain ⟨rr, w', S', M', k1, k2, k3, k4⟩ := vec_appendTo hs1 (id := d) (d := d) (ty := ty) (es := []) h1 r1' (upd_same _ _ _) (upd_same _ _ _) r2' hav hso (.inl rfl) g4 (by simpa using g6) (by simpa using g7)
       rw [hrun k1]
       simp only [appM, if_true, St.with, Hp.setq, upd_upd, List.length_nil, Nat.zero_add, List.nil_append] at k2 k3
       refine hn _ rr w' S' M' hk (k2.put hd k3 fun i hi => ?_) k4
       simp only [PV.ids, List.mem_singleton] at hi
       subst hi
       simp [Live, upd_same]
      ·exact h.elim
     ·exact h.elim
    ·exact h.elim
   | _ => simp [calleeOf] at h
  | _ => simp [calleeOf] at h
 | buildSlice t len parts =>
  obtain ⟨parts⟩ := parts
  simp only at h
  unfold vBld at h
  split at h
  ·rename_i d ei hx
   obtain ⟨g1, g2, g3, g4, hk⟩ := h
   obtain ⟨p1, p2, p3⟩ := parts_ok hs parts
   subst g2
   obtain ⟨v, w', M', k1, k2, k3, k4⟩ := vec_build hs (d := d) hx p1 p2 p3 g1 g3 g4
   unfold Oper.wp
   have hrun : (execOp a.eval ⟨some d, .buildSlice t (parts.map fun x => (x.1, s.eval x.2)).length ⟨parts⟩, ty, pos, after, guard⟩).run P w = .ok (.value v) w' := by
    simp only [List.length_map] at k1
    simp only [execOp, List.length_map]
    have e : (Array.map (fun x : Nat × Operand => (x.fst, a.eval x.snd)) ⟨parts⟩) = ⟨parts.map fun x => (x.fst, a.eval x.snd)⟩ := by simp
    first | rw [e] | skip
    simp [k1]
   rw [hrun]
   refine hn _ v w' S M' hk (k2.put hd k3 fun i hi => ?_) k4
   simp only [PV.ids, List.mem_singleton] at hi
   subst hi
   show upd s.m.q d _ d ≠ none
   rw [upd_same]; simp
  ·exact h.elim
 | makeMap t r =>
  cases r with
  | some _ => exact h.elim
  | none =>
   simp only at h
   unfold Oper.wp
   have hrun : (execOp a.eval ⟨dst, .makeMap t none, ty, pos, after, guard⟩).run P w = .ok (.value (.map (some w.heap.size))) (w.alloc (.map #[] 0)) := by
    simp [execOp, Instr.makeMap, newObj, Sem.run]
   rw [hrun]
   have hnb : s.m.o w.heap.size = none := by
    cases ho : s.m.o w.heap.size with
    | none => rfl
    | some d => have := (hs.stable.o _ d ho).2.2.lt; omega
   have hold : ∀ k, k < w.heap.size → (w.alloc (.map #[] 0)).heap[k]? = w.heap[k]? := fun k hk => alloc_heap_old w _ hk
   have hnew : (w.alloc (.map #[] 0)).heap[w.heap.size]? = some (.map #[] 0) := alloc_heap_new w _
   have hst : Stab B S (w.alloc (.map #[] 0)) (upd s.m.o w.heap.size (some ⟨[], []⟩)) s.m.it :=
    hs.stable.turn (SLe.refl _) (hs.stable.s.old hold) (fun _ _ _ => rfl) (fun k hk _ => hold k hk) hs.new_ok (hs.S_m (Nat.le_refl _)) ⟨[], hnew, rfl, rfl, fun i hi => by simp at hi, fun i hi => by simp at hi, fun i hi => by simp at hi⟩
     (fun x hx => by have := (hs.stable.i _ x hx).2.1.lt; omega)
   have hs' := hs.growX (b := w.heap.size) (fun vs t f hh => by have := (Array.getElem?_eq_some_iff.1 hh).1; omega) (SLe.refl _) (fun _ _ _ _ => rfl) (fun k hk _ => hold k hk) (by rw [alloc_size]; omega) hst (hs.om_new (Nat.le_refl _) (fun _ _ => rfl) fun k hk => by first | rfl | exact upd_ne _ _ (Ne.symm hk))
   exact hn _ _ _ S M (h w.heap.size hnb) (hs'.put hd (.clean (.mref _)) (by simp [PV.ids])) (hs.ext_alloc _)
 | mapEntry t x k =>
  simp only at h
  unfold entryX at h
  split at h
  ·rename_i b ls z cs hxb htm hkc
   split at h
   ·rename_i c hob
    split at h
    ·rename_i r hf
     obtain ⟨g1, g2, hk⟩ := h
     have ex := hs.eval x
     rw [hxb] at ex
     have ek := hs.eval k
     rw [hkc] at ek
     obtain ⟨u, w', k1, k2, k3, k4, k5⟩ := om_entry hs hob htm ek hf g1 g2
     unfold Oper.wp
     have hrun : (execOp a.eval ⟨dst, .mapEntry t x k, ty, pos, after, guard⟩).run P w = .ok (.value u) w' := by
      simp [execOp, ex.mref_inv, k1]
     rw [hrun]
     exact hn _ _ _ S M hk (k2.put hd k3 fun i hi => by have := k5 i hi; cases i <;> exact this) k4
    ·exact h.elim
   ·exact h.elim
  ·exact h.elim
 | entryStore t x st v =>
  simp only at h
  obtain ⟨hdn, h⟩ := h
  subst hdn
  unfold storeX at h
  split at h
  ·rename_i b k hxb hst
   split at h
   ·rename_i c hob
    obtain ⟨g1, g2, hk⟩ := h
    have ex := hs.eval x
    rw [hxb] at ex
    have es := hs.eval st
    rw [hst] at es
    obtain ⟨w', k1, k2, k3⟩ := om_store (P := P) (t := t) hs hob (hs.eval v) (hs.eval_ids v) g2
    unfold Oper.wp
    have hrun : (execOp a.eval ⟨none, .entryStore t x st v, ty, pos, after, guard⟩).run P w = .ok .skip w' := by
     rw [Int.toNat_of_nonneg g1] at k1
     simp [execOp, ex.mref_inv, es.int_inv, k1]
    rw [hrun]
    exact hn _ (.tuple #[]) w' S M hk (k2.put hd (.clean (.tup [] [] rfl fun i hi => by cases hi)) (by simp [PV.ids, PV.idsL])) k3
   ·exact h.elim
  ·exact h.elim
 | range t x =>
  simp only at h
  obtain ⟨htm, h⟩ := h
  have ex := hs.eval x
  unfold rangeX at h
  split at h
  ·rename_i b hxb
   split at h
   ·rename_i c hob
    rw [hxb] at ex
    obtain ⟨q1, q2, es, e1, e2, e3, e4, e5, e6⟩ := hs.stable.o b c hob
    unfold tmapB at htm
    split at htm
    ·rename_i kt et hu
     unfold Oper.wp
     have hg := MapKept.run_getObj_map (P := P) e1
     have hrun : (execOp a.eval ⟨dst, .range t x, ty, pos, after, guard⟩).run P w = .ok (.value (.pointer (some ⟨w.heap.size, 0, none⟩))) (w.alloc (.mapIter (some b) es.length #[] es.length)) := by
      simp [execOp, Instr.range, run_underlying hu, ex.mref_inv, hg, newObj, Sem.run]
     rw [hrun]
     have hold : ∀ k, k < w.heap.size → (w.alloc (.mapIter (some b) es.length #[] es.length)).heap[k]? = w.heap[k]? := fun k hk => alloc_heap_old w _ hk
     have hnew := alloc_heap_new w (.mapIter (some b) es.length #[] es.length)
     have hni : s.m.it w.heap.size = none := by
      cases ho : s.m.it w.heap.size with
      | none => rfl
      | some d => have := (hs.stable.i _ d ho).2.1.lt; omega
     have hst : Stab B S (w.alloc (.mapIter (some b) es.length #[] es.length)) s.m.o (upd s.m.it w.heap.size (some ⟨b, c.ks.length, [], none⟩)) := by
      refine ⟨hs.stable.s.old hold, fun k d hd => ?_, fun k y hy => ?_⟩
      ·obtain ⟨g1, g2, g3⟩ := hs.stable.o k d hd
       exact ⟨g1, g2, g3.move (SLe.refl _) (hold k g3.lt)⟩
      ·by_cases e : w.heap.size = k
       ·subst e
        rw [upd_same] at hy
        cases hy
        refine ⟨hs.new_ok, ?_, fun c hc => by cases hc⟩
        unfold IterAt
        rw [hnew, e2]
       ·rw [upd_ne _ _ e] at hy
        obtain ⟨g1, g2⟩ := hs.stable.i k y hy
        refine ⟨g1, ?_⟩
        have := g2.1.lt
        unfold IterAt at g2 ⊢
        rw [hold k this]; exact g2
     have hs' := hs.growX (b := w.heap.size) (fun vs t f hh => by have := (Array.getElem?_eq_some_iff.1 hh).1; omega) (SLe.refl _) (fun _ _ _ _ => rfl) (fun k hk _ => hold k hk) (by rw [alloc_size]; omega) hst (hs.om_new (Nat.le_refl _) (fun _ _ => rfl) fun k hk => by first | rfl | exact upd_ne _ _ (Ne.symm hk))
     exact hn _ _ _ S M (h w.heap.size hni) (hs'.put hd (.clean (.iptr _)) (by simp [PV.ids])) (hs.ext_alloc _)
    ·cases htm
   ·exact h.elim
  ·rename_i ks vs hxb
   rw [hxb] at ex
   generalize hval : a.eval x = u at ex
   obtain ⟨b, es, hu2, hS, e2, e3, e4, e5, e6⟩ : ∃ b es, u = .map (some b) ∧ S.m b = some es ∧ es.length = ks.length ∧ vs.length = ks.length ∧ (∀ i, i < ks.length → (es.getD i default).born = i) ∧
     (∀ i, i < ks.length → Rep S (es.getD i default).key (ks.getD i .any)) ∧ (∀ i, i < ks.length → Rep S (es.getD i default).val (vs.getD i .any)) := by
    cases ex with
    | clean r => cases r with
     | rmap b es _ _ hS hk hv hb hK hV => exact ⟨b, es, rfl, hS, hk, hv, hb, hK, hV⟩
   subst hu2
   have e1 := hs.stable.s.m b es hS
   unfold tmapB at htm
   split at htm
   ·rename_i kt et hu
    unfold Oper.wp
    have hg := MapKept.run_getObj_map (P := P) e1
    have hrun : (execOp a.eval ⟨dst, .range t x, ty, pos, after, guard⟩).run P w = .ok (.value (.pointer (some ⟨w.heap.size, 0, none⟩))) (w.alloc (.mapIter (some b) es.length #[] es.length)) := by
     simp [execOp, Instr.range, run_underlying hu, hval, hg, newObj, Sem.run]
    rw [hrun]
    have hold : ∀ k, k < w.heap.size → (w.alloc (.mapIter (some b) es.length #[] es.length)).heap[k]? = w.heap[k]? := fun k hk => alloc_heap_old w _ hk
    have hnew := alloc_heap_new w (.mapIter (some b) es.length #[] es.length)
    have hni : s.m.it w.heap.size = none := by
     cases ho : s.m.it w.heap.size with
     | none => rfl
     | some d => have := (hs.stable.i _ d ho).2.1.lt; omega
    have hst : Stab B S (w.alloc (.mapIter (some b) es.length #[] es.length)) s.m.o (upd s.m.it w.heap.size (some ⟨b, ks.length, [], some ⟨ks, vs⟩⟩)) := by
     refine ⟨hs.stable.s.old hold, fun k d hd => ?_, fun k y hy => ?_⟩
     ·obtain ⟨g1, g2, g3⟩ := hs.stable.o k d hd
      exact ⟨g1, g2, g3.move (SLe.refl _) (hold k g3.lt)⟩
     ·by_cases e : w.heap.size = k
      ·subst e
       rw [upd_same] at hy
       cases hy
       refine ⟨hs.new_ok, ?_, fun c hc => by cases hc; exact ⟨es, hS, e2, e3, e4, e5, e6⟩⟩
       unfold IterAt
       rw [hnew, e2]
      ·rw [upd_ne _ _ e] at hy
       obtain ⟨g1, g2⟩ := hs.stable.i k y hy
       refine ⟨g1, ?_⟩
       have := g2.1.lt
       unfold IterAt at g2 ⊢
       rw [hold k this]; exact g2
    have hs' := hs.growX (b := w.heap.size) (fun vs t f hh => by have := (Array.getElem?_eq_some_iff.1 hh).1; omega) (SLe.refl _) (fun _ _ _ _ => rfl) (fun k hk _ => hold k hk) (by rw [alloc_size]; omega) hst (hs.om_new (Nat.le_refl _) (fun _ _ => rfl) fun k hk => by first | rfl | exact upd_ne _ _ (Ne.symm hk))
    exact hn _ _ _ S M (h w.heap.size b hni) (hs'.put hd (.clean (.iptr _)) (by simp [PV.ids])) (hs.ext_alloc _)
   ·cases htm
  ·exact h.elim
 | next x isS =>
  cases isS with
  | true => exact h.elim
  | false =>
   simp only at h
   have ex := hs.eval x
   unfold nextX at h
   split at h
   ·rename_i ib hxb
    split at h
    ·rename_i itc hib
     split at h
     ·rename_i c hob
      obtain ⟨hlen, hover, hgo⟩ := h
      rw [hxb] at ex
      have hxv : a.eval x = .pointer (some ⟨ib, 0, none⟩) := ex.iptr_inv
      obtain ⟨i1, i2, i3⟩ := hs.stable.i ib itc hib
      obtain ⟨es, e1, e2, e3, e4, e5, e6⟩ := hs.mapIt hib hob
      unfold IterAt at i2
      have hborn : ∀ y ∈ es, y.born < itc.n := fun y hy => by
       obtain ⟨j, hj, rfl⟩ := List.getElem_of_mem hy
       have := e4 j (by omega)
       rw [getD_lt hj] at this
       omega
      unfold Oper.wp
      have he : ∀ v w', (Instr.next (.pointer (some ⟨ib, 0, none⟩)) false ty).run P w = .ok v w' → (execOp a.eval ⟨dst, .next x false, ty, pos, after, guard⟩).run P w = .ok (.value v) w' := fun v w' hh => by
       simp [execOp, hxv, hh]
      rcases run_next_at (P := P) w ty ib itc.b itc.n itc.n ⟨itc.seen⟩ ⟨es⟩ es.length i2 e1 (by simpa using hborn) (Nat.le_refl _) with ⟨hz, hrun⟩ | ⟨e, he1, w1, hw1, hrun⟩
      ·rw [he _ _ hrun]
       refine hn _ _ _ S M (hover fun i hi => ?_) (hs.put hd (.clean (.tup [.bool false] [.bool false] rfl (fun i hi => by
        match i, hi with
        | 0, _ => exact .bool _))) (by simp [PV.ids, PV.idsL])) (Ext.refl _ _ _)
       have hil : i < es.length := by omega
       refine Decidable.byContradiction fun hno => ?_
       have hmem : es[i] ∈ (leftOf ⟨es⟩ ⟨itc.seen⟩).toList := by
        unfold leftOf
        simp only [Array.toList_filter, List.mem_filter]
        have hb := e4 i (by omega)
        rw [getD_lt hil] at hb
        refine ⟨List.getElem_mem hil, ?_⟩
        rw [hb]
        simpa using hno
       have h0 : (leftOf ⟨es⟩ ⟨itc.seen⟩).toList = [] := by
        apply List.eq_nil_of_length_eq_zero
        simpa using hz
       rw [h0] at hmem
       cases hmem
      ·rw [he _ _ hrun]
       unfold leftOf at he1
       simp only [Array.toList_filter, List.mem_filter] at he1
       obtain ⟨hm, hns⟩ := he1
       obtain ⟨j, hj, rfl⟩ := List.getElem_of_mem hm
       have hb := e4 j (by omega)
       have k5 := e5 j (by omega)
       have k6 := e6 j (by omega)
       rw [getD_lt hj] at hb k5 k6
       rw [hb] at hns ⊢
       have hns' : j ∉ itc.seen := by simpa using hns
       have hw1' : w1.heap = w.heap := by rcases hw1 with rfl | rfl <;> rfl
       have hw2 : ∀ k, k ≠ ib → (ChangeMaps.setBlock w1 ib (.mapIter (some itc.b) itc.n ((⟨itc.seen⟩ : Array Nat).push j) es.length)).heap[k]? = w.heap[k]? := fun k hk => by
        show (w1.heap.setIfInBounds ib _)[k]? = _
        rw [hw1', Array.getElem?_setIfInBounds_ne (Ne.symm hk)]
       have hlt : ib < w.heap.size := (Array.getElem?_eq_some_iff.1 i2).1
       have hw3 : (ChangeMaps.setBlock w1 ib (.mapIter (some itc.b) itc.n ((⟨itc.seen⟩ : Array Nat).push j) es.length)).heap[ib]? = some (.mapIter (some itc.b) itc.n ⟨itc.seen ++ [j]⟩ itc.n) := by
        show (w1.heap.setIfInBounds ib _)[ib]? = _
        rw [hw1', Array.getElem?_setIfInBounds_self_of_lt hlt]
        have : es.length = itc.n := by omega
        rw [this]
        simp
       have hnc : ∀ vs t f, w.heap[ib]? ≠ some (.cells vs t f) := fun vs t f hh => by rw [i2] at hh; cases hh
       have hSm : S.m ib = none := by
        cases hm : S.m ib with
        | none => rfl
        | some l => have := hs.stable.s.m ib l hm; rw [i2] at this; cases this
       have hsz : (ChangeMaps.setBlock w1 ib (.mapIter (some itc.b) itc.n ((⟨itc.seen⟩ : Array Nat).push j) es.length)).heap.size = w.heap.size := by
        show (w1.heap.setIfInBounds ib _).size = _
        rw [hw1']; simp
       have hst : Stab B S (ChangeMaps.setBlock w1 ib (.mapIter (some itc.b) itc.n ((⟨itc.seen⟩ : Array Nat).push j) es.length)) s.m.o (upd s.m.it ib (some ⟨itc.b, itc.n, itc.seen ++ [j], itc.c⟩)) := by
        refine ⟨stabS_special hs.stable.s hnc hSm hw2, fun k d hd => ?_, fun k y hy => ?_⟩
        ·obtain ⟨g1, g2, g3⟩ := hs.stable.o k d hd
         refine ⟨g1, g2, g3.move (SLe.refl _) (hw2 k (fun e => ?_))⟩
         subst e
         obtain ⟨es', f1, _⟩ := g3
         rw [i2] at f1; cases f1
        ·by_cases e : ib = k
         ·subst e
          rw [upd_same] at hy
          cases hy
          exact ⟨i1, hw3, i3⟩
         ·rw [upd_ne _ _ e] at hy
          obtain ⟨g1, g2⟩ := hs.stable.i k y hy
          refine ⟨g1, ?_⟩
          unfold IterAt at g2 ⊢
          rw [hw2 k (Ne.symm e)]; exact g2
       have hs' := hs.special hnc hw2 hsz hst (fun k d hk => ⟨fun e => (by subst e; obtain ⟨⟨es, k1, _⟩, _⟩ := (hs.rm _ d hk).2.2.2; rw [i2] at k1; cases k1), (hs.rm k d hk).2.2.1⟩)
       have ht : w1.os = w.os ∧ w1.tape = w.tape ∧ w1.output = w.output := by rcases hw1 with rfl | rfl <;> exact ⟨rfl, rfl, rfl⟩
       refine hn _ _ _ S M (hgo j (by omega) hns') (hs'.put hd (.clean (.tup [.bool true, _, _] [.bool true, _, _] rfl (fun i hi => by
        match i, hi with
        | 0, _ => exact .bool _
        | 1, _ => exact k5
        | 2, _ => exact k6))) (fun i hi => ?_)) ⟨SLe.refl _, fun _ _ => ⟨fun _ => rfl, rfl⟩, ⟨ht.1, ht.2.1, ht.2.2, by rw [hsz]; exact Nat.le_refl _, fun k hk => hw2 k (fun e => i1 (e ▸ hk))⟩⟩
       simp only [PV.ids, PV.idsL, List.nil_append, List.append_nil, List.mem_append] at hi
       rcases hi with hi | hi
       ·exact absurd hi (k5.clean_ids i)
       ·exact absurd hi (k6.clean_ids i)
     ·exact h.elim
    ·exact h.elim
   ·exact h.elim
 | _ => exact h.elim
end
end Go.PL
