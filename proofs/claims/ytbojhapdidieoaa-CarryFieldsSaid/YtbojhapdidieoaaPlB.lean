/- A logic of values for functions that only read and build, over the model (part 2): no statement of the seat is proved here. -/
import Derived.Test.YtbojhapdidieoaaPlA
import Derived.Deep.AppendSrc
import Derived.Deep.Upon
import Derived.Laws.IdiomStrings
import Derived.Laws.BytesString
import Derived.Lib.Strings
set_option linter.unusedSimpArgs false
set_option linter.unusedVariables false
namespace Go.PL
open Go.RowKit
set_option linter.unusedVariables false
section
variable {P : Program} {B : Frm} {S : Stable} {M : Maps} {s : St} {a : Act} {w : World}

/-- the stable cells, and the first k of block g besides -/
def addS (S : Stable) (g k : Nat) (vs : List Value) : Stable := ⟨fun b o => if b = g ∧ o < k then some (vs.getD o undef) else S b o, S.m⟩
theorem addS_c (S : Stable) (g k : Nat) (vs : List Value) (b o : Nat) : (addS S g k vs).c b o = if b = g ∧ o < k then some (vs.getD o undef) else S b o := rfl
/-- the stable cells, and some of block g besides -/
def addR (S : Stable) (g lo hi : Nat) (vs : List Value) : Stable := ⟨fun b o => if b = g ∧ lo ≤ o ∧ o < hi then some (vs.getD o undef) else S b o, S.m⟩
theorem addR_c (S : Stable) (g lo hi : Nat) (vs : List Value) (b o : Nat) : (addR S g lo hi vs).c b o = if b = g ∧ lo ≤ o ∧ o < hi then some (vs.getD o undef) else S b o := rfl

/-- a row laid anew -/
def Hp.setq (m : Hp) (d : Nat) (r : Row) : Hp := { m with q := upd m.q d (some r) }

/-- a row in a new block -/
theorem Sim.newRow (hs : Sim B S M s a w) {d : Nat} {n sz c : Nat} {e : TypeId} {vs : List Value} {w' : World}
    (hd : s.m.q d = none ∨ ∃ n0 sz0 e0, s.m.q d = some (.live n0 sz0 e0) ∧ n0 < n) (hn : n ≤ c) (hc : c ≤ maxLen) (hl : vs.length = c * sz)
    (hw : ∀ k, k < w.heap.size → w'.heap[k]? = w.heap[k]?) (hnew : w'.heap[w.heap.size]? = some (.cells ⟨vs⟩ e (0, 0))) :
    Sim B (addS S w.heap.size (n * sz) vs) { M with ψ := upd M.ψ d w.heap.size, κ := upd M.κ d (c + 1) } (s.with (s.m.setq d (.live n sz e))) a w' := by
  have hkl : n * sz ≤ vs.length := by rw [hl]; exact Nat.mul_le_mul_right _ hn
  have hle : SLe S (addS S w.heap.size (n * sz) vs) := .cells rfl fun b o v hv => by
    rw [addS_c]
    rw [if_neg]
    · exact hv
    · rintro ⟨rfl, _⟩; rw [hs.S_lt (Nat.le_refl _)] at hv; cases hv
  have hlt : w.heap.size < w'.heap.size := (Array.getElem?_eq_some_iff.1 hnew).1
  have g := hs.grow (w' := w') hle (fun b hb => ⟨fun o => by rw [addS_c, if_neg]; rintro ⟨rfl, _⟩; omega, rfl⟩)
    ⟨fun b o v hv => by
      rw [addS_c] at hv
      split at hv
      · rename_i hb
        obtain ⟨rfl, ho⟩ := hb
        rw [cell_of hnew, List.getElem?_eq_getElem (by omega), ← hv, getD_lt (by omega)]
      · have h' := hs.stable b o v hv
        rw [← h']; exact World.cell?_of_block (hw _ (cell_lt h')), fun b es h => (hs.stable.s.old hw).m b es h⟩
    hw (by omega)
  have e1 : ∀ i, i ≠ d → upd M.ψ d w.heap.size i = M.ψ i := fun i h => upd_ne _ _ (Ne.symm h)
  have e2 : ∀ i, i ≠ d → upd M.κ d (c + 1) i = M.κ i := fun i h => upd_ne _ _ (Ne.symm h)
  have e3 : ∀ i, i ≠ d → upd s.m.q d (some (.live n sz e)) i = s.m.q i := fun i h => upd_ne _ _ (Ne.symm h)
  have rep : ∀ {v p}, RepS (addS S w.heap.size (n * sz) vs) M s.m.q v p → (∀ i ∈ p.ids, Live s.m i) →
      RepS (addS S w.heap.size (n * sz) vs) { M with ψ := upd M.ψ d w.heap.size, κ := upd M.κ d (c + 1) } (upd s.m.q d (some (.live n sz e))) v p := fun r hids =>
    r.heap (SLe.refl _) (fun _ _ => rfl) (fun i hi n' sz' e' hq => by
      by_cases ei : i = d
      · subst ei
        rcases hd with hd | ⟨n0, sz0, e0, hd, h0⟩
        · exact absurd hd (hids _ hi)
        · rw [upd_same] at hq
          cases hq
          exact .inr ⟨n0, sz0, e0, hd, h0⟩
      · rw [e3 i ei] at hq
        exact .inl ⟨hq, e2 i ei, e1 i ei⟩)
  have live : ∀ i, Live s.m i → Live (s.m.setq d (.live n sz e)) i := fun i h => by
    cases i with
    | b i => exact h
    | r i =>
      show upd _ _ _ _ ≠ none
      by_cases ei : i = d
      · subst ei; rw [upd_same]; simp
      · rw [e3 i ei]; exact h
  refine ⟨g.defers, g.hn, g.hB, g.stable, fun i => rep (g.fr i) (hs.ids i), fun i j hj => live j (hs.ids i j hj), fun i b hb => ?_, fun i r hr => ?_, hs.inj, ?_, ?_⟩
  · have hb' := g.blk i b hb
    show BlkOk _ _ _ _ _ _ _ (s.m.z i)
    cases hz : s.m.z i with
    | false =>
      rw [hz] at hb'
      obtain ⟨h1, h2, ⟨us, t', h3, h4, h5⟩, h6⟩ := hb'
      exact ⟨h1, h2, ⟨us, t', h3, h4, fun j hj => rep (h5 j hj) (fun k hk => h6 _ (getD_mem hj) k hk)⟩, fun c hc k hk => live k (h6 c hc k hk)⟩
    | true => rw [hz] at hb'; exact hb'
  · simp only [St.with, Hp.setq] at hr
    by_cases ei : i = d
    · subst ei
      rw [upd_same] at hr
      cases hr
      refine ⟨fun h0 => by simp [upd_same] at h0, fun c' hc' => ?_⟩
      simp only [upd_same, Nat.add_right_cancel_iff] at hc'
      subst hc'
      refine ⟨hn, hc, by simp only [upd_same]; exact hs.new_ok, ⟨vs, by simp only [upd_same]; exact hnew, hl⟩, fun o ho => ?_⟩
      simp only [upd_same]
      rw [addS_c]
      rw [if_neg (by omega)]
      exact hs.S_lt (Nat.le_refl _)
    · rw [e3 i ei] at hr
      have hr' := g.row i r hr
      cases r with
      | live n' sz' e' =>
        obtain ⟨h1, h2⟩ := hr'
        refine ⟨fun h0 => h1 (by simpa only [e2 i ei] using h0), fun c' hc' => ?_⟩
        simp only [e2 i ei, e1 i ei] at hc' ⊢
        exact h2 c' hc'
      | dead => trivial
  · intro i j n1 z1 t1 n2 z2 t2 hi hj ki kj hij
    simp only [St.with, Hp.setq] at hi hj ki kj ⊢
    by_cases ei : i = d
    · subst ei
      rw [e3 j (Ne.symm hij)] at hj
      rw [e2 j (Ne.symm hij)] at kj
      rw [upd_same, e1 j (Ne.symm hij)]
      have := hs.row_lt hj kj
      omega
    · by_cases ej : j = d
      · subst ej
        rw [e3 i ei] at hi
        rw [e2 i ei] at ki
        rw [upd_same, e1 i ei]
        have := hs.row_lt hi ki
        omega
      · rw [e3 i ei] at hi; rw [e3 j ej] at hj
        rw [e2 i ei] at ki; rw [e2 j ej] at kj
        rw [e1 i ei, e1 j ej]
        exact hs.injq i j _ _ _ _ _ _ hi hj ki kj hij
  · intro i j ds n1 z1 t1 hi zi hj kj
    simp only [St.with, Hp.setq] at hi zi hj kj ⊢
    by_cases ej : j = d
    · subst ej
      rw [upd_same]
      have := hs.blk_lt hi zi
      omega
    · rw [e3 j ej] at hj; rw [e2 j ej] at kj
      rw [e1 j ej]
      exact hs.injx i j _ _ _ _ hi zi hj kj

/-- a row that grows where it lies -/
theorem Sim.growRow (hs : Sim B S M s a w) {d : Nat} {n m sz c : Nat} {e : TypeId} {news : List Value} (hd : s.m.q d = some (.live n sz e)) (hk : M.κ d = c + 1) (hm : n + m ≤ c) (hl : news.length = m * sz) :
    ∃ vs, w.heap[M.ψ d]? = some (.cells ⟨vs⟩ e (0, 0)) ∧ vs.length = c * sz ∧ ¬ B (M.ψ d) ∧ (∀ o, n * sz ≤ o → S (M.ψ d) o = none) ∧
      let vs' := vs.take (n * sz) ++ news ++ vs.drop (n * sz + news.length)
      Sim B (addR S (M.ψ d) (n * sz) ((n + m) * sz) vs') M (s.with (s.m.setq d (.live (n + m) sz e))) a (w.setRow (M.ψ d) ⟨vs'⟩) := by
  obtain ⟨_, hrow⟩ := hs.row d _ hd
  obtain ⟨r0, r0', r1, ⟨vs, r2, r3⟩, r4⟩ := hrow c hk
  refine ⟨vs, r2, r3, r1, r4, ?_⟩
  have hmul : (n + m) * sz ≤ c * sz := Nat.mul_le_mul_right _ hm
  have hsum : (n + m) * sz = n * sz + news.length := by rw [Nat.add_mul, hl]
  have hv' : (vs.take (n * sz) ++ news ++ vs.drop (n * sz + news.length)).length = c * sz := by
    simp only [List.length_append, List.length_take, List.length_drop]; omega
  intro vs'
  have hold : ∀ k, k ≠ M.ψ d → (w.setRow (M.ψ d) ⟨vs'⟩).heap[k]? = w.heap[k]? := fun k hk => setRow_old hk
  have hnew : (w.setRow (M.ψ d) ⟨vs'⟩).heap[M.ψ d]? = some (.cells ⟨vs'⟩ e (0, 0)) := setRow_new r2
  have hlt : M.ψ d < w.heap.size := (Array.getElem?_eq_some_iff.1 r2).1
  have hle : SLe S (addR S (M.ψ d) (n * sz) ((n + m) * sz) vs') := .cells rfl fun b o v hv => by
    show (if _ then _ else _) = some v
    rw [if_neg]
    · exact hv
    · rintro ⟨rfl, h1, _⟩; rw [r4 o h1] at hv; cases hv
  have e3 : ∀ i, i ≠ d → upd s.m.q d (some (.live (n + m) sz e)) i = s.m.q i := fun i h => upd_ne _ _ (Ne.symm h)
  have rep : ∀ {v p}, RepS S M s.m.q v p → RepS (addR S (M.ψ d) (n * sz) ((n + m) * sz) vs') M (upd s.m.q d (some (.live (n + m) sz e))) v p := fun r =>
    r.heap hle (fun _ _ => rfl) (fun i hi n' sz' e' hq => by
      by_cases ei : i = d
      · subst ei
        rw [upd_same] at hq
        cases hq
        by_cases h0 : m = 0
        · subst h0; exact .inl ⟨hd, rfl, rfl⟩
        · exact .inr ⟨n, sz, e, hd, by omega⟩
      · rw [e3 i ei] at hq
        exact .inl ⟨hq, rfl, rfl⟩)
  have live : ∀ i, Live s.m i → Live (s.m.setq d (.live (n + m) sz e)) i := fun i h => by
    cases i with
    | b i => exact h
    | r i =>
      show upd _ _ _ _ ≠ none
      by_cases ei : i = d
      · subst ei; rw [upd_same]; simp
      · rw [e3 i ei]; exact h
  have back : ∀ {i n1 z1 t1}, upd s.m.q d (some (.live (n + m) sz e)) i = some (.live n1 z1 t1) → ∃ n2 z2 t2, s.m.q i = some (.live n2 z2 t2) := fun {i n1 z1 t1} h => by
    by_cases ei : i = d
    · subst ei; exact ⟨_, _, _, hd⟩
    · rw [e3 i ei] at h; exact ⟨_, _, _, h⟩
  refine ⟨hs.defers, hs.hn, by rw [setRow_size]; exact hs.hB, hs.stable.move hle (fun b c hc => (hs.stable.o b c hc).2.1) ⟨fun b o v hv => ?_, fun b es he => ?_⟩ (fun b c hc => hold b (fun e => by subst e; obtain ⟨es, h, _⟩ := (hs.stable.o _ c hc).2.2; rw [r2] at h; cases h)) (fun b x hx => hold b (fun e => by subst e; have h := (hs.stable.i _ x hx).2; unfold IterAt at h; rw [r2] at h; cases h)), fun i => rep (hs.fr i), fun i j hj => live j (hs.ids i j hj), fun i b hb => ?_, fun i r hr => ?_, hs.inj, ?_, ?_⟩
  · rw [addR_c] at hv
    split at hv
    · rename_i hb
      obtain ⟨rfl, ho1, ho2⟩ := hb
      rw [cell_of hnew, List.getElem?_eq_getElem (by rw [hv']; omega), ← hv, getD_lt (by rw [hv']; omega)]
    · rename_i hb
      have h' := hs.stable b o v hv
      by_cases eb : b = M.ψ d
      · subst eb
        have ho : o < n * sz := by
          refine Decidable.byContradiction fun h => ?_
          rw [r4 o (by omega)] at hv; cases hv
        rw [cell_of r2] at h'
        rw [cell_of hnew]
        show (vs.take (n * sz) ++ news ++ vs.drop (n * sz + news.length))[o]? = some v
        rw [List.append_assoc, List.getElem?_append_left (by simp; omega), List.getElem?_take_of_lt ho]
        exact h'
      · rw [← h']; exact World.cell?_of_block (hold b eb)
  · have h' := hs.stable.s.m b es he
    rw [hold b (fun e => by subst e; rw [r2] at h'; cases h')]; exact h'
  · have hb' := hs.blk i b hb
    show BlkOk _ _ _ _ _ _ _ (s.m.z i)
    cases hz : s.m.z i with
    | false =>
      rw [hz] at hb'
      obtain ⟨h1, h2, ⟨us, t', h3, h4, h5⟩, h6⟩ := hb'
      have hne := hs.injx i d _ _ _ _ hb hz hd (by omega)
      refine ⟨h1, fun o => ?_, ⟨us, t', by rw [hold _ hne]; exact h3, h4, fun j hj => rep (h5 j hj)⟩, fun c hc k hk => live k (h6 c hc k hk)⟩
      show (if _ then _ else _) = none
      rw [if_neg (fun h => hne h.1)]; exact h2 o
    | true => rw [hz] at hb'; obtain ⟨vals, hv⟩ := hb'; exact ⟨vals, fun j hj => ⟨hle _ _ _ (hv j hj).1, (hv j hj).2.mono hle⟩⟩
  · simp only [St.with, Hp.setq] at hr
    by_cases ei : i = d
    · subst ei
      rw [upd_same] at hr
      cases hr
      refine ⟨fun h0 => by omega, fun c' hc' => ?_⟩
      obtain rfl : c' = c := by omega
      refine ⟨hm, r0', r1, ⟨vs', hnew, hv'⟩, fun o ho => ?_⟩
      show (if _ then _ else _) = none
      rw [if_neg (by omega)]
      exact r4 o (by rw [Nat.add_mul] at ho; omega)
    · rw [e3 i ei] at hr
      have hr' := hs.row i r hr
      cases r with
      | live n' sz' e' =>
        obtain ⟨h1, h2⟩ := hr'
        refine ⟨h1, fun c' hc' => ?_⟩
        obtain ⟨g0, g0', g1, ⟨us, g2, g3⟩, g4⟩ := h2 c' hc'
        have hne := hs.injq i d _ _ _ _ _ _ hr hd (by omega) (by omega) ei
        refine ⟨g0, g0', g1, ⟨us, by rw [hold _ hne]; exact g2, g3⟩, fun o ho => ?_⟩
        show (if _ then _ else _) = none
        rw [if_neg (fun h => hne h.1)]; exact g4 o ho
      | dead => trivial
  · intro i j n1 z1 t1 n2 z2 t2 hi hj ki kj hij
    obtain ⟨_, _, _, hi'⟩ := back hi
    obtain ⟨_, _, _, hj'⟩ := back hj
    exact hs.injq i j _ _ _ _ _ _ hi' hj' ki kj hij
  · intro i j ds n1 z1 t1 hi zi hj kj
    obtain ⟨_, _, _, hj'⟩ := back hj
    exact hs.injx i j _ _ _ _ hi zi hj' kj

/-- a row under another name -/
theorem Sim.moveRow (hs : Sim B S M s a w) {i d : Nat} {n sz : Nat} {e : TypeId} (hi : s.m.q i = some (.live n sz e)) (hd : s.m.q d = none) :
    Sim B S { M with ψ := upd M.ψ d (M.ψ i), κ := upd M.κ d (M.κ i) } (s.with ((s.m.setq i .dead).setq d (.live n sz e))) a w := by
  have hid : i ≠ d := fun h => by subst h; rw [hi] at hd; cases hd
  have e1 : ∀ k, k ≠ d → upd M.ψ d (M.ψ i) k = M.ψ k := fun i h => upd_ne _ _ (Ne.symm h)
  have e2 : ∀ k, k ≠ d → upd M.κ d (M.κ i) k = M.κ k := fun i h => upd_ne _ _ (Ne.symm h)
  have e3 : ∀ k, k ≠ d → k ≠ i → upd (upd s.m.q i (some .dead)) d (some (.live n sz e)) k = s.m.q k := fun k h h' => by rw [upd_ne _ _ (Ne.symm h), upd_ne _ _ (Ne.symm h')]
  have ei : upd (upd s.m.q i (some .dead)) d (some (.live n sz e)) i = some .dead := by rw [upd_ne _ _ (Ne.symm hid), upd_same]
  have rep : ∀ {v p}, RepS S M s.m.q v p → (∀ k ∈ p.ids, Live s.m k) → RepS S { M with ψ := upd M.ψ d (M.ψ i), κ := upd M.κ d (M.κ i) } (upd (upd s.m.q i (some .dead)) d (some (.live n sz e))) v p := fun r hids =>
    r.heap (SLe.refl _) (fun _ _ => rfl) (fun k hk n' sz' e' hq => by
      by_cases h1 : k = d
      · subst h1; exact absurd hd (hids _ hk)
      · by_cases h2 : k = i
        · subst h2; rw [ei] at hq; cases hq
        · rw [e3 k h1 h2] at hq; exact .inl ⟨hq, e2 k h1, e1 k h1⟩)
  have live : ∀ k, Live s.m k → Live ((s.m.setq i .dead).setq d (.live n sz e)) k := fun k h => by
    cases k with
    | b k => exact h
    | r k =>
      show upd (upd s.m.q i (some .dead)) d (some (.live n sz e)) k ≠ none
      by_cases h1 : k = d
      · subst h1; rw [upd_same]; simp
      · by_cases h2 : k = i
        · subst h2; rw [ei]; simp
        · rw [e3 k h1 h2]; exact h
  refine ⟨hs.defers, hs.hn, hs.hB, hs.stable, fun k => rep (hs.fr k) (hs.ids k), fun k j hj => live j (hs.ids k j hj), fun k b hb => ?_, fun k r hr => ?_, hs.inj, ?_, ?_⟩
  · have hb' := hs.blk k b hb
    show BlkOk _ _ _ _ _ _ _ (s.m.z k)
    cases hz : s.m.z k with
    | false =>
      rw [hz] at hb'
      obtain ⟨h1, h2, ⟨us, t', h3, h4, h5⟩, h6⟩ := hb'
      exact ⟨h1, h2, ⟨us, t', h3, h4, fun j hj => rep (h5 j hj) (fun k hk => h6 _ (getD_mem hj) k hk)⟩, fun c hc k hk => live k (h6 c hc k hk)⟩
    | true => rw [hz] at hb'; exact hb'
  · simp only [St.with, Hp.setq] at hr
    by_cases h1 : k = d
    · subst h1
      rw [upd_same] at hr
      cases hr
      have := hs.row i _ hi
      simpa [RowOk, upd_same] using this
    · by_cases h2 : k = i
      · subst h2; rw [ei] at hr; cases hr; trivial
      · rw [e3 k h1 h2] at hr
        have := hs.row k r hr
        cases r with
        | live n' z' t' => simpa only [RowOk, e1 k h1, e2 k h1] using this
        | dead => trivial
  · intro k j n1 z1 t1 n2 z2 t2 hk hj kk kj hkj
    simp only [St.with, Hp.setq] at hk hj kk kj ⊢
    have back : ∀ {k n1 z1 t1}, upd (upd s.m.q i (some .dead)) d (some (.live n sz e)) k = some (.live n1 z1 t1) → k ≠ d → k ≠ i ∧ s.m.q k = some (.live n1 z1 t1) := fun {k _ _ _} h h1 => by
      by_cases h2 : k = i
      · subst h2; rw [ei] at h; cases h
      · rw [e3 k h1 h2] at h; exact ⟨h2, h⟩
    by_cases h1 : k = d
    · subst h1
      have hj1 : j ≠ k := Ne.symm hkj
      obtain ⟨g1, g2⟩ := back hj hj1
      rw [e2 j hj1] at kj
      rw [upd_same] at kk ⊢
      rw [e1 j hj1]
      exact hs.injq i j _ _ _ _ _ _ hi g2 kk kj (Ne.symm g1)
    · obtain ⟨g1, g2⟩ := back hk h1
      rw [e2 k h1] at kk
      by_cases h2 : j = d
      · subst h2
        rw [upd_same] at kj ⊢
        rw [e1 k h1]
        exact hs.injq k i _ _ _ _ _ _ g2 hi kk kj g1
      · obtain ⟨g3, g4⟩ := back hj h2
        rw [e2 j h2] at kj
        rw [e1 k h1, e1 j h2]
        exact hs.injq k j _ _ _ _ _ _ g2 g4 kk kj hkj
  · intro k j ds n1 z1 t1 hk zk hj kj
    simp only [St.with, Hp.setq] at hk zk hj kj ⊢
    by_cases h2 : j = d
    · subst h2
      rw [upd_same] at kj ⊢
      exact hs.injx k i _ _ _ _ hk zk hi kj
    · by_cases h3 : j = i
      · subst h3; rw [ei] at hj; cases hj
      · rw [e3 j h2 h3] at hj
        rw [e2 j h2] at kj
        rw [e1 j h2]
        exact hs.injx k j _ _ _ _ hk zk hj kj
end
end Go.PL

namespace Go.PL
open Go.RowKit
set_option linter.unusedVariables false

/-- each element takes so many cells -/
def Sized (n : Nat) (es : List PV) : Prop := ∀ e ∈ es, e.cells.length = n
/-- each cell of each element is the value of one cell -/
def Atoms (es : List PV) : Prop := ∀ e ∈ es, e.cells.all PV.atom = true

structure EInfo where
  e : TypeId
  size : Nat
  bytes : Nat
/-- a slice type's elements: the type, its cells, its bytes; it has a zero value of as many cells -/
def telem (P : Program) (t : TypeId) : Option EInfo :=
  match P.underlying t with
  | some (.slice e) => match P.info? e with
    | some i => match i.zero with
      | some z => if z.cells.size = i.size ∧ 0 < i.size then some ⟨e, i.size, i.bytes⟩ else none
      | none => none
    | none => none
  | _ => none
theorem telem_spec {P : Program} {t : TypeId} {x : EInfo} (h : telem P t = some x) : ∃ i z, P.underlying t = some (.slice x.e) ∧ P.info? x.e = some i ∧ i.zero = some z ∧ z.cells.size = x.size ∧ i.size = x.size ∧ i.bytes = x.bytes ∧ 0 < x.size ∧ tsz P x.e = x.size := by
  unfold telem at h
  split at h
  · rename_i e he
    split at h
    · rename_i i hi
      split at h
      · rename_i z hz
        split at h
        · rename_i hc
          simp only [Option.some.injEq] at h
          subst h
          exact ⟨i, z, he, hi, hz, hc.1, rfl, rfl, hc.2, by simp [tsz, Program.cellsOf, hi]⟩
        · cases h
      · cases h
    · cases h
  · cases h

section
variable {P : Program} {B : Frm} {S : Stable} {M : Maps} {s : St} {a : Act} {w : World}

theorem flat_index {n i j : Nat} (hj : j < n) : (i * n + j) / n = i ∧ (i * n + j) % n = j := by
  have hn : 0 < n := by omega
  exact ⟨by rw [Nat.add_comm, Nat.add_mul_div_right _ _ hn, Nat.div_eq_of_lt hj, Nat.zero_add], by rw [Nat.add_comm, Nat.add_mul_mod_self_right, Nat.mod_eq_of_lt hj]⟩

/-- the cells of a slice that reads as a list -/
theorem Rep.src (hst : ∀ b o v, S b o = some v → w.cell? ⟨b, o, none⟩ = some v) {v : Value} {xs : List PV} {sz : Nat} (r : Rep S v (.sl .no xs)) (hz : Sized sz xs) (hat : Atoms xs) {tx e' : TypeId} (hk : P.underlying tx = some (.slice e')) :
    ∃ news : List Value, Src P sz tx v xs.length news w ∧ ∀ i j, i < xs.length → j < sz → Rep S (news.getD (i * sz + j) undef) ((xs.getD i .any).cells.getD j .any) := by
  by_cases h0 : xs.length = 0
  · have hx : xs = [] := List.eq_nil_of_length_eq_zero h0
    subst hx
    obtain ⟨ad, cap, rfl, _⟩ := r.sl_len
    refine ⟨[], ?_, fun i j hi => by simp at hi⟩
    cases ad with
    | none => exact Src.ofNil w hk cap
    | some ad => exact Src.ofSlice w hk ad 0 cap [] (by simp) (by simp) (by simp)
  · have hpos : 0 < xs.length := by omega
    obtain ⟨b, o, cap, vals, rfl, hcap, hu, hS, hR⟩ := r.sl_at hpos
    have e0 : (xs.getD 0 .any).cells.length = sz := hz _ (getD_mem hpos)
    rw [e0] at hS hR hu
    have key : ∀ k, k < xs.length * sz → (k / sz < xs.length ∧ k % sz < sz ∧ k / sz * sz + k % sz = k) := fun k hk => by
      have hsz : 0 < sz := Nat.pos_of_ne_zero fun h => by subst h; simp at hk
      exact ⟨by rw [Nat.div_lt_iff_lt_mul hsz]; exact hk, Nat.mod_lt _ hsz, by rw [Nat.mul_comm]; exact Nat.div_add_mod k sz⟩
    refine ⟨(List.range (xs.length * sz)).map fun k => vals (k / sz) (k % sz), ?_, fun i j hi hj => ?_⟩
    · refine Src.ofSlice w hk ⟨b, o, none⟩ xs.length cap _ (by simp) (fun k u hu' => ?_) (fun u hu' => ?_)
      · rw [List.getElem?_map] at hu'
        obtain ⟨k', hk', rfl⟩ := Option.map_eq_some_iff.1 hu'
        obtain ⟨h1, h2⟩ := List.getElem?_eq_some_iff.1 hk'
        simp only [List.length_range] at h1
        simp only [List.getElem_range] at h2
        subst h2
        obtain ⟨g1, g2, g3⟩ := key k h1
        rw [add_none]
        have := hst _ _ _ (hS (k / sz) (k % sz) g1 g2)
        rw [Nat.add_assoc, g3] at this
        exact this
      · obtain ⟨k, hk', rfl⟩ := List.mem_map.1 hu'
        obtain ⟨g1, g2, g3⟩ := key k (by simpa using hk')
        have hr := hR (k / sz) (k % sz) g1 g2
        have hc := hz _ (getD_mem (d := PV.any) g1)
        have ha := List.all_eq_true.1 (hat _ (getD_mem (d := PV.any) g1)) _ (getD_mem (d := PV.any) (by rw [hc]; exact g2))
        exact (RepS.clean (M := ⟨id, id, id⟩) (q := fun _ => none) hr).atom_inv ha
    · have hlt : i * sz + j < xs.length * sz := by
        have := Nat.mul_le_mul_right sz (show i + 1 ≤ xs.length by omega)
        rw [Nat.add_mul] at this
        omega
      rw [getD_lt (by simpa using hlt)]
      simp only [List.getElem_map, List.getElem_range]
      obtain ⟨d1, d2⟩ := flat_index (i := i) hj
      rw [d1, d2]
      exact hR i j hi hj

/-- a string's bytes, appended -/
def bytesPV (l : List UInt8) : List PV := l.map fun b => .int .u8 b.toNat

theorem src_string {tx : TypeId} (hk : P.underlying tx = some .string) (l : List UInt8) :
    ∃ news : List Value, Src P 1 tx (.string ⟨⟨l⟩⟩) (bytesPV l).length news w ∧ ∀ i j, i < (bytesPV l).length → j < 1 → Rep S (news.getD (i * 1 + j) undef) (((bytesPV l).getD i .any).cells.getD j .any) := by
  refine ⟨byteCells ⟨⟨l⟩⟩, ?_, fun i j hi hj => ?_⟩
  · have := Src.ofString (P := P) w hk ⟨⟨l⟩⟩
    have e : (⟨⟨l⟩⟩ : ByteArray).size = (bytesPV l).length := by simp [bytesPV, ByteArray.size]
    rw [e] at this
    exact this
  · obtain rfl : j = 0 := by omega
    simp only [bytesPV, List.length_map] at hi
    rw [Nat.mul_one, Nat.add_zero, getD_lt (by simpa [byteCells] using hi)]
    simp only [byteCells, List.getElem_map, bytesPV]
    rw [getD_lt (l := List.map _ l) (by simpa using hi)]
    simp only [List.getElem_map]
    exact .int _ _

/-- the cells of a slice whose elements lie at the head of a block -/
theorem rep_of_cells {b cap sz : Nat} {es : List PV} (hz : Sized sz es) (hcap : es.length ≤ cap) {cells : List Value} (hS : ∀ k, k < es.length * sz → S b k = some (cells.getD k undef))
    (hR : ∀ i j, i < es.length → j < sz → Rep S (cells.getD (i * sz + j) undef) ((es.getD i .any).cells.getD j .any)) : Rep S (.slice (some ⟨b, 0, none⟩) es.length cap) (.sl .no es) := by
  refine .sl b 0 cap sz es (fun i j => cells.getD (i * sz + j) undef) (fun i hi => hz _ (getD_mem hi)) hcap (fun i j hi hj => ?_) hR
  rw [Nat.zero_add]
  apply hS
  have := Nat.mul_le_mul_right sz (show i + 1 ≤ es.length by omega)
  rw [Nat.add_mul] at this
  omega

/-- the cells that a row's own value reads -/
theorem Rep.cells_of {v : Value} {es : List PV} {sz b c : Nat} (r : Rep S v (.sl .no es)) (hv : v = .slice (some ⟨b, 0, none⟩) es.length c) (hz : Sized sz es) :
    ∃ cells : List Value, cells.length = es.length * sz ∧ (∀ k, k < es.length * sz → S b k = some (cells.getD k undef)) ∧ ∀ i j, i < es.length → j < sz → Rep S (cells.getD (i * sz + j) undef) ((es.getD i .any).cells.getD j .any) := by
  by_cases h0 : es.length = 0
  · have hx : es = [] := List.eq_nil_of_length_eq_zero h0
    subst hx
    exact ⟨[], by simp, fun k hk => by simp at hk, fun i j hi => by simp at hi⟩
  · have hpos : 0 < es.length := by omega
    obtain ⟨b', o, cap, vals, e, hcap, hu, hS, hR⟩ := r.sl_at hpos
    rw [hv] at e
    cases e
    have e0 : (es.getD 0 .any).cells.length = sz := hz _ (getD_mem hpos)
    rw [e0] at hS hR hu
    refine ⟨(List.range (es.length * sz)).map fun k => vals (k / sz) (k % sz), by simp, fun k hk => ?_, fun i j hi hj => ?_⟩
    · have hsz : 0 < sz := Nat.pos_of_ne_zero fun h => by subst h; simp at hk
      have := hS (k / sz) (k % sz) (by rw [Nat.div_lt_iff_lt_mul hsz]; exact hk) (Nat.mod_lt _ hsz)
      rw [Nat.zero_add, Nat.mul_comm, Nat.div_add_mod] at this
      rw [getD_lt (by simpa using hk)]
      simpa using this
    · have hlt : i * sz + j < es.length * sz := by
        have := Nat.mul_le_mul_right sz (show i + 1 ≤ es.length by omega)
        rw [Nat.add_mul] at this
        omega
      rw [getD_lt (by simpa using hlt)]
      simp only [List.getElem_map, List.getElem_range]
      obtain ⟨d1, d2⟩ := flat_index (i := i) hj
      rw [d1, d2]
      exact hR i j hi hj

theorem reps_append {es xs : List PV} {sz : Nat} {c1 c2 : List Value} (hl : c1.length = es.length * sz) (h1 : ∀ i j, i < es.length → j < sz → Rep S (c1.getD (i * sz + j) undef) ((es.getD i .any).cells.getD j .any))
    (h2 : ∀ i j, i < xs.length → j < sz → Rep S (c2.getD (i * sz + j) undef) ((xs.getD i .any).cells.getD j .any)) :
    ∀ i j, i < (es ++ xs).length → j < sz → Rep S ((c1 ++ c2).getD (i * sz + j) undef) (((es ++ xs).getD i .any).cells.getD j .any) := by
  intro i j hi hj
  by_cases hlt : i < es.length
  · have hb : i * sz + j < c1.length := by
      have := Nat.mul_le_mul_right sz (show i + 1 ≤ es.length by omega)
      rw [Nat.add_mul] at this
      omega
    rw [getD_append_left hb, getD_append_left hlt]
    exact h1 i j hlt hj
  · have hb : c1.length ≤ i * sz + j := by
      have := Nat.mul_le_mul_right sz (show es.length ≤ i by omega)
      omega
    rw [getD_append_right hb, getD_append_right (by omega)]
    have e : i * sz + j - c1.length = (i - es.length) * sz + j := by
      rw [hl, Nat.sub_mul]
      have := Nat.mul_le_mul_right sz (show es.length ≤ i by omega)
      omega
    rw [e]
    exact h2 _ _ (by simp at hi; omega) hj

theorem Sized.append {n : Nat} {a b : List PV} (ha : Sized n a) (hb : Sized n b) : Sized n (a ++ b) := fun e he => (List.mem_append.1 he).elim (ha e) (hb e)

end
end Go.PL

namespace Go.PL
open Go.RowKit
set_option linter.unusedVariables false

/-- there is room for so many elements of so many bytes -/
def Room (n bytes : Nat) : Prop := n * bytes ≤ 140737488355328 ∧ n ≤ maxLen

theorem upd_upd {α : Type} (f : Nat → α) (i : Nat) (u v : α) : upd (upd f i u) i v = upd f i v := by
  funext j; by_cases e : i = j <;> simp [upd, e]

section
variable {P : Program} {B : Frm} {S : Stable} {M : Maps} {s : St} {a : Act} {w : World}

theorem Sim.world (hs : Sim B S M s a w) {w' : World} (h : w'.heap = w.heap) : Sim B S M s a w' := by
  have hc : ∀ x, w'.cell? x = w.cell? x := fun x => by simp [World.cell?, h]
  exact hs.grow (SLe.refl S) (fun _ _ => ⟨fun _ => rfl, rfl⟩) (hs.stable.s.old (fun k hk => by rw [h])) (fun k hk => by rw [h]) (by rw [h]; exact Nat.le_refl _)

/-- a nil row -/
theorem Sim.nilRow (hs : Sim B S M s a w) {d sz : Nat} {e : TypeId} (hd : s.m.q d = none) : Sim B S { M with κ := upd M.κ d 0 } (s.with (s.m.setq d (.live 0 sz e))) a w := by
  have e2 : ∀ i, i ≠ d → upd M.κ d 0 i = M.κ i := fun i h => upd_ne _ _ (Ne.symm h)
  have e3 : ∀ i, i ≠ d → upd s.m.q d (some (.live 0 sz e)) i = s.m.q i := fun i h => upd_ne _ _ (Ne.symm h)
  have rep : ∀ {v p}, RepS S M s.m.q v p → (∀ i ∈ p.ids, Live s.m i) → RepS S { M with κ := upd M.κ d 0 } (upd s.m.q d (some (.live 0 sz e))) v p := fun r hids =>
    r.heap (SLe.refl _) (fun _ _ => rfl) (fun i hi n' sz' e' hq => by
      by_cases ei : i = d
      · subst ei; exact absurd hd (hids _ hi)
      · rw [e3 i ei] at hq; exact .inl ⟨hq, e2 i ei, rfl⟩)
  have live : ∀ i, Live s.m i → Live (s.m.setq d (.live 0 sz e)) i := fun i h => by
    cases i with
    | b i => exact h
    | r i =>
      show upd _ _ _ _ ≠ none
      by_cases ei : i = d
      · subst ei; rw [upd_same]; simp
      · rw [e3 i ei]; exact h
  refine ⟨hs.defers, hs.hn, hs.hB, hs.stable, fun i => rep (hs.fr i) (hs.ids i), fun i j hj => live j (hs.ids i j hj), fun i b hb => ?_, fun i r hr => ?_, hs.inj, ?_, ?_⟩
  · have hb' := hs.blk i b hb
    show BlkOk _ _ _ _ _ _ _ (s.m.z i)
    cases hz : s.m.z i with
    | false =>
      rw [hz] at hb'
      obtain ⟨h1, h2, ⟨us, t', h3, h4, h5⟩, h6⟩ := hb'
      exact ⟨h1, h2, ⟨us, t', h3, h4, fun j hj => rep (h5 j hj) (fun k hk => h6 _ (getD_mem hj) k hk)⟩, fun c hc k hk => live k (h6 c hc k hk)⟩
    | true => rw [hz] at hb'; exact hb'
  · simp only [St.with, Hp.setq] at hr
    by_cases ei : i = d
    · subst ei
      rw [upd_same] at hr
      cases hr
      exact ⟨fun _ => rfl, fun c hc => by simp [upd_same] at hc⟩
    · rw [e3 i ei] at hr
      have := hs.row i r hr
      cases r with
      | live n' z' t' => simpa only [RowOk, e2 i ei] using this
      | dead => trivial
  · intro i j n1 z1 t1 n2 z2 t2 hi hj ki kj hij
    simp only [St.with, Hp.setq] at hi hj ki kj ⊢
    by_cases ei : i = d
    · subst ei; rw [upd_same] at ki; omega
    · by_cases ej : j = d
      · subst ej; rw [upd_same] at kj; omega
      · rw [e3 i ei] at hi; rw [e3 j ej] at hj; rw [e2 i ei] at ki; rw [e2 j ej] at kj
        exact hs.injq i j _ _ _ _ _ _ hi hj ki kj hij
  · intro i j ds n1 z1 t1 hi zi hj kj
    simp only [St.with, Hp.setq] at hi zi hj kj ⊢
    by_cases ej : j = d
    · subst ej; rw [upd_same] at kj; omega
    · rw [e3 j ej] at hj; rw [e2 j ej] at kj
      exact hs.injx i j _ _ _ _ hi zi hj kj

/-- what an append onto the row d comes to -/
def AppTo (P : Program) (B : Frm) (S : Stable) (s : St) (a : Act) (w : World) (m : Sem Value) (d n sz : Nat) (e : TypeId) (es : List PV) : Prop :=
  ∃ v w' S' M', m.run P w = .ok v w' ∧ Sim B S' M' (s.with (s.m.setq d (.live n sz e))) a w' ∧ Rep S' v (.sl .no es) ∧ es.length = n ∧
    (M'.κ d = 0 → v = .slice none 0 0) ∧ (∀ c, M'.κ d = c + 1 → v = .slice (some ⟨M'.ψ d, 0, none⟩) n c) ∧ Ext B S S' w w'

/-- an append that makes a new row -/
theorem append_new (hs : Sim B S M s a w) {d n : Nat} {t tx ty : TypeId} {x : EInfo} (hx : telem P t = some x) {base : Option Addr} {sLen sCap : Nat} {es ys : List PV} {olds news : List Value} {y : Value}
    (hd : s.m.q d = none ∨ ∃ n0 sz0 e0, s.m.q d = some (.live n0 sz0 e0) ∧ n0 < sLen + ys.length) (hold : (Builtin.firstCells x.size sLen (.slice base sLen sCap)).run P w.drew = .ok olds.toArray w.drew)
    (hle : es.length = sLen) (ho : olds.length = sLen * x.size) (hro : ∀ i j, i < es.length → j < x.size → Rep S (olds.getD (i * x.size + j) undef) ((es.getD i .any).cells.getD j .any))
    (hsrc : Src P x.size tx y ys.length news w) (hrn : ∀ i j, i < ys.length → j < x.size → Rep S (news.getD (i * x.size + j) undef) ((ys.getD i .any).cells.getD j .any))
    (hz1 : Sized x.size es) (hz2 : Sized x.size ys) (hg : sCap < sLen + ys.length) (hroom : Room (sLen + ys.length) x.bytes) :
    AppTo P B S s a w (Builtin.append_ #[t, tx] ty #[.slice base sLen sCap, y]) d (sLen + ys.length) x.size x.e (es ++ ys) := by
  obtain ⟨i, z, h1, h2, h3, h4, h5, h6, h7, h8⟩ := telem_spec hx
  obtain ⟨r1, r2⟩ := hroom
  have h63 : ((sLen + ys.length : Nat) : Int) ≤ 9223372036854775807 := by simp only [maxLen] at r2; omega
  have hrun := run_append_grow_src (P := P) w t tx ty x.e i z h1 h2 h3 base sLen sCap olds (by rw [h5]; exact hold) y ys.length news (by rw [h5]; exact hsrc) hg h63
    (by rw [h6]; exact growslice_fits hg r1)
  have hge := grownCap_ge w (sLen + ys.length) sCap x.e
  have hcm := grownCap_le_maxLen w (sLen + ys.length) sCap x.e r2
  generalize hcap : grownCap w (sLen + ys.length) sCap x.e = cap at *
  have hlen : (olds ++ news).length = (sLen + ys.length) * x.size := by rw [List.length_append, ho, hsrc.newsLen, Nat.add_mul]
  let vs : List Value := olds ++ news ++ (Builtin.zeroCells z.cells (cap - (sLen + ys.length))).toList
  have hvl : vs.length = cap * x.size := by
    show (olds ++ news ++ _).length = _
    have hzl : (Builtin.zeroCells z.cells (cap - (sLen + ys.length))).toList.length = (cap - (sLen + ys.length)) * x.size := by
      rw [Array.length_toList, size_zeroCells, h4]
    rw [List.length_append, hlen, hzl, ← Nat.add_mul]
    congr 1
    omega
  have harr : (olds ++ news).toArray ++ Builtin.zeroCells z.cells (cap - (sLen + ys.length)) = ⟨vs⟩ := by
    apply Array.ext'
    simp [vs]
  rw [harr] at hrun
  have hsim := hs.newRow (w' := w.drew.alloc (.cells ⟨vs⟩ x.e)) hd hge hcm hvl (fun k hk => alloc_heap_old w.drew _ hk) (alloc_heap_new w.drew _)
  have hle' : SLe S (addS S w.heap.size ((sLen + ys.length) * x.size) vs) := .cells rfl fun b o v hv => by
    rw [addS_c]
    rw [if_neg]
    · exact hv
    · rintro ⟨rfl, _⟩; rw [hs.S_lt (Nat.le_refl _)] at hv; cases hv
  refine ⟨_, _, _, _, hrun, hsim, ?_, by simp [hle], ?_, ?_, hle', ?_, ?_⟩
  · have := rep_of_cells (S := addS S w.heap.size ((sLen + ys.length) * x.size) vs) (b := w.heap.size) (cap := cap) (es := es ++ ys) (sz := x.size) (hz1.append hz2) (by simp; omega) (cells := olds ++ news)
      (fun k hk => by
        have hk' : k < (olds ++ news).length := by rw [hlen]; simpa [hle] using hk
        rw [addS_c, if_pos ⟨rfl, by rw [← hlen]; exact hk'⟩]
        show some ((olds ++ news ++ _).getD k undef) = _
        rw [getD_append_left hk'])
      (fun i j hi hj => (reps_append (by rw [ho, hle]) hro hrn i j hi hj).mono hle')
    simpa [hle] using this
  · intro h0; simp [upd_same] at h0
  · intro c hc
    simp only [upd_same, Nat.add_right_cancel_iff] at hc ⊢
    rw [hc]
  · intro b hb
    refine ⟨fun o => ?_, rfl⟩
    rw [addS_c, if_neg]
    rintro ⟨rfl, _⟩
    exact hs.new_ok hb
  · exact ((BelowF.refl B w).drew).alloc hs.hB _

theorem append_room (hs : Sim B S M s a w) {d n c : Nat} {t tx ty : TypeId} {x : EInfo} (hx : telem P t = some x) {es ys : List PV} {news : List Value} {y : Value}
    (hd : s.m.q d = some (.live n x.size x.e)) (hk : M.κ d = c + 1) (hn : es.length = n) (hre : Rep S (.slice (some ⟨M.ψ d, 0, none⟩) n c) (.sl .no es))
    (hsrc : Src P x.size tx y ys.length news w) (hrn : ∀ i j, i < ys.length → j < x.size → Rep S (news.getD (i * x.size + j) undef) ((ys.getD i .any).cells.getD j .any))
    (hz1 : Sized x.size es) (hz2 : Sized x.size ys) (hg : n + ys.length ≤ c) :
    AppTo P B S s a w (Builtin.append_ #[t, tx] ty #[.slice (some ⟨M.ψ d, 0, none⟩) n c, y]) d (n + ys.length) x.size x.e (es ++ ys) := by
  obtain ⟨i, z, h1, h2, h3, h4, h5, h6, h7, h8⟩ := telem_spec hx
  subst hn
  obtain ⟨vs, g1, g2, g3, g3', g4⟩ := hs.growRow (m := ys.length) (news := news) hd hk hg hsrc.newsLen
  simp only at g4
  have hmul : (es.length + ys.length) * x.size ≤ c * x.size := Nat.mul_le_mul_right _ hg
  have hsum : (es.length + ys.length) * x.size = es.length * x.size + news.length := by rw [Nat.add_mul, hsrc.newsLen]
  have hst := run_storeCells_at (P := P) (M.ψ d) (es.length * x.size) x.e news 0 ⟨vs⟩ w g1 (by simp; omega) hsrc.one
  simp only [Nat.add_zero] at hst
  have hrun : (Builtin.append_ #[t, tx] ty #[.slice (some ⟨M.ψ d, 0, none⟩) es.length c, y]).run P w = .ok (.slice (some ⟨M.ψ d, 0, none⟩) (es.length + ys.length) c) (w.setRow (M.ψ d) ⟨vs.take (es.length * x.size) ++ news ++ vs.drop (es.length * x.size + news.length)⟩) := by
    have e5 : (sizeOf x.e).run P w = .ok x.size w := by rw [run_szo h2, h8]
    rcases hsrc.kind with ⟨e', hk'⟩ | hk' <;> simp [Builtin.append_, run_underlying h1, run_underlying hk', e5, hsrc.len, hg, hsrc.cells, Addr.add_lit, hst]
  obtain ⟨cells, hcl, hcS, hcR⟩ := hre.cells_of rfl hz1
  have hle : SLe S (addR S (M.ψ d) (es.length * x.size) ((es.length + ys.length) * x.size) (vs.take (es.length * x.size) ++ news ++ vs.drop (es.length * x.size + news.length))) := .cells rfl fun b o v hv => by
    show (if _ then _ else _) = some v
    rw [if_neg]
    · exact hv
    · rintro ⟨rfl, h1, _⟩
      rw [g3' o h1] at hv
      cases hv
  refine ⟨_, _, _, _, hrun, g4, ?_, by simp, ?_, ?_, hle, ?_, below_setRow g3⟩
  · have := rep_of_cells (b := M.ψ d) (cap := c) (es := es ++ ys) (sz := x.size) (S := addR S (M.ψ d) (es.length * x.size) ((es.length + ys.length) * x.size) (vs.take (es.length * x.size) ++ news ++ vs.drop (es.length * x.size + news.length))) (hz1.append hz2) (by simp; omega) (cells := cells ++ news)
      (fun k hk => by
        simp only [List.length_append] at hk
        show (if _ then _ else _) = _
        by_cases hlt : k < es.length * x.size
        · rw [if_neg (by omega), hcS k hlt, getD_append_left (by omega)]
        · rw [if_pos ⟨rfl, by omega, hk⟩, getD_append_right (l := cells) (by omega), getD_append_left (by simp; omega), getD_append_right (by simp; omega)]
          congr 2
          simp
          omega)
      (fun i j hi hj => (reps_append hcl hcR hrn i j hi hj).mono hle)
    simpa using this
  · intro h0; omega
  · intro c' hc'
    obtain rfl : c' = c := by omega
    rfl
  · intro b hb
    refine ⟨fun o => ?_, rfl⟩
    show (if _ then _ else _) = _
    rw [if_neg]
    rintro ⟨rfl, _⟩
    exact g3 hb

/-- what is appended, as a list -/
def appended (P : Program) (tx : TypeId) (y : PV) : Option (List PV) :=
  match tix P tx, y with
  | .slc _ _, .sl _ ys => some ys
  | .str, .str l => some (bytesPV l)
  | _, _ => none

def aAppend (P : Program) (d : Nat) (t tx : TypeId) (x y : PV) (m : Hp) : ARes :=
  match telem P t, appended P tx y, x with
  | some ei, some ys, .sl .nil _ => ⟨m.q d = none ∧ Sized ei.size ys ∧ Atoms ys ∧ Room ys.length ei.bytes, .sl (.row d) ys, m.setq d (.live ys.length ei.size ei.e)⟩
  | some ei, some ys, .sl (.row id) es => match m.q id with
    | some (.live n sz e) => ⟨n = es.length ∧ sz = ei.size ∧ e = ei.e ∧ (d = id ∨ m.q d = none) ∧ Sized ei.size es ∧ Sized ei.size ys ∧ Atoms ys ∧ Room (es.length + ys.length) ei.bytes,
        .sl (.row d) (es ++ ys), if d = id then m.setq d (.live (es.length + ys.length) ei.size ei.e) else (m.setq id .dead).setq d (.live (es.length + ys.length) ei.size ei.e)⟩
    | _ => .fail
  | _, _, _ => .fail

theorem run_append_nothing' {t tx ty : TypeId} {x : EInfo} (hx : telem P t = some x) {base : Option Addr} {sLen sCap : Nat} (hle : sLen ≤ sCap) {y : Value} {news : List Value} (hs : Src P x.size tx y 0 news w) :
    (Builtin.append_ #[t, tx] ty #[.slice base sLen sCap, y]).run P w = .ok (.slice base sLen sCap) w := by
  obtain ⟨i, z, h1, h2, h3, h4, h5, h6, h7, h8⟩ := telem_spec hx
  have hn : news = [] := List.eq_nil_of_length_eq_zero (by simpa using hs.newsLen)
  subst hn
  exact run_append_nothing w t tx ty x.e i h1 h2 base sLen sCap hle y (by rw [h5]; exact hs)

theorem sound_append (hs : Sim B S M s a w) {d : Nat} {t tx ty : TypeId} {u v : Value} {p y : PV} (hu : RepS S M s.m.q u p) (hui : ∀ i ∈ p.ids, Live s.m i) (hv : RepS S M s.m.q v y)
    (hok : (aAppend P d t tx p y s.m).ok) : Snd P B S s a w (Builtin.append_ #[t, tx] ty #[u, v]) (aAppend P d t tx p y s.m) := by
  have src : ∀ {ei : EInfo} {ys : List PV}, appended P tx y = some ys → Sized ei.size ys → Atoms ys → 0 < ei.size → ∃ news : List Value, Src P ei.size tx v ys.length news w ∧ ∀ i j, i < ys.length → j < ei.size → Rep S (news.getD (i * ei.size + j) undef) ((ys.getD i .any).cells.getD j .any) := by
    intro ei ys hy hz hat hpos
    unfold appended at hy
    split at hy
    · rename_i es2 ea tk ys' heq
      cases hy
      obtain ⟨e, d', ti, h1, _⟩ := tix_slc heq
      exact hv.sl_inv.src hs.stable hz hat h1
    · rename_i l heq
      cases hy
      have h1 := tix_str heq
      rw [hv.str_inv]
      by_cases h0 : l = []
      · subst h0
        refine ⟨[], ?_, fun i j hi => by simp [bytesPV] at hi⟩
        refine ⟨.inr h1, fun _ => rfl, ?_, ?_, by simp [bytesPV], fun _ h => by cases h⟩
        · simp [Builtin.firstCells, bytesPV]
        · simp [Builtin.firstCells, bytesPV]
      · have e1 : ei.size = 1 := by
          obtain ⟨c, l', rfl⟩ := List.exists_cons_of_ne_nil h0
          exact (hz (.int .u8 c.toNat) (by simp [bytesPV])).symm
        rw [e1]
        exact src_string h1 l
    · cases hy
  -- the row keeps its name, or goes under another one
  have close : ∀ {n sz : Nat} {e : TypeId} {es : List PV} {id : Nat} {ok : Prop} {m : Sem Value}, AppTo P B S s a w m id n sz e es → (d = id ∨ (s.m.q d = none ∧ s.m.q id ≠ none)) →
      Snd P B S s a w m ⟨ok, .sl (.row d) es, if d = id then s.m.setq d (.live n sz e) else (s.m.setq id .dead).setq d (.live n sz e)⟩ := by
    intro n sz e es id ok m hap hdi
    obtain ⟨v', w', S', M', h1, h2, h3, h4, h5, h6, h7⟩ := hap
    by_cases hd : d = id
    · subst hd
      refine ⟨v', w', S', M', h1, ?_, ?_, ?_, h7⟩
      · simp only [if_true]; exact h2
      · simp only [if_true]
        refine .row d v' es h3 fun n' sz' e' hq => ?_
        simp only [Hp.setq, upd_same] at hq
        cases hq
        exact ⟨by omega, fun _ => ⟨h5, h6⟩⟩
      · intro i hi
        simp only [PV.ids, List.mem_singleton] at hi
        subst hi
        simp [Live, Hp.setq, upd_same]
    · rcases hdi with hdi | ⟨hdn, hin⟩
      · exact absurd hdi hd
      · have hq1 : (s.with (s.m.setq id (.live n sz e))).m.q id = some (.live n sz e) := upd_same _ _ _
        have hq2 : (s.with (s.m.setq id (.live n sz e))).m.q d = none := by
          show upd s.m.q id _ d = none
          rw [upd_ne _ _ (Ne.symm hd)]; exact hdn
        have h2' := h2.moveRow hq1 hq2
        simp only [St.with, Hp.setq, upd_upd] at h2'
        refine ⟨v', w', S', { M' with ψ := upd M'.ψ d (M'.ψ id), κ := upd M'.κ d (M'.κ id) }, h1, ?_, ?_, ?_, h7⟩
        · simp only [if_neg hd]; exact h2'
        · simp only [if_neg hd]
          refine .row d v' es h3 fun n' sz' e' hq => ?_
          simp only [Hp.setq, upd_same] at hq
          cases hq
          refine ⟨by omega, fun _ => ?_⟩
          simp only [upd_same]
          exact ⟨h5, h6⟩
        · intro i hi
          simp only [PV.ids, List.mem_singleton] at hi
          subst hi
          simp [Live, Hp.setq, upd_same, if_neg hd]
  revert hok
  unfold aAppend
  split
  · rename_i ei ys es hx hy
    rintro ⟨g1, g2, g3, g4⟩
    obtain ⟨i, z, h1, h2, h3, h4, h5, h6, h7, h8⟩ := telem_spec hx
    obtain ⟨news, hsrc, hrn⟩ := src hy g2 g3 h7
    rw [hu.slnil_inv]
    have base : ∀ (w : World), (Builtin.firstCells ei.size 0 (.slice none 0 0)).run P w = .ok ([] : List Value).toArray w := fun w => by simp [Builtin.firstCells]
    by_cases hm : ys.length = 0
    · have e0 : ys = [] := List.eq_nil_of_length_eq_zero hm
      subst e0
      have hrun := run_append_nothing' (ty := ty) hx (base := none) (Nat.le_refl 0) hsrc
      refine ⟨_, w, S, { M with κ := upd M.κ d 0 }, hrun, hs.nilRow g1, ?_, ?_, Ext.refl _ _ _⟩
      · refine .row d _ [] (.sl0 none 0) fun n' sz' e' hq => ?_
        simp only [Hp.setq, upd_same] at hq
        cases hq
        exact ⟨Nat.le_refl _, fun _ => ⟨fun _ => rfl, fun c hc => by simp [upd_same] at hc⟩⟩
      · intro i hi
        simp only [PV.ids, List.mem_singleton] at hi
        subst hi
        simp [Live, Hp.setq, upd_same]
    · have hap := append_new (n := 0) hs (d := d) (ty := ty) hx (.inl g1) (es := []) (olds := []) (base w.drew) rfl (by simp) (fun i j hi => by simp at hi) hsrc hrn (fun _ h => by cases h) g2 (by omega) (by simpa using g4)
      simp only [Nat.zero_add, List.nil_append] at hap
      have := close (ok := s.m.q d = none ∧ Sized ei.size ys ∧ Atoms ys ∧ Room ys.length ei.bytes) hap (.inl rfl)
      simpa using this
  · rename_i ei ys id es hx hy
    split
    · rename_i n sz e hq
      rintro ⟨g0, g1, g2, g3, g4, g5, g6, g7⟩
      subst g0
      subst g1
      subst g2
      obtain ⟨i, z, h1, h2, h3, h4, h5, h6, h7, h8⟩ := telem_spec hx
      obtain ⟨news, hsrc, hrn⟩ := src hy g5 g6 h7
      have hdi : d = id ∨ (s.m.q d = none ∧ s.m.q id ≠ none) := g3.imp (fun h => h) (fun h => ⟨h, by rw [hq]; simp⟩)
      refine close ?_ hdi
      have hrow : Rep S u (.sl .no es) ∧ (M.κ id = 0 → u = .slice none 0 0) ∧ (∀ c, M.κ id = c + 1 → u = .slice (some ⟨M.ψ id, 0, none⟩) es.length c) := by
        cases hu with
        | clean r => cases r
        | row id v es r t => obtain ⟨_, t2⟩ := t _ _ _ hq; exact ⟨r, t2 rfl⟩
      obtain ⟨hre, k0, k1⟩ := hrow
      obtain ⟨r0, r1⟩ := hs.row id _ hq
      have self : s.m.setq id (.live es.length ei.size ei.e) = s.m := by
        have : upd s.m.q id (some (.live es.length ei.size ei.e)) = s.m.q := by
          funext k; by_cases e : id = k
          · subst e; simp [upd, hq]
          · simp [upd, e]
        unfold Hp.setq
        rw [this]
      cases hk : M.κ id with
      | zero =>
        have hu0 := k0 hk
        have he0 : es = [] := List.eq_nil_of_length_eq_zero (r0 hk)
        subst he0
        subst hu0
        by_cases hm : ys.length = 0
        · have e0 : ys = [] := List.eq_nil_of_length_eq_zero hm
          subst e0
          have hrun := run_append_nothing' (ty := ty) hx (base := none) (Nat.le_refl 0) hsrc
          refine ⟨_, w, S, M, hrun, ?_, .sl0 none 0, rfl, fun _ => rfl, fun c hc => (by rw [hk] at hc; cases hc), Ext.refl _ _ _⟩
          simp only [List.length_nil, Nat.add_zero] at self ⊢
          rw [self]
          exact hs
        · have base : ∀ (w : World), (Builtin.firstCells ei.size 0 (.slice none 0 0)).run P w = .ok ([] : List Value).toArray w := fun w => by simp [Builtin.firstCells]
          exact append_new (n := 0) hs (d := id) (ty := ty) hx (.inr ⟨_, _, _, hq, by simp; omega⟩) (es := []) (olds := []) (base w.drew) rfl (by simp) (fun i j hi => by simp at hi) hsrc hrn (fun _ h => by cases h) g5 (by omega) (by simpa using g7)
      | succ c =>
        have hu0 := k1 c hk
        subst hu0
        obtain ⟨q1, q2, q3, ⟨vs, q4, q5⟩, q6⟩ := r1 c hk
        by_cases hroom : es.length + ys.length ≤ c
        · exact append_room hs hx hq hk rfl hre hsrc hrn g4 g5 hroom
        · obtain ⟨cells, hcl, hcS, hcR⟩ := hre.cells_of rfl g4
          refine append_new (n := 0) hs (d := id) (ty := ty) hx (.inr ⟨_, _, _, hq, by omega⟩) (es := es) (olds := cells) ?_ rfl hcl hcR hsrc hrn g4 g5 (by omega) g7
          refine run_firstCells_some w.drew ei.size es.length ⟨M.ψ id, 0, none⟩ es.length c cells hcl (fun j u hj => ?_)
          obtain ⟨hj1, hj2⟩ := List.getElem?_eq_some_iff.1 hj
          have := hs.stable _ _ _ (hcS j (by omega))
          rw [getD_lt hj1, hj2] at this
          rw [add_none, Nat.zero_add]
          exact this
    · exact fun hok => hok.elim
  · exact fun hok => hok.elim

end
end Go.PL

namespace Go.PL
open Go.RowKit
set_option linter.unusedVariables false

def aUn (op : UnOp) (x : PV) (m : Hp) : ARes :=
  match op, x with
  | .not, .bool b => ⟨True, .bool (!b), m⟩
  | .neg, .int k n => ⟨True, .int k (k.wrap (0 - n)), m⟩
  | _, _ => .fail

inductive CvK where
  | int (k : IntKind) | same | bytes | none
/-- which conversions are known -/
def tcv (P : Program) (src dst : TypeId) : CvK :=
  match P.underlying src, P.underlying dst with
  | some _, some (.int k) => .int k
  | some .string, some .string => .same
  | some (.slice e), some .string => match P.underlying e with | some (.int .u8) => .bytes | _ => .none
  | _, _ => .none
/-- the bytes that elements are -/
def bytesOf : List PV → Option (List UInt8)
  | [] => some []
  | .int .u8 n :: r => if 0 ≤ n ∧ n < 256 then (match bytesOf r with | some l => some (UInt8.ofNat n.toNat :: l) | none => none) else none
  | _ :: _ => none

def aConv (P : Program) (src dst : TypeId) (x : PV) (m : Hp) : ARes :=
  match tcv P src dst, x with
  | .int k, .int _ n => ⟨True, .int k (k.wrap n), m⟩
  | .same, .str l => ⟨True, .str l, m⟩
  | .bytes, .sl _ es => match bytesOf es with
    | some l => ⟨True, .str l, m⟩
    | none => .fail
  | .bytes, .osl id off len _ => match m.h id with
    | some cs => match bytesOf ((cs.drop off).take len) with
      | some l => ⟨off + len ≤ cs.length, .str l, m⟩
      | none => .fail
    | none => .fail
  | _, _ => .fail

def aExtract (x : PV) (i : Nat) (m : Hp) : ARes :=
  match x with
  | .tup vs => ⟨i < vs.length, vs.getD i .any, m⟩
  | _ => .fail

def aPick (c x y : PV) (m : Hp) : ARes :=
  match c with
  | .bool true => ⟨True, x, m⟩
  | .bool false => ⟨True, y, m⟩
  | _ => .fail

def aNilCheck (x : PV) (m : Hp) : ARes :=
  match x with
  | .ptr id o => ⟨True, .ptr id o, m⟩
  | .rptr cs => ⟨True, .rptr cs, m⟩
  | .fn f cs => ⟨True, .fn f cs, m⟩
  | _ => .fail

inductive LenK where
  | arr (n : Nat) | slc | str | none
def tlen (P : Program) (t : TypeId) : LenK :=
  match P.underlying t with
  | some (.array n _) => .arr n
  | some (.slice _) => .slc
  | some .string => .str
  | some (.pointer e) => match P.underlying e with | some (.array n _) => .arr n | _ => .none
  | _ => .none

def aLen (P : Program) (t : TypeId) (x : PV) (m : Hp) : ARes :=
  match tlen P t, x with
  | .arr n, _ => ⟨True, .int .i64 n, m⟩
  | .slc, .sl _ es => ⟨True, .int .i64 es.length, m⟩
  | .slc, .osl _ _ n _ => ⟨True, .int .i64 n, m⟩
  | .str, .str l => ⟨True, .int .i64 l.length, m⟩
  | _, _ => .fail

def aMax (x y : PV) (m : Hp) : ARes :=
  match x, y with
  | .int k a, .int k' b => ⟨k = k', .int k (max a b), m⟩
  | _, _ => .fail
def aMin (x y : PV) (m : Hp) : ARes :=
  match x, y with
  | .int k a, .int k' b => ⟨k = k', .int k (min a b), m⟩
  | _, _ => .fail

section
variable {P : Program} {B : Frm} {S : Stable} {M : Maps} {s : St} {a : Act} {w : World}

theorem Snd.clean (hs : Sim B S M s a w) {m : Sem Value} {ok : Prop} {p : PV} {v : Value} (hm : m.run P w = .ok v w) (hr : Rep S v p) : Snd P B S s a w m ⟨ok, p, s.m⟩ :=
  Snd.pure hs hm (.clean hr) (fun i hi => absurd hi (hr.clean_ids i))

theorem sound_un (hs : Sim B S M s a w) {op : UnOp} {u : Value} {p : PV} (hu : RepS S M s.m.q u p) (hok : (aUn op p s.m).ok) : Snd P B S s a w (Op.unary op u) (aUn op p s.m) := by
  revert hok
  unfold aUn
  split
  · intro _
    rw [hu.bool_inv]
    exact Snd.clean hs (by simp [Op.unary]) (.bool _)
  · intro _
    rw [hu.int_inv]
    exact Snd.clean hs (by simp [Op.unary, Op.intArith]) (.int _ _)
  · exact fun hok => hok.elim

theorem bytesOf_at : ∀ {es : List PV} {l : List UInt8}, bytesOf es = some l → l.length = es.length ∧ ∀ j (hj : j < l.length), es.getD j .any = .int .u8 (l[j].toNat : Int)
  | [], l, h => by
    simp only [bytesOf, Option.some.injEq] at h
    subst h
    exact ⟨rfl, fun j hj => by simp at hj⟩
  | e :: es, l, h => by
    unfold bytesOf at h
    split at h
    · rename_i he; cases he
    · rename_i n r he
      cases he
      split at h
      · rename_i hn
        split at h
        · rename_i l' hl'
          cases h
          obtain ⟨h1, h2⟩ := bytesOf_at hl'
          refine ⟨by simp [h1], fun j hj => ?_⟩
          cases j with
          | zero =>
            simp only [List.getD_cons_zero, List.getElem_cons_zero]
            congr 1
            rw [UInt8.toNat_ofNat']
            omega
          | succ j => simpa using h2 j (by simpa using hj)
        · cases h
      · cases h
    · cases h
theorem sound_conv (hs : Sim B S M s a w) {src dst : TypeId} {u : Value} {p : PV} (hu : RepS S M s.m.q u p) (hok : (aConv P src dst p s.m).ok) : Snd P B S s a w (convert src dst u) (aConv P src dst p s.m) := by
  revert hok
  unfold aConv
  split
  · rename_i k k' n heq
    intro _
    rw [hu.int_inv]
    unfold tcv at heq
    split at heq
    · rename_i d k0 h1 h2
      cases heq
      exact Snd.clean hs (by simp [convert, run_und h1, run_und h2, Conv.intToInt]) (.int _ _)
    · cases heq
    · split at heq <;> cases heq
    · cases heq
  · rename_i l heq
    intro _
    rw [hu.str_inv]
    unfold tcv at heq
    split at heq
    · cases heq
    · rename_i h1 h2
      exact Snd.clean hs (by simp [convert, run_und h1, run_und h2]) (.str _)
    · split at heq <;> cases heq
    · cases heq
  · rename_i t es heq
    split
    · rename_i l hl
      intro _
      obtain ⟨b1, b2⟩ := bytesOf_at hl
      have hr := hu.sl_inv
      have ty : ∃ e, P.underlying src = some (.slice e) ∧ P.underlying e = some (.int .u8) ∧ P.underlying dst = some .string := by
        unfold tcv at heq
        split at heq
        · cases heq
        · cases heq
        · rename_i e h1 h2
          split at heq
          · rename_i h3; exact ⟨e, h1, h3, h2⟩
          · cases heq
        · cases heq
      obtain ⟨e, t1, t2, t3⟩ := ty
      cases hr with
      | sl0 a0 cap =>
        have : l = [] := List.eq_nil_of_length_eq_zero (by simpa using b1)
        subst this
        cases a0 with
        | none => exact Snd.clean hs (v := .string ⟨⟨[]⟩⟩) (by rw [run_convert_bytes_string w src dst e none 0 cap t1 t2 t3]; simp [Conv.bytesToString]; rfl) (.str [])
        | some ad => exact Snd.clean hs (v := .string ⟨⟨[]⟩⟩) (run_convert_bytes_back w src dst e ad cap [] t1 t2 t3 (fun j hj => by simp at hj)) (.str [])
      | sl b o cap sz _ vals hsz hcap hS hR =>
        have key := run_convert_bytes_back (P := P) w src dst e ⟨b, o, none⟩ cap l t1 t2 t3 (fun j hj => by
          have hj' : j < es.length := by rw [← b1]; exact hj
          have e1 := b2 j hj
          have s1 : sz = 1 := by have := hsz j hj'; rw [e1] at this; simpa [PV.cells] using this.symm
          subst s1
          have r1 := hR j 0 hj' (by omega)
          rw [e1] at r1
          have r2 : vals j 0 = .int .u8 (l[j].toNat : Int) := by
            simp only [PV.cells, List.getD_cons_zero] at r1
            exact (RepS.clean (M := M) (q := s.m.q) r1).int_inv
          have := hs.stable _ _ _ (hS j 0 hj' (by omega))
          rw [r2, Nat.mul_one, Nat.add_zero] at this
          rw [add_none]
          exact this)
        rw [b1] at key
        exact Snd.clean hs key (.str l)
    · exact fun hok => hok.elim
  · rename_i id off len sz heq
    split
    · rename_i cs hcs
      split
      · rename_i l hl
        intro hle
        obtain ⟨b1, b2⟩ := bytesOf_at hl
        have ty : ∃ e, P.underlying src = some (.slice e) ∧ P.underlying e = some (.int .u8) ∧ P.underlying dst = some .string := by
          unfold tcv at heq
          split at heq
          · cases heq
          · cases heq
          · rename_i e h1 h2
            split at heq
            · rename_i h3; exact ⟨e, h1, h3, h2⟩
            · cases heq
          · cases heq
        obtain ⟨e, t1, t2, t3⟩ := ty
        obtain ⟨cap, _, rfl⟩ := hu.osl_inv
        have hh : ∃ vals : Nat → Value, (∀ j, j < cs.length → w.cell? ⟨M.φ id, j, none⟩ = some (vals j)) ∧ (∀ j, j < cs.length → RepS S M s.m.q (vals j) (cs.getD j .any)) := by
          have hb := hs.blk id _ hcs
          cases hz : s.m.z id with
          | false =>
            rw [hz] at hb
            obtain ⟨_, _, ⟨vs, ty, h3, h4, h5⟩, h6⟩ := hb
            refine ⟨fun j => vs.getD j undef, fun j hj => ?_, h5⟩
            rw [cell_of h3, List.getElem?_eq_getElem (by omega)]
            show some _ = some (vs.getD j undef)
            rw [getD_lt (by omega)]
          | true =>
            rw [hz] at hb
            obtain ⟨vals, hv⟩ := hb
            exact ⟨vals, fun j hj => hs.stable _ _ _ (hv j hj).1, fun j hj => .clean (hv j hj).2⟩
        obtain ⟨vals, hc, hr⟩ := hh
        have hlen : l.length = len := by rw [b1]; simp; omega
        have key := run_convert_bytes_back (P := P) w src dst e ⟨M.φ id, off, none⟩ cap l t1 t2 t3 (fun j hj => by
          have e1 := b2 j hj
          have hj' : off + j < cs.length := by omega
          have e2 : ((cs.drop off).take len).getD j .any = cs.getD (off + j) .any := by
            simp only [List.getD_eq_getElem?_getD]
            rw [List.getElem?_take_of_lt (by omega), List.getElem?_drop]
          rw [e2] at e1
          have r1 := hr _ hj'
          rw [e1] at r1
          rw [add_none, hc _ hj', r1.int_inv])
        rw [hlen] at key
        exact Snd.clean hs key (.str l)
      · exact fun hok => hok.elim
    · exact fun hok => hok.elim
  · exact fun hok => hok.elim

theorem sound_extract (hs : Sim B S M s a w) {u : Value} {p : PV} {i : Nat} (hu : RepS S M s.m.q u p) (hui : ∀ i ∈ p.ids, Live s.m i) (hok : (aExtract p i s.m).ok) : Snd P B S s a w (Instr.extract u i) (aExtract p i s.m) := by
  revert hok
  unfold aExtract
  split
  · rename_i vs
    intro hi
    simp only at hi
    obtain ⟨us, rfl, hl, hr⟩ := hu.tup_inv
    refine Snd.pure hs (v := us.getD i undef) ?_ (hr i hi) (fun k hk => hui k (PV.mem_idsL.2 ⟨_, getD_mem hi, hk⟩))
    rw [getD_lt (by omega)]
    have : i < us.length := by omega
    simp [Instr.extract, this]
  · exact fun hok => hok.elim

theorem sound_len (hs : Sim B S M s a w) {t ty : TypeId} {u : Value} {p : PV} (hu : RepS S M s.m.q u p) (hok : (aLen P t p s.m).ok) : Snd P B S s a w (Builtin.len_ #[t] ty #[u]) (aLen P t p s.m) := by
  revert hok
  unfold aLen
  split
  · rename_i n x heq
    intro _
    unfold tlen at heq
    split at heq
    · rename_i h1
      cases heq
      exact Snd.clean hs (by simp [Builtin.len_, run_und h1, goInt]) (.int _ _)
    · cases heq
    · cases heq
    · rename_i e h1
      split at heq
      · rename_i h2
        cases heq
        exact Snd.clean hs (by simp [Builtin.len_, run_und h1, run_und h2, goInt]) (.int _ _)
      · cases heq
    · cases heq
  · rename_i tk es heq
    intro _
    obtain ⟨ad, cap, rfl, _⟩ := hu.sl_inv.sl_len
    unfold tlen at heq
    split at heq
    · cases heq
    · rename_i h1
      exact Snd.clean hs (by simp [Builtin.len_, run_und h1, goInt]) (.int _ _)
    · cases heq
    · split at heq <;> cases heq
    · cases heq
  · rename_i id off n sz heq
    intro _
    obtain ⟨cap, _, rfl⟩ := hu.osl_inv
    unfold tlen at heq
    split at heq
    · cases heq
    · rename_i h1
      exact Snd.clean hs (by simp [Builtin.len_, run_und h1, goInt]) (.int _ _)
    · cases heq
    · split at heq <;> cases heq
    · cases heq
  · rename_i l heq
    intro _
    rw [hu.str_inv]
    unfold tlen at heq
    split at heq
    · cases heq
    · cases heq
    · rename_i h1
      exact Snd.clean hs (v := .int .i64 l.length) (by simp [Builtin.len_, run_und h1, goInt]; rfl) (.int _ _)
    · split at heq <;> cases heq
    · cases heq
  · exact fun hok => hok.elim

theorem sound_max (hs : Sim B S M s a w) {ts : Array TypeId} {ty : TypeId} {u v : Value} {p q : PV} (hu : RepS S M s.m.q u p) (hv : RepS S M s.m.q v q) (hok : (aMax p q s.m).ok) : Snd P B S s a w (Builtin.max_ ts ty #[u, v]) (aMax p q s.m) := by
  revert hok
  unfold aMax
  split
  · rename_i k x k' y
    intro hk
    rw [hu.int_inv, hv.int_inv]
    simp only at hk
    subst hk
    have e : (if y > x then y else x) = max x y := by rw [Int.max_def]; split <;> split <;> omega
    exact Snd.clean hs (v := .int k (max x y)) (by simp [Builtin.max_, Builtin.max2]; omega) (.int _ _)
  · exact fun hok => hok.elim
theorem sound_min (hs : Sim B S M s a w) {ts : Array TypeId} {ty : TypeId} {u v : Value} {p q : PV} (hu : RepS S M s.m.q u p) (hv : RepS S M s.m.q v q) (hok : (aMin p q s.m).ok) : Snd P B S s a w (Builtin.min_ ts ty #[u, v]) (aMin p q s.m) := by
  revert hok
  unfold aMin
  split
  · rename_i k x k' y
    intro hk
    rw [hu.int_inv, hv.int_inv]
    simp only at hk
    subst hk
    exact Snd.clean hs (v := .int k (min x y)) (by simp [Builtin.min_, Builtin.min2]; omega) (.int _ _)
  · exact fun hok => hok.elim
end
end Go.PL

namespace Go.PL
open Go.RowKit
set_option linter.unusedVariables false

/-- parts laid over cells: 'place i': where part i lies, and how many cells it takes -/
def fillPV (place : Nat → Option (Nat × Nat)) : List PV → List (Nat × PV) → Option (List PV)
  | cs, [] => some cs
  | cs, (i, p) :: rest => match place i with
    | none => none
    | some (o, sz) => if p.known = true ∧ p.cells.length = sz ∧ o + sz ≤ cs.length then fillPV place (splice cs o p.cells) rest else none

inductive BdK where
  | str (fs : List (Nat × Nat)) (z : List PV)
  | arr (esz : Nat) (z : List PV)
  | none
/-- how a struct or an array is laid out, and its zero cells -/
def tbd (P : Program) (t : TypeId) : BdK :=
  match P.info? t with
  | some i => match i.zero with
    | some z => match P.underlying t with
      | some (.struct fs) => if (fs.all fun f => (P.info? f.type).isSome) && (ofVal z).known then .str (fs.toList.map fun f => (f.offset, tsz P f.type)) (ofVal z).cells else .none
      | some (.array _ e) => if (P.info? e).isSome && (ofVal z).known then .arr (tsz P e) (ofVal z).cells else .none
      | _ => .none
    | none => .none
  | none => .none

def aBuild (P : Program) (t : TypeId) (parts : List (Nat × PV)) (m : Hp) : ARes :=
  match tbd P t with
  | .str fs z => match fillPV (fs[·]?) z parts with
    | some cs => ⟨True, .agg cs, m⟩
    | none => .fail
  | .arr esz z => match fillPV (fun i => some (i * esz, esz)) z parts with
    | some cs => ⟨True, .agg cs, m⟩
    | none => .fail
  | .none => .fail

section
variable {P : Program} {B : Frm} {S : Stable} {M : Maps} {s : St} {a : Act} {w : World}

theorem foldl_set (l : List Value) : ∀ (k : Nat) (cs : Array Value) (off : Nat), off + k + l.length ≤ cs.size →
    (l.zipIdx k).foldl (fun cs x => cs.setIfInBounds (off + x.2) x.1) cs = ⟨cs.toList.take (off + k) ++ l ++ cs.toList.drop (off + k + l.length)⟩ := by
  induction l with
  | nil => intro k cs off h; simp
  | cons v l ih =>
    intro k cs off h
    simp only [List.zipIdx_cons, List.foldl_cons]
    rw [ih (k + 1) _ off (by simp at h ⊢; omega)]
    congr 1
    simp only [Array.toList_setIfInBounds]
    apply List.ext_getElem?
    intro j
    simp only [List.length_cons] at h
    have hk : off + k < cs.toList.length := by simp; omega
    simp only [List.append_assoc, List.getElem?_append, List.length_take, List.length_set, Array.length_toList, List.getElem?_take, List.getElem?_drop, List.getElem?_set, List.length_cons]
    have m1 : min (off + (k + 1)) cs.size = off + k + 1 := by omega
    have m2 : min (off + k) cs.size = off + k := by omega
    rw [m1, m2]
    by_cases c1 : j < off + k
    · have : j < off + k + 1 := by omega
      have h3 : ¬ off + k = j := by omega
      simp [c1, this, h3]
      omega
    · by_cases c2 : j = off + k
      · subst c2
        have : off + k < cs.size := by omega
        simp [this]
      · have c3 : ¬ j < off + k + 1 := by omega
        simp only [c1, c3, if_false]
        have e1 : j - (off + k) = (j - (off + k + 1)) + 1 := by omega
        rw [e1]
        simp only [List.length_cons, List.getElem?_cons_succ]
        by_cases c4 : j - (off + k + 1) < l.length
        · have : j - (off + k + 1) + 1 < l.length + 1 := by omega
          simp [c4]
        · have : ¬ j - (off + k + 1) + 1 < l.length + 1 := by omega
          simp only [c4, this, if_false]
          have e2 : ¬ off + k = off + (k + 1) + l.length + (j - (off + k + 1) - l.length) := by omega
          simp only [e2, if_false]
          congr 1
          omega

theorem fill_ok {place : Nat → Option (Nat × Nat)} : ∀ (parts : List (Nat × PV)) (vparts : List (Nat × Value)) (cs cs' : List PV) (vs : List Value),
    vparts.length = parts.length → (∀ i, i < parts.length → (vparts.getD i (0, undef)).1 = (parts.getD i (0, .any)).1 ∧ RepS S M s.m.q (vparts.getD i (0, undef)).2 (parts.getD i (0, .any)).2) →
    RepL S M s.m.q vs cs → fillPV place cs parts = some cs' → ∃ vs', Instr.fill place ⟨vs⟩ vparts = some ⟨vs'⟩ ∧ RepL S M s.m.q vs' cs' ∧ ∀ k ∈ PV.idsL cs', k ∈ PV.idsL cs ∨ ∃ x ∈ parts, k ∈ x.2.ids
  | [], vparts, cs, cs', vs, hl, _, hr, h => by
    have : vparts = [] := List.eq_nil_of_length_eq_zero (by simpa using hl)
    subst this
    simp only [fillPV, Option.some.injEq] at h
    subst h
    exact ⟨vs, rfl, hr, fun k hk => .inl hk⟩
  | (i, p) :: rest, [], cs, cs', vs, hl, _, hr, h => by simp at hl
  | (i, p) :: rest, (i', v) :: vrest, cs, cs', vs, hl, hp, hr, h => by
    obtain ⟨h0, hv⟩ := hp 0 (by simp)
    simp only [List.getD_cons_zero] at h0 hv
    subst h0
    simp only [fillPV] at h
    split at h
    · cases h
    · rename_i o sz hpl
      split at h
      · rename_i hc
        obtain ⟨hc1, hc2, hc3⟩ := hc
        obtain ⟨ys, hyc, hyl, hyr⟩ := hv.cells_inv hc1
        have hlen : ys.length = sz := by omega
        have hvl : vs.length = cs.length := hr.1
        have hr' : RepL S M s.m.q (vs.take o ++ ys ++ vs.drop (o + ys.length)) (splice cs o p.cells) := by
          refine ⟨by simp [splice, hvl, hyl], fun j hj => ?_⟩
          have hjl : j < cs.length := by simp [splice] at hj; omega
          unfold splice
          rw [splice_getD (by omega), splice_getD (by omega), hyl]
          split
          · exact hr.2 j hjl
          · split
            · exact hyr _ (by omega)
            · exact hr.2 j hjl
        obtain ⟨vs', e1, e2, e3⟩ := fill_ok rest vrest (splice cs o p.cells) cs' (vs.take o ++ ys ++ vs.drop (o + ys.length)) (by simpa using hl) (fun j hj => by simpa using hp (j + 1) (by simpa using hj)) hr' h
        refine ⟨vs', ?_, e2, fun k hk => ?_⟩
        · simp only [Instr.fill, hpl, hyc]
          have hz : (⟨ys⟩ : Array Value).size = sz := by simp [hlen]
          have hno : ¬ ((decide ((⟨ys⟩ : Array Value).size ≠ sz) || decide (o + (⟨ys⟩ : Array Value).size > (⟨vs⟩ : Array Value).size)) = true) := by
            simp only [List.size_toArray, Bool.or_eq_true, decide_eq_true_eq, not_or]
            omega
          rw [if_neg hno]
          have hf := foldl_set ys 0 ⟨vs⟩ o (by simp; omega)
          simp only [Nat.add_zero] at hf
          have hz2 : Array.foldl (fun cs x => cs.setIfInBounds (o + x.2) x.1) (⟨vs⟩ : Array Value) (Array.zipIdx ⟨ys⟩) = ⟨vs.take o ++ ys ++ vs.drop (o + ys.length)⟩ := by
            rw [← Array.foldl_toList]
            simpa using hf
          first | (rw [hz2]; exact e1) | (simp only [hz2]; exact e1)
        · rcases e3 k hk with h1 | ⟨x, hx, hkx⟩
          · obtain ⟨c, hc, hkc⟩ := PV.mem_idsL.1 h1
            simp only [splice, List.mem_append] at hc
            rcases hc with (hc | hc) | hc
            · exact .inl (PV.mem_idsL.2 ⟨c, List.mem_of_mem_take hc, hkc⟩)
            · exact .inr ⟨(i', p), by simp, cells_ids hc hkc⟩
            · exact .inl (PV.mem_idsL.2 ⟨c, List.mem_of_mem_drop hc, hkc⟩)
          · exact .inr ⟨x, by simp [hx], hkx⟩
      · cases h
end
end Go.PL

namespace Go.PL
open Go.RowKit
set_option linter.unusedVariables false

/-- the elements of a slice literal -/
def elemsOf (n : Nat) (z : PV) (parts : List (Nat × PV)) : List PV := (List.range n).map fun i => ((parts.reverse.find? fun x => x.1 == i).map (·.2)).getD z

section
variable {P : Program} {B : Frm} {S : Stable} {M : Maps} {s : St} {a : Act} {w : World}

theorem run_mapM_list {α β : Type} (g : α → Sem β) (g' : α → β) (w : World) : ∀ (l : List α), (∀ x ∈ l, (g x).run P w = .ok (g' x) w) → (l.mapM g).run P w = .ok (l.map g') w
  | [], _ => by simp
  | x :: l, h => by
    have ih := run_mapM_list g g' w l (fun y hy => h y (by simp [hy]))
    simp [List.mapM_cons, h x (by simp), ih]
theorem run_mapM_array {α β : Type} (g : α → Sem β) (g' : α → β) (w : World) (l : Array α) (h : ∀ x ∈ l, (g x).run P w = .ok (g' x) w) : (l.mapM g).run P w = .ok (l.map g') w := by
  rw [Array.mapM_eq_mapM_toList]
  simp only [Sem.run_map, run_mapM_list g g' w l.toList (fun x hx => h x (by simpa using hx)), Result.andThen_ok]
  congr 1
  apply Array.ext'
  simp

theorem sound_build (hs : Sim B S M s a w) {t : TypeId} {parts : List (Nat × PV)} {vparts : List (Nat × Value)} (hl : vparts.length = parts.length)
    (hp : ∀ i, i < parts.length → (vparts.getD i (0, undef)).1 = (parts.getD i (0, .any)).1 ∧ RepS S M s.m.q (vparts.getD i (0, undef)).2 (parts.getD i (0, .any)).2) (hi : ∀ x ∈ parts, ∀ i ∈ x.2.ids, Live s.m i)
    (hok : (aBuild P t parts s.m).ok) : Snd P B S s a w (Instr.build t ⟨vparts⟩) (aBuild P t parts s.m) := by
  have zero : ∀ {i : TypeInfo} {z : Value}, P.info? t = some i → i.zero = some z → (ofVal z).known = true → (zeroValue t).run P w = .ok z w ∧ ∃ zs : List Value, z.cells = ⟨zs⟩ ∧ RepL S M s.m.q zs (ofVal z).cells ∧ PV.idsL (ofVal z).cells = [] := by
    intro i z h1 h2 hk
    refine ⟨by simp [zeroValue, run_inf h1, h2], ?_⟩
    obtain ⟨zs, e1, e2, e3⟩ := (RepS.clean (S := S) (M := M) (q := s.m.q) (rep_ofVal S z)).cells_inv hk
    refine ⟨zs, e1, ⟨e2, e3⟩, ?_⟩
    have := ids_ofVal z
    cases hz : ofVal z with
    | agg cs => rw [hz] at this; simpa [PV.cells, PV.ids] using this
    | _ => rw [hz] at this; simpa [PV.cells, PV.idsL] using this
  revert hok
  unfold aBuild
  split
  · rename_i fs z heq
    unfold tbd at heq
    split at heq
    · rename_i i h1
      split at heq
      · rename_i zv h2
        split at heq
        · rename_i fds h3
          split at heq
          · rename_i hall
            cases heq
            simp only [Bool.and_eq_true] at hall
            obtain ⟨hz0, zs, hz1, hz2, hz3⟩ := zero h1 h2 hall.2
            split
            · rename_i cs' hf
              intro _
              obtain ⟨vs', e1, e2, e3⟩ := fill_ok (S := S) (M := M) (s := s) parts vparts _ cs' zs hl hp hz2 hf
              refine Snd.pure hs (v := .agg ⟨vs'⟩) ?_ (.agg vs' cs' e2.1 e2.2) (fun k hk => ?_)
              · have hm := run_mapM_array (P := P) (fun f : Field => do pure (f.offset, ← sizeOf f.type)) (fun f => (f.offset, tsz P f.type)) w fds (fun f hf => by
                  have hsome : (P.info? f.type).isSome = true := by
                    have := hall.1
                    rw [Array.all_eq_true'] at this
                    exact this f hf
                  obtain ⟨fi, hfi⟩ := Option.isSome_iff_exists.1 hsome
                  simp [run_szo hfi])
                simp only [Instr.build, Sem.run_bind, hz0, Result.andThen_ok, run_und h3, hm, hz1]
                have hplace : (fun (x : Nat) => (fds.map fun f => (f.offset, tsz P f.type))[x]?) = (fun (x : Nat) => (List.map (fun f : Field => (f.offset, tsz P f.type)) fds.toList)[x]?) := by
                  funext x
                  simp
                rw [hplace, e1]
                simp
              · rcases e3 k (by simpa [PV.ids] using hk) with h | ⟨x, hx, hkx⟩
                · rw [hz3] at h; cases h
                · exact hi x hx k hkx
            · exact fun hok => hok.elim
          · cases heq
        · split at heq <;> cases heq
        · cases heq
      · cases heq
    · cases heq
  · rename_i esz z heq
    unfold tbd at heq
    split at heq
    · rename_i i h1
      split at heq
      · rename_i zv h2
        split at heq
        · split at heq <;> cases heq
        · rename_i n e h3
          split at heq
          · rename_i hall
            cases heq
            simp only [Bool.and_eq_true] at hall
            obtain ⟨hz0, zs, hz1, hz2, hz3⟩ := zero h1 h2 hall.2
            obtain ⟨ei, hei⟩ := Option.isSome_iff_exists.1 hall.1
            split
            · rename_i cs' hf
              intro _
              obtain ⟨vs', e1, e2, e3⟩ := fill_ok (S := S) (M := M) (s := s) parts vparts _ cs' zs hl hp hz2 hf
              refine Snd.pure hs (v := .agg ⟨vs'⟩) ?_ (.agg vs' cs' e2.1 e2.2) (fun k hk => ?_)
              · simp only [Instr.build, Sem.run_bind, hz0, Result.andThen_ok, run_und h3, run_szo hei, hz1, e1]
                simp
              · rcases e3 k (by simpa [PV.ids] using hk) with h | ⟨x, hx, hkx⟩
                · rw [hz3] at h; cases h
                · exact hi x hx k hkx
            · exact fun hok => hok.elim
          · cases heq
        · cases heq
      · cases heq
    · cases heq
  · exact fun hok => hok.elim

end
end Go.PL

namespace Go.PL
open Go.RowKit
set_option linter.unusedVariables false

mutual
/-- the value as it is handed on: no row of the call's own is told -/
def PV.share : PV → PV
  | .sl _ es => .sl .no es
  | .agg cs => .agg (PV.shareL cs)
  | .tup cs => .tup (PV.shareL cs)
  | .fn f cs => .fn f (PV.shareL cs)
  | p => p
def PV.shareL : List PV → List PV
  | [] => []
  | c :: cs => PV.share c :: PV.shareL cs
end
mutual
/-- it leans on no block of the call's own -/
def PV.clean : PV → Bool
  | .ptr _ _ => false
  | .osl _ _ _ _ => false
  | .agg cs => PV.cleanL cs
  | .tup cs => PV.cleanL cs
  | .fn _ cs => PV.cleanL cs
  | _ => true
def PV.cleanL : List PV → Bool
  | [] => true
  | c :: cs => PV.clean c && PV.cleanL cs
end

theorem PV.shareL_length : ∀ (cs : List PV), (PV.shareL cs).length = cs.length
  | [] => rfl
  | c :: cs => by simp [PV.shareL, PV.shareL_length cs]
theorem PV.shareL_getD : ∀ (cs : List PV) (i : Nat), i < cs.length → (PV.shareL cs).getD i .any = (cs.getD i .any).share
  | [], i, h => by simp at h
  | c :: cs, 0, _ => by simp [PV.shareL]
  | c :: cs, i + 1, h => by simpa [PV.shareL] using PV.shareL_getD cs i (by simpa using h)
theorem PV.cleanL_getD : ∀ {cs : List PV} (h : PV.cleanL cs = true) (i : Nat), i < cs.length → (cs.getD i .any).clean = true
  | [], _, i, h => by simp at h
  | c :: cs, hc, 0, _ => by simp [PV.cleanL] at hc ⊢; exact hc.1
  | c :: cs, hc, i + 1, h => by simp [PV.cleanL] at hc; simpa using PV.cleanL_getD hc.2 i (by simpa using h)

theorem share_cells (p : PV) : p.share.cells = PV.shareL p.cells := by
  cases p <;> simp [PV.share, PV.cells, PV.shareL]

theorem clean_cells {p : PV} (h : p.clean = true) {j : Nat} (hj : j < p.cells.length) : (p.cells.getD j .any).clean = true := by
  cases p with
  | agg cs => exact PV.cleanL_getD (cs := cs) (by simpa [PV.clean] using h) j hj
  | _ =>
    simp only [PV.cells, List.length_cons, List.length_nil] at hj
    have : j = 0 := by omega
    subst this
    exact h

theorem Rep.share {S : Stable} {v : Value} {p : PV} (r : Rep S v p) : Rep S v p.share := by
  induction r with
  | agg vs cs hl _ ih => exact .agg vs _ (by rw [PV.shareL_length]; exact hl) (fun i hi => by rw [PV.shareL_length] at hi; rw [PV.shareL_getD cs i hi]; exact ih i hi)
  | tup vs cs hl _ ih => exact .tup vs _ (by rw [PV.shareL_length]; exact hl) (fun i hi => by rw [PV.shareL_length] at hi; rw [PV.shareL_getD cs i hi]; exact ih i hi)
  | fn f vs cs hl _ ih => exact .fn f vs _ (by rw [PV.shareL_length]; exact hl) (fun i hi => by rw [PV.shareL_length] at hi; rw [PV.shareL_getD cs i hi]; exact ih i hi)
  | any v => exact .any v
  | int k n => exact .int k n
  | bool b => exact .bool b
  | str l => exact .str l
  | flt k b => exact .flt k b
  | cpx k a b => exact .cpx k a b
  | sl0 a cap => exact .sl0 a cap
  | slnil => exact .sl0 none 0
  | sl b o cap sz es vals h1 h2 h3 h4 _ => exact .sl b o cap sz es vals h1 h2 h3 h4
  | rptr b o cs vals h1 h2 _ => exact .rptr b o cs vals h1 h2
  | nilp => exact .nilp
  | nilfn => exact .nilfn
  | nilmap => exact .nilmap
  | mref b => exact .mref b
  | iptr b => exact .iptr b
  | rmap b es ks vs h1 h2 h3 h4 h5 h6 _ _ => exact .rmap b es ks vs h1 h2 h3 h4 h5 h6

theorem RepS.share {S : Stable} {M : Maps} {q : Rows} {v : Value} {p : PV} (r : RepS S M q v p) (h : p.clean = true) : Rep S v p.share := by
  induction r with
  | clean r => exact r.share
  | ptr id off => simp [PV.clean] at h
  | osl id off len cap sz hc => simp [PV.clean] at h
  | row id v es r _ => exact r
  | agg vs cs hl _ ih => exact .agg vs _ (by rw [PV.shareL_length]; exact hl) (fun i hi => by rw [PV.shareL_length] at hi; rw [PV.shareL_getD cs i hi]; exact ih i hi (PV.cleanL_getD h i hi))
  | tup vs cs hl _ ih => exact .tup vs _ (by rw [PV.shareL_length]; exact hl) (fun i hi => by rw [PV.shareL_length] at hi; rw [PV.shareL_getD cs i hi]; exact ih i hi (PV.cleanL_getD h i hi))
  | fn f vs cs hl _ ih => exact .fn f vs _ (by rw [PV.shareL_length]; exact hl) (fun i hi => by rw [PV.shareL_length] at hi; rw [PV.shareL_getD cs i hi]; exact ih i hi (PV.cleanL_getD h i hi))

def partsOk (size : Nat) : Nat → List (Nat × PV) → Prop
  | _, [] => True
  | k, (i, p) :: rest => i = k ∧ p.clean = true ∧ p.known = true ∧ p.cells.length = size ∧ partsOk size (k + 1) rest

def aBuildSlice (P : Program) (d : Nat) (t : TypeId) (len : Nat) (parts : List (Nat × PV)) (m : Hp) : ARes :=
  match telem P t with
  | some ei => ⟨m.q d = none ∧ len = parts.length ∧ len * ei.size ≤ 16777216 ∧ partsOk ei.size 0 parts, .sl (.row d) (parts.map fun x => x.2.share), m.setq d (.live len ei.size ei.e)⟩
  | none => .fail

section
variable {P : Program} {B : Frm} {S : Stable} {M : Maps} {s : St} {a : Act} {w : World}

theorem fill_slice {size : Nat} : ∀ (us : List Value) (k : Nat) (vs : List Value), vs.length = (k + us.length) * size → (∀ u ∈ us, u.cells.size = size) →
    Instr.fill (fun i => some (i * size, size)) ⟨vs⟩ (us.zipIdx k |>.map fun x => (x.2, x.1)) = some ⟨vs.take (k * size) ++ us.flatMap fun u => u.cells.toList⟩
  | [], k, vs, hl, _ => by
    have : vs.take (k * size) = vs := List.take_of_length_le (by simp at hl; omega)
    simp [Instr.fill, this]
  | u :: us, k, vs, hl, hu => by
    have hus := hu u (by simp)
    have hle : k * size + size ≤ vs.length := by
      rw [hl]
      have := Nat.mul_le_mul_right size (show k + 1 ≤ k + (u :: us).length by simp)
      rw [Nat.add_mul] at this
      omega
    simp only [List.zipIdx_cons, List.map_cons, Instr.fill]
    have hno : ¬ ((decide (u.cells.size ≠ size) || decide (k * size + u.cells.size > (⟨vs⟩ : Array Value).size)) = true) := by
      simp only [List.size_toArray, Bool.or_eq_true, decide_eq_true_eq, not_or]
      omega
    rw [if_neg hno]
    have hf := foldl_set u.cells.toList 0 ⟨vs⟩ (k * size) (by simp; omega)
    have hz2 : Array.foldl (fun cs x => cs.setIfInBounds (k * size + x.2) x.1) (⟨vs⟩ : Array Value) (Array.zipIdx u.cells) = ⟨vs.take (k * size) ++ u.cells.toList ++ vs.drop (k * size + u.cells.toList.length)⟩ := by
      rw [← Array.foldl_toList]
      simpa using hf
    have ih := fill_slice us (k + 1) (vs.take (k * size) ++ u.cells.toList ++ vs.drop (k * size + u.cells.toList.length))
      (by simp only [List.length_append, List.length_take, List.length_drop, Array.length_toList, hus]
          have : (k + 1 + us.length) * size = (k + (us.length + 1)) * size := by congr 1; omega
          simp only [List.length_cons] at hl
          omega) (fun x hx => hu x (by simp [hx]))
    have fin : Instr.fill (fun i => some (i * size, size)) ⟨vs.take (k * size) ++ u.cells.toList ++ vs.drop (k * size + u.cells.toList.length)⟩ ((us.zipIdx (k + 1)).map fun x => (x.2, x.1)) = some ⟨vs.take (k * size) ++ List.flatMap (fun u => u.cells.toList) (u :: us)⟩ := by
      rw [ih]
      congr 2
      have hl2 : (vs.take (k * size) ++ u.cells.toList).length = (k + 1) * size := by simp [hus, Nat.add_mul]; omega
      rw [← hl2, List.take_left]
      simp
    first | (rw [hz2]; exact fin) | (simp only [hz2]; exact fin)

theorem partsOk_idx {size : Nat} : ∀ {parts : List (Nat × PV)} {k : Nat}, partsOk size k parts → (∀ x ∈ parts, x.2.clean = true ∧ x.2.known = true ∧ x.2.cells.length = size) ∧ parts.map (·.1) = (List.range' k parts.length)
  | [], k, _ => by simp
  | (i, p) :: rest, k, h => by
    obtain ⟨rfl, h1, h2, h3, h4⟩ := h
    obtain ⟨g1, g2⟩ := partsOk_idx h4
    refine ⟨fun x hx => ?_, ?_⟩
    · rcases List.mem_cons.1 hx with rfl | hx
      · exact ⟨h1, h2, h3⟩
      · exact g1 x hx
    · simp [g2, List.range'_succ]

theorem flat_getD {size : Nat} : ∀ {us : List Value} (hu : ∀ u ∈ us, u.cells.size = size) {i j : Nat} (hi : i < us.length) (hj : j < size),
    (us.flatMap fun u => u.cells.toList).getD (i * size + j) undef = (us.getD i undef).cells.toList.getD j undef
  | [], _, i, j, hi, _ => by simp at hi
  | u :: us, hu, 0, j, _, hj => by
    have := hu u (by simp)
    simp only [List.flatMap_cons, Nat.zero_mul, Nat.zero_add, List.getD_cons_zero]
    rw [getD_append_left (by simpa [this] using hj)]
  | u :: us, hu, i + 1, j, hi, hj => by
    have h0 := hu u (by simp)
    simp only [List.flatMap_cons, List.getD_cons_succ]
    rw [getD_append_right (by simp [h0, Nat.add_mul]; omega)]
    have : (i + 1) * size + j - u.cells.toList.length = i * size + j := by simp [h0, Nat.add_mul]; omega
    rw [this]
    exact flat_getD (fun x hx => hu x (by simp [hx])) (by simpa using hi) hj

theorem sound_buildSlice (hs : Sim B S M s a w) {d : Nat} {t : TypeId} {len : Nat} {parts : List (Nat × PV)} {vparts : List (Nat × Value)} (hl : vparts.length = parts.length)
    (hp : ∀ i, i < parts.length → (vparts.getD i (0, undef)).1 = (parts.getD i (0, .any)).1 ∧ RepS S M s.m.q (vparts.getD i (0, undef)).2 (parts.getD i (0, .any)).2)
    (hok : (aBuildSlice P d t len parts s.m).ok) : Snd P B S s a w (Instr.buildSlice t len ⟨vparts⟩) (aBuildSlice P d t len parts s.m) := by
  revert hok
  unfold aBuildSlice
  split
  · rename_i ei hx
    rintro ⟨g1, g2, g3, g4⟩
    obtain ⟨ti, z, h1, h2, h3, h4, h5, h6, h7, h8⟩ := telem_spec hx
    obtain ⟨p1, p2⟩ := partsOk_idx g4
    subst g2
    -- the values of the parts
    have hus : ∀ i, i < parts.length → RepS S M s.m.q ((vparts.map (·.2)).getD i undef) (parts.getD i (0, .any)).2 := fun i hi => by
      have := (hp i hi).2
      rw [getD_lt (by simp; omega)]
      rw [getD_lt (by omega)] at this
      simpa using this
    have hcell : ∀ i, i < parts.length → ∃ ys : List Value, ((vparts.map (·.2)).getD i undef).cells = ⟨ys⟩ ∧ ys.length = ei.size ∧ ∀ j, j < ei.size → Rep S (ys.getD j undef) ((parts.getD i (0, .any)).2.share.cells.getD j .any) := fun i hi => by
      obtain ⟨q1, q2, q3⟩ := p1 _ (getD_mem (d := (0, PV.any)) hi)
      obtain ⟨ys, e1, e2, e3⟩ := (hus i hi).cells_inv q2
      refine ⟨ys, e1, by omega, fun j hj => ?_⟩
      have hr := e3 j (by omega)
      have hc : ((parts.getD i (0, .any)).2.cells.getD j .any).clean = true := by
        exact clean_cells q1 (by omega)
      have := hr.share hc
      rw [share_cells, PV.shareL_getD _ j (by omega)]
      exact this
    have hsz : ∀ u ∈ vparts.map (·.2), u.cells.size = ei.size := fun u hu => by
      obtain ⟨i, hi, rfl⟩ := List.getElem_of_mem hu
      simp only [List.length_map] at hi
      obtain ⟨ys, e1, e2, _⟩ := hcell i (by omega)
      rw [getD_lt (by simpa using hi)] at e1
      rw [e1]; simp [e2]
    have hpairs : vparts = ((vparts.map (·.2)).zipIdx 0).map fun x => (x.2, x.1) := by
      apply List.ext_getElem
      · simp
      · intro i hi1 hi2
        simp only [List.getElem_map, List.getElem_zipIdx, Nat.zero_add]
        have := (hp i (by omega)).1
        rw [getD_lt hi1, getD_lt (by omega)] at this
        have hidx : (parts[i]'(by omega)).1 = i := by
          have e := congrArg (fun l => l[i]?) p2
          simp only [List.getElem?_map] at e
          rw [List.getElem?_eq_getElem (by omega), List.getElem?_eq_getElem (by simp; omega)] at e
          simpa using e
        rw [hidx] at this
        exact Prod.ext this rfl
    have hz0 : ∃ zs : List Value, zs.length = parts.length * ei.size ∧ (Instr.buildSlice t parts.length ⟨vparts⟩).run P w = .ok (.slice (some ⟨w.heap.size, 0, none⟩) parts.length parts.length) (w.alloc (.cells ⟨zs.take (0 * ei.size) ++ (vparts.map (·.2)).flatMap fun u => u.cells.toList⟩ ei.e)) := by
      have nolim : ¬ parts.length * ei.size > 2 ^ 24 := by omega
      have hfill : ∀ zs : List Value, zs.length = parts.length * ei.size → Instr.fill (fun i => some (i * ei.size, ei.size)) ⟨zs⟩ vparts = some ⟨zs.take (0 * ei.size) ++ (vparts.map (·.2)).flatMap fun u => u.cells.toList⟩ := fun zs hzs => by
        have := fill_slice (size := ei.size) (vparts.map (·.2)) 0 zs (by simp [hl, hzs]) hsz
        rw [← hpairs] at this
        exact this
      have e5 : (sizeOf ei.e).run P w = .ok ei.size w := by rw [run_szo h2, h8]
      by_cases h0 : parts.length * ei.size = 0
      · refine ⟨[], by simp [h0], ?_⟩
        have hp0 : parts = [] := by
          rcases Nat.mul_eq_zero.1 h0 with h | h
          · exact List.eq_nil_of_length_eq_zero h
          · omega
        subst hp0
        have hv0 : vparts = [] := List.eq_nil_of_length_eq_zero (by simpa using hl)
        subst hv0
        simp [Instr.buildSlice, run_und h1, e5, Instr.fill, newRow, newObj, Sem.run, World.alloc_eq]
        have er : Array.map (fun _ : Nat => (default : Value)) (Array.range 0) = ⟨[]⟩ := by
          apply Array.ext'
          simp
        rw [er]
      · refine ⟨((List.range (parts.length * ei.size)).map fun x => z.cells[x % z.cells.size]!), by simp, ?_⟩
        have hf := hfill ((List.range (parts.length * ei.size)).map fun x => z.cells[x % z.cells.size]!) (by simp)
        have hzr : (zeroValue ei.e).run P w = .ok z w := by simp [zeroValue, run_inf h2, h3]
        simp only [Instr.buildSlice, Sem.run_bind, run_und h1, Result.andThen_ok, e5, nolim, if_false, Sem.run_pure, h0, hzr]
        have : (Array.range (parts.length * ei.size)).map (fun x => z.cells[x % z.cells.size]!) = ⟨(List.range (parts.length * ei.size)).map fun x => z.cells[x % z.cells.size]!⟩ := by
          apply Array.ext'
          simp
        simp only [this, hf]
        simp [newRow, newObj, Sem.run, World.alloc_eq]
    obtain ⟨zs, _, hrun⟩ := hz0
    simp only [Nat.zero_mul, List.take_zero, List.nil_append] at hrun
    generalize hvs : (vparts.map (·.2)).flatMap (fun u => u.cells.toList) = vs at hrun
    have hvl : vs.length = parts.length * ei.size := by
      rw [← hvs, List.length_flatMap]
      have : (List.map (fun u : Value => u.cells.toList.length) (vparts.map (·.2))) = List.replicate parts.length ei.size := by
        apply List.eq_replicate_iff.2
        refine ⟨by simp [hl], fun x hx => ?_⟩
        obtain ⟨u, hu, rfl⟩ := List.mem_map.1 hx
        simpa using hsz u hu
      rw [this]
      simp
    have hmax : parts.length ≤ maxLen := by
      have := Nat.le_mul_of_pos_right parts.length h7
      simp only [maxLen]
      omega
    have hsim := hs.newRow (d := d) (n := parts.length) (sz := ei.size) (c := parts.length) (e := ei.e) (vs := vs) (w' := w.alloc (.cells ⟨vs⟩ ei.e)) (.inl g1) (Nat.le_refl _) hmax hvl (fun k hk => alloc_heap_old w _ hk) (alloc_heap_new w _)
    have hle' : SLe S (addS S w.heap.size (parts.length * ei.size) vs) := .cells rfl fun b o v hv => by
      rw [addS_c]
      rw [if_neg]
      · exact hv
      · rintro ⟨rfl, _⟩; rw [hs.S_lt (Nat.le_refl _)] at hv; cases hv
    have hrep : Rep (addS S w.heap.size (parts.length * ei.size) vs) (.slice (some ⟨w.heap.size, 0, none⟩) parts.length parts.length) (.sl .no (parts.map fun x => x.2.share)) := by
      have := rep_of_cells (S := addS S w.heap.size (parts.length * ei.size) vs) (b := w.heap.size) (cap := parts.length) (es := parts.map fun x => x.2.share) (sz := ei.size)
        (fun e he => by
          obtain ⟨x, hx', rfl⟩ := List.mem_map.1 he
          rw [share_cells, PV.shareL_length]
          exact (p1 x hx').2.2) (by simp) (cells := vs)
        (fun k hk => by rw [addS_c, if_pos ⟨rfl, by simpa using hk⟩])
        (fun i j hi hj => by
          simp only [List.length_map] at hi
          obtain ⟨ys, e1, e2, e3⟩ := hcell i hi
          have hcells : vs.getD (i * ei.size + j) undef = ys.getD j undef := by
            rw [← hvs, flat_getD hsz (by simpa [hl] using hi) hj, e1]
          rw [hcells]
          rw [getD_lt (l := List.map _ parts) (by simpa using hi)]
          simp only [List.getElem_map]
          have := e3 j hj
          rw [getD_lt hi] at this
          exact this.mono hle')
      simpa using this
    refine ⟨_, _, _, _, hrun, hsim, ?_, ?_, hle', ?_, ?_⟩
    · refine .row d _ _ hrep fun n' sz' e' hq => ?_
      simp only [Hp.setq, upd_same] at hq
      cases hq
      refine ⟨by simp, fun _ => ⟨fun h0 => by simp [upd_same] at h0, fun c hc => ?_⟩⟩
      simp only [upd_same, Nat.add_right_cancel_iff] at hc ⊢
      rw [← hc]
    · intro i hi
      simp only [PV.ids, List.mem_singleton] at hi
      subst hi
      simp [Live, Hp.setq, Hp.new, upd_same]
    · intro b hb
      refine ⟨fun o => ?_, rfl⟩
      rw [addS_c, if_neg]
      rintro ⟨rfl, _⟩
      exact hs.new_ok hb
    · exact (BelowF.refl B w).alloc hs.hB _
  · exact fun hok => hok.elim
end
end Go.PL

namespace Go.PL
open Go.RowKit
set_option linter.unusedVariables false

def loOf : Option PV → Option Int
  | none => some 0
  | some (.int _ k) => some k
  | _ => none
def hiOf (n : Nat) : Option PV → Option Int
  | none => some n
  | some (.int _ k) => some k
  | _ => none

def cut {α : Type} (l : List α) (i j : Int) : List α := (l.drop i.toNat).take (j.toNat - i.toNat)

def aSlice (P : Program) (t : TypeId) (x : PV) (lo hi : Option PV) (m : Hp) : ARes :=
  match tix P t, x with
  | .str, .str l => match loOf lo, hiOf l.length hi with
    | some i, some j => ⟨0 ≤ i ∧ i ≤ j ∧ j ≤ l.length, .str (cut l i j), m⟩
    | _, _ => .fail
  | .slc esz _, .sl _ es => match loOf lo, hiOf es.length hi with
    | some i, some j => ⟨0 ≤ i ∧ i ≤ j ∧ j ≤ es.length ∧ Sized esz es, .sl .no (cut es i j), m⟩
    | _, _ => .fail
  | .slc esz _, .osl id off len sz => match loOf lo, hiOf len hi with
    | some i, some j => ⟨0 ≤ i ∧ i < j ∧ j ≤ len ∧ esz = sz, .osl id (off + i.toNat * sz) (j.toNat - i.toNat) sz, m⟩
    | _, _ => .fail
  | .arr n esz _, .ptr id off => match loOf lo, hiOf n hi with
    | some i, some j => ⟨0 ≤ i ∧ i < j ∧ j ≤ n, .osl id (off + i.toNat * esz) (j.toNat - i.toNat) esz, m⟩
    | _, _ => .fail
  | _, _ => .fail

def aMakeRow (P : Program) (d : Nat) (t : TypeId) (c : PV) (m : Hp) : ARes :=
  match telem P t, c with
  | some ei, .int _ c => ⟨m.q d = none ∧ 0 ≤ c ∧ (ei.bytes : Int) * c ≤ 281474976710656 ∧ c ≤ 9223372036854775807, .sl (.row d) [], m.setq d (.live 0 ei.size ei.e)⟩
  | _, _ => .fail

section
variable {P : Program} {B : Frm} {S : Stable} {M : Maps} {s : St} {a : Act} {w : World}

theorem extract_list (l : List UInt8) (i j : Nat) : (⟨⟨l⟩⟩ : ByteArray).extract i j = ⟨⟨(l.drop i).take (j - i)⟩⟩ := by
  apply ByteArray.ext
  apply Array.ext'
  rw [Lib.extract_data]

theorem run_sliceBounds {isSlice : Bool} {len cap : Nat} {lo hi : Option Value} {plo phi : Option PV} {i j : Int} (hlo : ∀ v p, lo = some v → plo = some p → RepS S M s.m.q v p) (hhi : ∀ v p, hi = some v → phi = some p → RepS S M s.m.q v p)
    (hl1 : lo.isSome = plo.isSome) (hl2 : hi.isSome = phi.isSome) (h1 : loOf plo = some i) (h2 : hiOf len phi = some j) (g1 : 0 ≤ i) (g2 : i ≤ j) (g3 : j ≤ len) (hc : len ≤ cap) :
    (Instr.sliceBounds isSlice len cap lo hi none).run P w = .ok (i.toNat, j.toNat, cap) w := by
  have hj0 : 0 ≤ j := by omega
  have hjc : j ≤ cap := by omega
  have hij : i ≤ (j.toNat : Int) := by omega
  have hh : ∀ code, (match hi, (none : Option Value) with
      | some v, some _ => Instr.sliceBound v cap .slice3B
      | some v, none => Instr.sliceBound v cap code
      | none, none => Pure.pure len
      | none, some _ => stuck "x").run P w = .ok j.toNat w := by
    intro code
    cases hi with
    | none =>
      cases phi with
      | none => simp only [hiOf, Option.some.injEq] at h2; subst h2; simp
      | some p => simp at hl2
    | some v =>
      cases phi with
      | none => simp at hl2
      | some p =>
        have r := hhi v p rfl rfl
        cases p <;> simp [hiOf] at h2
        subst h2
        rw [r.int_inv]
        simp [Instr.sliceBound, asIntOf, hj0, hjc]
  have hl : ∀ code, (match lo with
      | some v => Instr.sliceBound v j.toNat code
      | none => Pure.pure 0).run P w = .ok i.toNat w := by
    intro code
    cases lo with
    | none =>
      cases plo with
      | none => simp only [loOf, Option.some.injEq] at h1; subst h1; simp
      | some p => simp at hl1
    | some v =>
      cases plo with
      | none => simp at hl1
      | some p =>
        have r := hlo v p rfl rfl
        cases p <;> simp [loOf] at h1
        subst h1
        rw [r.int_inv]
        simp only [Instr.sliceBound, asIntOf, Sem.run_bind, Sem.run_pure, Result.andThen_ok]
        rw [if_pos ⟨g1, hij⟩]
        rfl
  unfold Instr.sliceBounds
  cases hi with
  | none =>
    have e := hh .sliceAlen
    simp only at e
    cases lo with
    | none => have e' := hl .sliceB; simp only at e'; simp only [Sem.run_bind, Sem.run_pure, Result.andThen_ok] at e e' ⊢; simp_all
    | some v => have e' := hl .sliceB; simp only at e'; simp only [Sem.run_bind, Sem.run_pure, Result.andThen_ok] at e e' ⊢; simp_all
  | some u =>
    have e1 := hh .sliceAlen
    have e2 := hh .sliceAcap
    simp only at e1 e2
    cases lo with
    | none => have e' := hl .sliceB; simp only at e'; cases isSlice <;> simp only [Sem.run_bind, Sem.run_pure, Result.andThen_ok, Bool.false_eq_true, if_false, if_true, e1, e2] at e' ⊢ <;> simp_all
    | some v => have e' := hl .sliceB; simp only at e'; cases isSlice <;> simp only [Sem.run_bind, Sem.run_pure, Result.andThen_ok, Bool.false_eq_true, if_false, if_true, e1, e2] at e' ⊢ <;> simp_all

theorem sound_slice (hs : Sim B S M s a w) {t : TypeId} {x : Value} {p : PV} {lo hi : Option Value} {plo phi : Option PV} (hx : RepS S M s.m.q x p) (hxi : ∀ i ∈ p.ids, Live s.m i)
    (hlo : ∀ v p, lo = some v → plo = some p → RepS S M s.m.q v p) (hhi : ∀ v p, hi = some v → phi = some p → RepS S M s.m.q v p) (hl1 : lo.isSome = plo.isSome) (hl2 : hi.isSome = phi.isSome)
    (hok : (aSlice P t p plo phi s.m).ok) : Snd P B S s a w (Instr.sliceAt t x lo hi none) (aSlice P t p plo phi s.m) := by
  revert hok
  unfold aSlice
  split
  · rename_i l heq
    have h1 := tix_str heq
    split
    · rename_i i j e1 e2
      rintro ⟨g1, g2, g3⟩
      rw [hx.str_inv]
      have hb := run_sliceBounds (P := P) (w := w) (isSlice := false) (cap := l.length) hlo hhi hl1 hl2 e1 e2 g1 g2 g3 (Nat.le_refl _)
      refine Snd.clean hs (v := .string ⟨⟨cut l i j⟩⟩) ?_ (.str _)
      have hsz : (⟨⟨l⟩⟩ : ByteArray).size = l.length := rfl
      simp [Instr.sliceAt, run_und h1, Instr.slice, hsz, hb, extract_list, cut]
    · exact fun hok => hok.elim
  · rename_i esz ea tk es heq
    obtain ⟨e, d, ti, h1, rfl, rfl, h2, h3⟩ := tix_slc heq
    split
    · rename_i i j e1 e2
      rintro ⟨g1, g2, g3, g4⟩
      have hr := hx.sl_inv
      obtain ⟨ad, cap, rfl, hcap⟩ := hr.sl_len
      have hb := run_sliceBounds (P := P) (w := w) (isSlice := true) (cap := cap) hlo hhi hl1 hl2 e1 e2 g1 g2 g3 hcap
      have hlen : (cut es i j).length = j.toNat - i.toNat := by simp [cut]; omega
      have hrun : (Instr.sliceAt t (.slice ad es.length cap) lo hi none).run P w = .ok (.slice (if cap = i.toNat then ad else ad.map (·.add (i.toNat * tsz P e))) (j.toNat - i.toNat) (cap - i.toNat)) w := by
        simp [Instr.sliceAt, run_und h1, Instr.slice, hb, run_szo h3]
      refine Snd.clean hs hrun ?_
      by_cases h0 : j.toNat - i.toNat = 0
      · have : cut es i j = [] := List.eq_nil_of_length_eq_zero (by omega)
        rw [this, h0]
        exact .sl0 _ _
      · have hlt : i.toNat < es.length := by omega
        obtain ⟨b, o, cap', vals, ev, hcap', hu, hS, hR⟩ := hr.sl_at hlt
        cases ev
        have e0 : (es.getD i.toNat .any).cells.length = tsz P e := g4 _ (getD_mem hlt)
        rw [e0] at hS hR hu
        rw [if_neg (by omega)]
        simp only [Option.map_some, add_none]
        have gd : ∀ k, k < (cut es i j).length → (cut es i j).getD k .any = es.getD (i.toNat + k) .any := fun k hk => by
          unfold cut
          rw [getD_take (by omega), getD_drop]
        have := Rep.sl (S := S) b (o + i.toNat * tsz P e) (cap - i.toNat) (tsz P e) (cut es i j) (fun k l => vals (i.toNat + k) l) (fun k hk => by rw [gd k hk]; exact hu _ (by omega)) (by omega)
          (fun k l hk hl => by
            have := hS (i.toNat + k) l (by omega) hl
            rw [Nat.add_mul] at this
            rw [← this]
            congr 1
            omega)
          (fun k l hk hl => by rw [gd k hk]; exact hR _ _ (by omega) hl)
        rw [hlen] at this
        exact this
    · exact fun hok => hok.elim
  · rename_i esz ea id off len sz heq
    obtain ⟨e, d, ti, h1, rfl, rfl, h2, h3⟩ := tix_slc heq
    split
    · rename_i i j e1 e2
      rintro ⟨g1, g2, g3, rfl⟩
      obtain ⟨cap, hcap, rfl⟩ := hx.osl_inv
      have hb := run_sliceBounds (P := P) (w := w) (isSlice := true) (cap := cap) hlo hhi hl1 hl2 e1 e2 g1 (by omega) g3 hcap
      refine Snd.pure hs (v := .slice (some ⟨M.φ id, off + i.toNat * tsz P e, none⟩) (j.toNat - i.toNat) (cap - i.toNat)) ?_ (.osl _ _ _ _ _ (by omega)) (by simpa [PV.ids] using hxi)
      have hne : ¬ cap = i.toNat := by omega
      simp [Instr.sliceAt, run_und h1, Instr.slice, hb, run_szo h3, hne, add_none]
    · exact fun hok => hok.elim
  · rename_i n esz ea id off heq
    obtain ⟨e, d, ti, h1, rfl, rfl, h2, h3⟩ := tix_arr heq
    split
    · rename_i i j e1 e2
      rintro ⟨g1, g2, g3⟩
      rw [hx.ptr_inv]
      have hb := run_sliceBounds (P := P) (w := w) (isSlice := false) (cap := n) hlo hhi hl1 hl2 e1 e2 g1 (by omega) g3 (Nat.le_refl _)
      refine Snd.pure hs (v := .slice (some ⟨M.φ id, off + i.toNat * tsz P e, none⟩) (j.toNat - i.toNat) (n - i.toNat)) ?_ (.osl _ _ _ _ _ (by omega)) (by simpa [PV.ids] using hxi)
      have hne : ¬ n = i.toNat := by omega
      simp [Instr.sliceAt, run_und h1, Instr.sureAddr, hb, run_szo h3, hne, add_none]
    · exact fun hok => hok.elim
  · exact fun hok => hok.elim

theorem sound_makeRow (hs : Sim B S M s a w) {d : Nat} {t : TypeId} {k : IntKind} {c : Value} {p : PV} (hc : RepS S M s.m.q c p)
    (hok : (aMakeRow P d t p s.m).ok) : Snd P B S s a w (Instr.makeSlice t (.int k 0) c) (aMakeRow P d t p s.m) := by
  revert hok
  unfold aMakeRow
  split
  · rename_i ei kc n hx
    rintro ⟨g1, g2, g3, g4⟩
    obtain ⟨ti, z, h1, h2, h3, h4, h5, h6, h7, h8⟩ := telem_spec hx
    rw [hc.int_inv]
    have hrun := run_make (P := P) w t ei.e ti z h1 h2 h3 k kc 0 n (Int.le_refl _) g2 (by rw [h6]; exact g3) g4
    have hm : madeCells z.cells (n.toNat * ti.size) = ⟨(madeCells z.cells (n.toNat * ti.size)).toList⟩ := rfl
    have hl : (madeCells z.cells (n.toNat * ti.size)).toList.length = n.toNat * ei.size := by rw [Array.length_toList, size_madeCells, h5]
    have hsim := hs.newRow (d := d) (n := 0) (sz := ei.size) (c := n.toNat) (e := ei.e) (w' := w.alloc (.cells (madeCells z.cells (n.toNat * ti.size)) ei.e)) (.inl g1) (Nat.zero_le _) (by simp only [maxLen]; omega) hl (fun k hk => alloc_heap_old w _ hk) (alloc_heap_new w _)
    have hS : addS S w.heap.size (0 * ei.size) (madeCells z.cells (n.toNat * ti.size)).toList = S := by
      unfold addS
      congr 1
      funext b o
      rw [if_neg (by simp)]
    rw [hS] at hsim
    refine ⟨_, _, S, _, hrun, hsim, ?_, ?_, hs.ext_alloc _⟩
    · refine .row d _ [] (.sl0 _ _) fun n' sz' e' hq => ?_
      simp only [Hp.setq, upd_same] at hq
      cases hq
      refine ⟨Nat.le_refl _, fun _ => ⟨fun h0 => by simp [upd_same] at h0, fun c hc => ?_⟩⟩
      simp only [upd_same, Nat.add_right_cancel_iff] at hc ⊢
      rw [← hc]
      rfl
    · intro i hi
      simp only [PV.ids, List.mem_singleton] at hi
      subst hi
      simp [Live, Hp.setq, Hp.new, upd_same]
  · exact fun hok => hok.elim

/-- a slice that is made whole -/
def aMakeFull (P : Program) (d : Nat) (t : TypeId) (l c : PV) (m : Hp) : ARes :=
  match telem P t, l, c with
  | some ei, .int _ n, .int _ n' => match tbdz P ei.e with
    | some z => ⟨m.h d = none ∧ n = n' ∧ 0 ≤ n ∧ (ei.bytes : Int) * n ≤ 281474976710656 ∧ n ≤ 9223372036854775807 ∧ z.length = ei.size, .osl d 0 n.toNat ei.size, m.new d (List.replicate n.toNat z).flatten⟩
    | none => .fail
  | _, _, _ => .fail
where
  tbdz (P : Program) (e : TypeId) : Option (List PV) := match P.info? e with
    | some i => match i.zero with
      | some z => if (ofVal z).known then some (ofVal z).cells else none
      | none => none
    | none => none

theorem rep_flat {z : Value} {zs : List PV} {size : Nat} (hz : RepL S M s.m.q z.cells.toList zs) (hl : zs.length = size) (hpos : 0 < size) : ∀ n, RepL S M s.m.q (madeCells z.cells (n * size)).toList (List.replicate n zs).flatten := by
  intro n
  have hzl : z.cells.size = size := by have := hz.1; simpa [hl] using this
  refine ⟨by rw [Array.length_toList, size_madeCells]; simp [hl], fun k hk => ?_⟩
  have hk' : k < n * size := by simpa [hl] using hk
  have hmod : k % size < size := Nat.mod_lt _ hpos
  have hdiv : k / size < n := by rw [Nat.div_lt_iff_lt_mul hpos]; exact hk'
  have e1 : (madeCells z.cells (n * size)).toList.getD k undef = z.cells.toList.getD (k % size) undef := by
    rw [getD_lt (by rw [Array.length_toList, size_madeCells]; exact hk'), getD_lt (by simpa [hzl] using hmod)]
    simp only [madeCells, Array.getElem_toList, Array.getElem_map, Array.getElem_range, hzl]
    rw [getElem!_pos _ _ (by rw [hzl]; exact hmod)]
  have e2 : ∀ (n k : Nat), k < n * size → ((List.replicate n zs).flatten).getD k .any = zs.getD (k % size) .any := by
    intro n
    induction n with
    | zero => intro k hk; simp at hk
    | succ n ih =>
      intro k hk
      rw [List.replicate_succ, List.flatten_cons]
      by_cases hlt : k < size
      · rw [getD_append_left (by omega), Nat.mod_eq_of_lt hlt]
      · rw [getD_append_right (by omega), ih _ (by rw [Nat.add_mul] at hk; omega), hl, ← Nat.mod_eq_sub_mod (by omega)]
  rw [e1, e2 n k hk']
  exact hz.2 _ (by omega)

theorem sound_makeFull (hs : Sim B S M s a w) {d : Nat} {t : TypeId} {l c : Value} {pl pc : PV} (hl : RepS S M s.m.q l pl) (hc : RepS S M s.m.q c pc)
    (hok : (aMakeFull P d t pl pc s.m).ok) : Snd P B S s a w (Instr.makeSlice t l c) (aMakeFull P d t pl pc s.m) := by
  revert hok
  unfold aMakeFull
  split
  · rename_i ei kl n kc m hx
    split
    · rename_i z hz
      rintro ⟨g1, rfl, g2, g3, g4, g5⟩
      obtain ⟨ti, zv, h1, h2, h3, h4, h5, h6, h7, h8⟩ := telem_spec hx
      rw [hl.int_inv, hc.int_inv]
      have hrun := run_make (P := P) w t ei.e ti zv h1 h2 h3 kl kc n n g2 (Int.le_refl _) (by rw [h6]; exact g3) g4
      unfold aMakeFull.tbdz at hz
      rw [h2] at hz
      simp only [h3] at hz
      split at hz
      · rename_i hk
        cases hz
        obtain ⟨zs, e1, e2, e3⟩ := (RepS.clean (S := S) (M := M) (q := s.m.q) (rep_ofVal S zv)).cells_inv hk
        have hzr : RepL S M s.m.q zv.cells.toList (ofVal zv).cells := by rw [e1]; exact ⟨e2, e3⟩
        have hrl := rep_flat hzr g5 h7 n.toNat
        rw [h5] at hrun
        have hids : ∀ c ∈ (List.replicate n.toNat (ofVal zv).cells).flatten, ∀ i ∈ c.ids, Live s.m i := fun c hc i hi => by
          obtain ⟨l, hl', hcl⟩ := List.mem_flatten.1 hc
          have := List.eq_of_mem_replicate hl'
          subst this
          have := cells_ids hcl hi
          rw [ids_ofVal] at this
          cases this
        refine ⟨_, _, S, _, hrun, hs.alloc (t := ei.e) g1 hrl.1 hrl.2 hids, ?_, ?_, hs.ext_alloc _⟩
        · have : RepS S { M with φ := upd M.φ d w.heap.size } s.m.q (.slice (some ⟨upd M.φ d w.heap.size d, 0, none⟩) n.toNat n.toNat) (.osl d 0 n.toNat ei.size) := .osl d 0 _ _ _ (Nat.le_refl _)
          rwa [upd_same] at this
        · intro i hi
          simp only [PV.ids, List.mem_singleton] at hi
          subst hi
          simp [Live, Hp.setq, Hp.new, upd_same]
      · cases hz
    · exact fun hok => hok.elim
  · exact fun hok => hok.elim
end
end Go.PL
