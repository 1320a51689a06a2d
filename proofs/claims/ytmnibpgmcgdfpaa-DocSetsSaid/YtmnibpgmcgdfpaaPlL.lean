/- A logic of values for functions that only read and build, over the model (part 12): no statement of the seat is proved here. -/
import Derived.Test.YtmnibpgmcgdfpaaPlK
import Derived.Test.YtmnibpgmcgdfpaaPlJ
import Derived.Laws.AppendOwn
set_option linter.unusedSimpArgs false
set_option linter.unusedVariables false
namespace Go.PL
open Go.RowKit
set_option linter.unusedVariables false
section
variable {P : Program}
end
/-! tokens forgotten -/
end Go.PL

namespace Go.PL
open Srt
set_option linter.unusedVariables false
section
variable {s : St}
/-- a nil slice that a cell of an own block tells, told as a vec -/
theorem Gh.nilVecB {b j d sz : Nat} {e : TypeId} {cs : List PV} (hb : s.m.h b = some cs) (hz : s.m.z b = false) (hj : j < cs.length) (hjd : cs.getD j .any = .sl .nil []) (hd : s.m.q d = none) :
    Gh s (s.with { s.m.setq d (.vec 0 sz e) with h := upd s.m.h b (some (cs.set j (.vsl d 0 sz))), v := upd s.m.v d (some []) }) := fun B S M a w hs => by
  have hB := hs.blk b cs hb
  rw [hz] at hB
  obtain ⟨_, _, _, h6⟩ := hB
  have hs1 := hs.nilVec (sz := sz) (e := e) hd
  refine ⟨S, { M with κ := upd M.κ d 0 }, hs1.tellBlk (i := b) hb hz List.length_set (fun k v hk hr => ?_) (fun c hc i hi => ?_), Ext.refl _ _ _⟩
  · by_cases ek : j = k
    · subst ek
      rw [getD_setE hj]
      rw [hjd] at hr
      have hv : v = .slice none 0 0 := hr.slnil_inv
      subst hv
      refine .vsl d 0 sz _ ⟨none, 0, rfl, Nat.le_refl _, fun h => absurd h (Nat.lt_irrefl _)⟩ fun n' sz' e' hq => ?_
      simp only [St.with, Hp.setq, upd_same] at hq
      cases hq
      exact ⟨Nat.le_refl _, fun _ => ⟨rfl, fun _ => rfl, fun c hc => by simp [upd_same] at hc⟩⟩
    · rw [getD_setN ek]; exact hr
  · rcases List.mem_or_eq_of_mem_set hc with hc | rfl
    · have := h6 c hc i hi
      cases i with
      | b k => exact this
      | r k =>
        show Live _ _
        simp only [Live, St.with, Hp.setq] at this ⊢
        by_cases ek : d = k
        · subst ek; simp [upd_same]
        · rw [upd_ne _ _ ek]; exact this
    · simp only [PV.ids, List.mem_singleton] at hi
      subst hi
      simp [Live, St.with, Hp.setq, upd_same]
/-- a row that a slot tells, under another name -/
theorem Gh.moveRowS (i id d n sz : Nat) (e : TypeId) (es : List PV) (hi : s.fr i = .sl (.row id) es) (hid : s.m.q id = some (.live n sz e)) (hd : s.m.q d = none) :
    Gh s ({ s with fr := upd s.fr i (.sl (.row d) es) }.with ((s.m.setq id .dead).setq d (.live n sz e))) := fun B S M a w hs => by
  have hs1 := hs.moveRow hid hd
  have hrow := hs.fr i
  rw [hi] at hrow
  have key : ∃ r : Rep S (a.tmps.getD i undef) (.sl .no es), (es.length ≤ n ∧ (es.length = n → (M.κ id = 0 → a.tmps.getD i undef = .slice none 0 0) ∧ (∀ c, M.κ id = c + 1 → a.tmps.getD i undef = .slice (some ⟨M.ψ id, 0, none⟩) n c))) := by
    generalize a.tmps.getD i undef = v at hrow
    cases hrow with
    | clean r => cases r
    | row _ _ _ r t => exact ⟨r, t n sz e hid⟩
  obtain ⟨r, t⟩ := key
  refine ⟨S, _, ⟨hs1.defers, hs1.hn, hs1.hB, hs1.stable, fun k => ?_, fun k r hr => ?_, hs1.blk, hs1.row, hs1.inj, hs1.injq, hs1.injx, hs1.rm, hs1.vc, ⟨hs1.pn.h, hs1.pn.q⟩, hs1.hz⟩, Ext.refl _ _ _⟩
  · show RepS _ _ _ _ (upd s.fr i (.sl (.row d) es) k)
    by_cases ek : i = k
    · subst ek
      rw [upd_same]
      refine .row d _ es r fun n' sz' e' hq => ?_
      have hq' : upd (upd s.m.q id (some .dead)) d (some (.live n sz e)) d = some (.live n' sz' e') := hq
      rw [upd_same] at hq'
      cases hq'
      refine ⟨t.1, fun el => ?_⟩
      have := t.2 el
      simpa only [upd_same] using this
    · rw [upd_ne _ _ ek]; exact hs1.fr k
  · have hr' : r ∈ (upd s.fr i (.sl (.row d) es) k).ids := hr
    by_cases ek : i = k
    · subst ek
      rw [upd_same] at hr'
      simp only [PV.ids, List.mem_singleton] at hr'
      subst hr'
      show upd _ _ _ _ ≠ none
      simp [upd_same]
    · rw [upd_ne _ _ ek] at hr'
      exact hs1.ids k r hr'
end
end Go.PL

namespace Go.PL
open Go.RowKit
set_option linter.unusedVariables false
/-! A vec as the kit's laws see a row, and back -/
section
variable {P : Program} {B : Frm} {S : Stable} {M : Maps} {s : St} {a : Act} {w : World}
theorem Sim.vec_owns (hs : Sim B S M s a w) {d n sz : Nat} {e : TypeId} {es : List PV} {v : Value} (hq : s.m.q d = some (.vec n sz e)) (hv : s.m.v d = some es) (hr : RepS S M s.m.q v (.vsl d n sz)) (hc : ∀ p ∈ es, p.ids = []) :
    ∃ xs : List Value, w.ownsRow 0 e sz v n xs ∧ es.length = n ∧ (∀ p ∈ es, p.cells.length = sz ∧ p.cells.all PV.atom = true) ∧ (∀ i j, i < n → j < sz → Rep S (xs.getD (i * sz + j) undef) ((es.getD i .any).cells.getD j .any)) ∧
      ∀ k, v.ownBlock = some k → ¬ B k ∧ (∀ o, S k o = none) ∧ 0 < M.κ d ∧ M.ψ d = k := by
  obtain ⟨sz', e', q1, r1, r2, r4⟩ := hs.vc d es hv
  rw [hq] at q1
  simp only [Option.some.injEq, Row.vec.injEq] at q1
  obtain ⟨hn, rfl, rfl⟩ := q1
  subst hn
  obtain ⟨_, t⟩ := hr.vsl_inv
  obtain ⟨_, t2⟩ := t _ _ _ hq
  obtain ⟨_, t3, t4⟩ := t2 rfl
  obtain ⟨o1, o2⟩ := hs.row d _ hq
  cases hκ : M.κ d with
  | zero =>
    have h0 := o1 hκ
    have hv0 := t3 hκ
    refine ⟨[], ⟨by simp [h0], .inl ⟨hv0, h0⟩⟩, rfl, r1, fun i j hi => by omega, fun k hk => ?_⟩
    rw [hv0] at hk
    cases hk
  | succ c =>
    obtain ⟨k1, k2, k3, ⟨vs, k5, k6⟩, k4⟩ := o2 c hκ
    have hv0 := t4 c hκ
    have k7 := r4 c hκ vs e (0, 0) k5
    refine ⟨vs.take (es.length * sz), ⟨?_, .inr ⟨M.ψ d, c, ⟨vs⟩, hv0, Nat.zero_le _, k5, k1, k2, k6, rfl⟩⟩, rfl, r1, fun i j hi hj => ?_, fun k hk => ?_⟩
    · rw [List.length_take, k6]
      exact Nat.min_eq_left (Nat.mul_le_mul_right _ k1)
    · have hlt : i * sz + j < es.length * sz := by
        calc i * sz + j < i * sz + sz := by omega
          _ = (i + 1) * sz := by rw [Nat.add_mul, Nat.one_mul]
          _ ≤ es.length * sz := Nat.mul_le_mul_right _ hi
      have h8 := k7 i j hi hj
      have he : (vs.take (es.length * sz)).getD (i * sz + j) undef = vs.getD (i * sz + j) undef := by
        rw [List.getD_eq_getElem?_getD, List.getD_eq_getElem?_getD, List.getElem?_take_of_lt hlt]
      rw [he]
      refine h8.alone (List.eq_nil_iff_forall_not_mem.2 fun r hr => ?_)
      have hm : es.getD i .any ∈ es := getD_mem hi
      have hj' : j < (es.getD i .any).cells.length := by rw [(r1 _ hm).1]; exact hj
      have := cells_ids (getD_mem (d := .any) hj') hr
      rw [hc _ hm] at this
      cases this
    · rw [hv0] at hk
      cases hk
      exact ⟨k3, k4, by omega, rfl⟩
/-- a world with one vec -/
theorem sim_one (R : List (Nat × Row)) {d n sz : Nat} {e : TypeId} {es : List PV} {v : Value} {xs : List Value} (ok : (⟨[], (d, .vec n sz e) :: R, [(d, es)]⟩ : MemL).Ok) (hR : ∀ x ∈ R, x.2 = .dead) (hB : ∀ k, B k → k < w.heap.size) (hst : StabS S w) (hz : ∀ b, ¬ B b → S.z b)
    (hown : w.ownsRow 0 e sz v n xs) (hk : ∀ k, v.ownBlock = some k → ¬ B k ∧ ∀ o, S k o = none) (hn : es.length = n) (hc : ∀ p ∈ es, p.ids = []) (hcell : ∀ p ∈ es, p.cells.length = sz ∧ p.cells.all PV.atom = true)
    (hrep : ∀ i j, i < n → j < sz → Rep S (xs.getD (i * sz + j) undef) ((es.getD i .any).cells.getD j .any)) :
    ∃ M, Sim B S M (stNo (⟨[], (d, .vec n sz e) :: R, [(d, es)]⟩ : MemL).hp) actNo w ∧ RepS S M (⟨[], (d, .vec n sz e) :: R, [(d, es)]⟩ : MemL).hp.q v (.vsl d n sz) := by
  have qd : (⟨[], (d, .vec n sz e) :: R, [(d, es)]⟩ : MemL).hp.q d = some (.vec n sz e) := ok.q_at (x := (d, .vec n sz e)) (by simp)
  have qo : ∀ {i r}, (⟨[], (d, .vec n sz e) :: R, [(d, es)]⟩ : MemL).hp.q i = some r → r.own = true → i = d ∧ r = .vec n sz e := fun {i r} h ho => by
    have hm := MemL.q_mem h
    rcases List.mem_cons.1 hm with hm | hm
    · simp only [Prod.mk.injEq] at hm; exact hm
    · have := hR _ hm
      simp only at this
      subst this
      cases ho
  obtain ⟨M, hM⟩ : ∃ M : Maps, (M.κ d = 0 ∧ v = .slice none 0 0 ∧ n = 0 ∧ ∀ i, M.κ i = 0) ∨ ∃ g c cur, M = ⟨id, fun _ => g, fun _ => c + 1⟩ ∧ v = .slice (some ⟨g, 0, none⟩) n c ∧ w.heap[g]? = some (.cells cur e (0, 0)) ∧ n ≤ c ∧ c ≤ maxLen ∧ cur.size = c * sz ∧ cur.toList.take (n * sz) = xs := by
    rcases hown.2 with ⟨h1, h2⟩ | ⟨g, c, cur, h1, _, h3, h4, h5, h6, h7⟩
    · exact ⟨⟨id, id, fun _ => 0⟩, .inl ⟨rfl, h1, h2, fun _ => rfl⟩⟩
    · exact ⟨⟨id, fun _ => g, fun _ => c + 1⟩, .inr ⟨g, c, cur, rfl, h1, h3, h4, h5, h6, h7⟩⟩
  have rep' : ∀ i j, i < n → j < sz → ∀ M' q, RepS S M' q (xs.getD (i * sz + j) undef) ((es.getD i .any).cells.getD j .any) := fun i j hi hj M' q => .clean (hrep i j hi hj)
  refine ⟨M, ⟨rfl, rfl, hB, ⟨hst, fun b c hc => (by cases hc), fun b x hx => (by cases hx)⟩, fun i => .clean (.any _), fun i id h => (by simp [stNo, PV.ids] at h), fun id cs h => (by cases h), fun id r h => ?_, fun id id' cs cs' h => (by cases h), fun id id' r r' h h' o o' k k' hne => absurd ((qo h o).1.trans (qo h' o').1.symm) hne, fun id id' cs r h => (by cases h), fun b c hc => (by cases hc), fun id es1 h => ?_, ⟨fun _ _ h => (by cases h), fun _ _ _ _ h => (by cases h)⟩, hz⟩, ?_⟩
  · by_cases ho : r.own = true
    · obtain ⟨rfl, rfl⟩ := qo h ho
      rcases hM with ⟨m1, m2, m3, m4⟩ | ⟨g, c, cur, rfl, m2, m3, m4, m5, m6, m7⟩
      · exact ⟨fun _ => m3, fun c hc => by rw [m1] at hc; cases hc⟩
      · refine ⟨fun h => (by cases h), fun c' hc' => ?_⟩
        have : c' = c := by simp only [Nat.add_right_cancel_iff] at hc'; exact hc'.symm
        subst this
        obtain ⟨k1, k2⟩ := hk g (by rw [m2]; rfl)
        exact ⟨m4, m5, k1, ⟨cur.toList, m3, m6⟩, k2⟩
    · cases r with
      | dead => trivial
      | _ => exact absurd rfl ho
  · have hm := MemL.v_mem h
    simp only [List.mem_singleton, Prod.mk.injEq] at hm
    obtain ⟨rfl, rfl⟩ := hm
    refine ⟨sz, e, by rw [hn]; exact qd, hcell, fun p hp i hi => (by rw [hc p hp] at hi; cases hi), fun c hc' vs t f hvs i j hi hj => ?_⟩
    rcases hM with ⟨m1, m2, m3, m4⟩ | ⟨g, c1, cur, rfl, m2, m3, m4, m5, m6, m7⟩
    · rw [m1] at hc'; cases hc'
    · have hvs' : w.heap[g]? = some (.cells ⟨vs⟩ t f) := hvs
      rw [m3] at hvs'
      simp only [Option.some.injEq, Obj.cells.injEq] at hvs'
      obtain ⟨rfl, _, _⟩ := hvs'
      rw [hn] at hi
      have hlt : i * sz + j < n * sz := by
        calc i * sz + j < i * sz + sz := by omega
          _ = (i + 1) * sz := by rw [Nat.add_mul, Nat.one_mul]
          _ ≤ n * sz := Nat.mul_le_mul_right _ hi
      have := rep' i j hi hj ⟨_root_.id, fun _ => g, fun _ => c1 + 1⟩ (⟨[], (id, .vec n sz e) :: R, [(id, es1)]⟩ : MemL).hp.q
      rw [← m7, List.getD_eq_getElem?_getD, List.getElem?_take_of_lt hlt, ← List.getD_eq_getElem?_getD] at this
      exact this
  · refine .vsl d n sz v ?_ fun n' sz' e' hq' => ?_
    · rcases hM with ⟨m1, m2, m3, m4⟩ | ⟨g, c, cur, rfl, m2, m3, m4, m5, m6, m7⟩
      · exact ⟨none, 0, by rw [m2, m3], by omega, fun h => by omega⟩
      · exact ⟨_, c, m2, m4, fun _ => ⟨g, 0, rfl⟩⟩
    · rw [qd] at hq'
      simp only [Option.some.injEq, Row.vec.injEq] at hq'
      obtain ⟨rfl, rfl, rfl⟩ := hq'
      refine ⟨Nat.le_refl _, fun _ => ⟨rfl, fun h => ?_, fun c' hc' => ?_⟩⟩
      · rcases hM with ⟨m1, m2, m3, m4⟩ | ⟨g, c, cur, rfl, m2, m3, m4, m5, m6, m7⟩
        · exact m2
        · cases h
      · rcases hM with ⟨m1, m2, m3, m4⟩ | ⟨g, c, cur, rfl, m2, m3, m4, m5, m6, m7⟩
        · rw [m1] at hc'; cases hc'
        · have : c' = c := by simp only [Nat.add_right_cancel_iff] at hc'; exact hc'.symm
          subst this
          exact m2
theorem BelowF.of_grown {B : Frm} {w w' : World} {row : Option Nat} (h : w.grownBy w' row) (hB : ∀ k, B k → k < w.heap.size) (hr : ∀ k, row = some k → ¬ B k) : BelowF B w w' :=
  ⟨h.os, h.tape, h.output, h.size, fun k hk => h.block k (hB k hk) fun e => hr k e.symm hk⟩
/-- what is stable stays, where the row grown holds nothing stable -/
theorem StabS.grown {S : Stable} {w w' : World} {row : Option Nat} (hst : StabS S w) (h : w.grownBy w' row) (hr : ∀ k, row = some k → (∀ o, S k o = none) ∧ ∃ vs e, w'.heap[k]? = some (.cells vs e (0, 0)) ∧ ∃ vs' e', w.heap[k]? = some (.cells vs' e' (0, 0))) : StabS S w' :=
  ⟨fun b o u hu => by
    have h1 := hst.c b o u hu
    have hb : some b ≠ row := fun e => by rw [(hr b e.symm).1 o] at hu; cases hu
    rw [World.cell?_of_block (w := w) (h.block b (cell_lt h1) hb)]; exact h1, fun b es hm => by
    have h1 := hst.m b es hm
    have hb : some b ≠ row := fun e => by
      obtain ⟨_, _, _, _, vs', e', h2⟩ := hr b e.symm
      rw [h2] at h1; cases h1
    rw [h.block b (Array.getElem?_eq_some_iff.1 h1).1 hb]; exact h1, fun b hb => by
    obtain ⟨vs1, t1, h1⟩ := hst.y b hb
    by_cases e : row = some b
    · obtain ⟨_, vs, e', h2, _⟩ := hr b e
      exact ⟨vs, e', h2⟩
    · exact ⟨vs1, t1, by rw [h.block b (Array.getElem?_eq_some_iff.1 h1).1 (fun e' => e e'.symm)]; exact h1⟩⟩
end
end Go.PL

namespace Go.PL
open Go.RowKit
set_option linter.unusedVariables false
/-! A region whose first k operations may be taken in any order, and whose others wait for all of these -/
section
variable {P : Program} {ops : Array Oper}
def anyE (P : Program) (md : Region.Mode) (ops : Array Oper) (E : Array Bool → St → Prop) : Nat → Array Bool → St → Prop
  | 0, listed, s => E listed s
  | fuel + 1, listed, s => Region.ready md ops listed ≠ [] ∧ ∀ i ∈ Region.ready md ops listed, ∃ o s', ops[i]? = some o ∧ Yield P ops o s s' ∧ anyE P md ops E fuel (listed.setIfInBounds i true) s'
/-- those from k on wait for all ahead of k -/
def tailed (md : Region.Mode) (ops : Array Oper) (k : Nat) : Bool :=
  chained md ops k && (List.range ops.size).all fun j => decide (j ≤ k) || ((ops[j]?).map fun o => o.after.any fun e => Region.binds md e && e.on == k).getD false
theorem tailed_lt {md : Region.Mode} {k : Nat} {listed : Array Bool} (hc : tailed md ops k = true) (hcl : Closed md ops listed) (hsz : listed.size = ops.size) {i : Nat} (hi : i < k) (hun : listed.getD i true = false) : ∀ j ∈ Region.ready md ops listed, j < k := by
  intro j hj
  simp only [tailed, Bool.and_eq_true, List.all_eq_true, List.mem_range, Bool.or_eq_true, decide_eq_true_eq] at hc
  obtain ⟨h1, h2⟩ := hc
  refine Nat.lt_of_not_le fun hge => ?_
  have all : ∀ {l : Nat}, (∀ i, i < l → listed.getD i true = true) → l = k → False := fun h e => by
    subst e; rw [h i hi] at hun; cases hun
  by_cases hjk : j = k
  · subst hjk
    exact all (fun i hi => last_waits h1 hcl hj hsz (j - i) i hi (Nat.le_refl _)) rfl
  · obtain ⟨_, oj, hoj, hall⟩ := mem_ready.1 hj
    have hjs := (Array.getElem?_eq_some_iff.1 hoj).1
    have h3 := (h2 j hjs).resolve_left (by omega)
    rw [hoj] at h3
    simp only [Option.map_some, Option.getD_some] at h3
    obtain ⟨e, he, hb⟩ := Array.any_eq_true'.1 h3
    simp only [Bool.and_eq_true, beq_iff_eq] at hb
    have hk : listed.getD k false = true := by rw [← hb.2]; exact hall e he hb.1
    have key : ∀ (n i : Nat), i ≤ k → k - i ≤ n → listed.getD i false = true := by
      intro n
      induction n with
      | zero =>
        intro i hi hn
        have e : i = k := by omega
        rw [e]; exact hk
      | succ n ih =>
        intro i hi hn
        by_cases hik : i = k
        · subst hik; exact hk
        · simp only [chained, List.all_eq_true, List.mem_range, List.any_eq_true, Bool.and_eq_true, decide_eq_true_eq] at h1
          obtain ⟨x, hx, hix, hd⟩ := h1 i (by omega)
          cases ho : ops[x]? with
          | none => rw [ho] at hd; cases hd
          | some o =>
            rw [ho] at hd
            simp only [Option.map_some, Option.getD_some] at hd
            obtain ⟨e, he, hb⟩ := Array.any_eq_true'.1 hd
            simp only [Bool.and_eq_true, beq_iff_eq] at hb
            rw [← hb.2]
            have hxl := ih x (by omega) (by omega)
            have hxs : x < ops.size := (Array.getElem?_eq_some_iff.1 ho).1
            have h2 : listed.getD x true = true := by
              have hj2 : x < listed.size := by omega
              simp [hj2] at hxl ⊢; exact hxl
            exact hcl x o ho h2 e he hb.1
    refine all (fun i hi => ?_) rfl
    have := key (k - i) i (by omega) (Nat.le_refl _)
    by_cases hs : i < listed.size
    · simp [hs] at this ⊢; exact this
    · simp [Array.getElem?_eq_none (Nat.le_of_not_lt hs)] at this
theorem anyE_first {md : Region.Mode} {k : Nat} {E : Array Bool → St → Prop} (hE : ∀ listed s, E listed s → ∀ i, i < k → listed.getD i true = true) (hc : tailed md ops k = true) {i : Nat} {oi : Oper} (hi : ops[i]? = some oi) (hik : i < k) :
    ∀ (fuel : Nat) (listed : Array Bool) (s s1 : St), RefsD s → Closed md ops listed → listed.size = ops.size →
      (∀ j oj, ops[j]? = some oj → j < k → j ≠ i → listed.getD j true = false → (∀ e ∈ oj.after, Region.binds md e = true → e.on ≠ i) → oi.apart ops oj = true ∧ compat oi.op oj.op = true) →
      i ∈ Region.ready md ops listed → Yield P ops oi s s1 →
      anyE P md ops E fuel (listed.setIfInBounds i true) s1 → anyE P md ops E (fuel + 1) listed s := by
  intro fuel
  induction fuel with
  | zero =>
    intro listed s s1 hR hcl hsz _ hr hy H
    refine ⟨fun h => (by rw [h] at hr; cases hr), fun j hj => ?_⟩
    by_cases hji : j = i
    · subst hji; exact ⟨oi, s1, hi, hy, H⟩
    · exfalso
      have hjk := tailed_lt hc hcl hsz hik (mem_ready.1 hr).1 j hj
      have h1 := hE _ _ H j hjk
      rw [getD_set_ne true (Ne.symm hji), (mem_ready.1 hj).1] at h1
      cases h1
  | succ fuel ih =>
    intro listed s s1 hR hcl hsz hfree hr hy H
    refine ⟨fun h => (by rw [h] at hr; cases hr), fun j hj => ?_⟩
    by_cases hji : j = i
    · subst hji; exact ⟨oi, s1, hi, hy, H⟩
    · have hjk := tailed_lt hc hcl hsz hik (mem_ready.1 hr).1 j hj
      obtain ⟨oj, s2, hoj, hy2, h1⟩ := H.2 j (ready_mono hj hji)
      obtain ⟨hjun, oj', hoj', hall⟩ := mem_ready.1 hj
      rw [hoj] at hoj'; cases hoj'
      have hnot : ∀ e ∈ oj.after, Region.binds md e = true → e.on ≠ i := fun e he hb heq => by
        have h1 := hall e he hb
        have h0 := (mem_ready.1 hr).1
        rw [heq] at h1
        rcases Nat.lt_or_ge i listed.size with h' | h'
        · simp [h'] at h0 h1; rw [h0] at h1; cases h1
        · simp [Array.getElem?_eq_none h'] at h1
      obtain ⟨hap, hcp⟩ := hfree j oj hoj hjk hji hjun hnot
      obtain ⟨s1', hya, hyb⟩ := yield_swap hR.refs hap hcp hy hy2
      have hfree' : ∀ k' ok, ops[k']? = some ok → k' < k → k' ≠ i → (listed.setIfInBounds j true).getD k' true = false →
          (∀ e ∈ ok.after, Region.binds md e = true → e.on ≠ i) → oi.apart ops ok = true ∧ compat oi.op ok.op = true := fun k' ok hk hkk hki hun hno => by
        refine hfree k' ok hk hkk hki ?_ hno
        by_cases hjk : j = k'
        · subst hjk; exact hjun
        · rw [getD_set_ne true hjk] at hun; exact hun
      refine ⟨oj, s1', hoj, hya, ih (listed.setIfInBounds j true) s1' s2 (refs_yield hR hya) (hcl.step hj) (by simpa using hsz) hfree' (ready_mono hr (Ne.symm hji)) hyb ?_⟩
      rw [Array.setIfInBounds_comm _ _ hji]
      exact h1
def freeK (md : Region.Mode) (ops : Array Oper) (k : Nat) (listed : Array Bool) (i : Nat) : Bool :=
  match ops[i]? with
  | none => false
  | some oi => (List.range k).all fun j => j == i || listed.getD j true || match ops[j]? with
      | some oj => oj.after.any (fun e => Region.binds md e && e.on == i) || (oi.apart ops oj && compat oi.op oj.op)
      | none => true
theorem freeK_spec {md : Region.Mode} {k i : Nat} {oi : Oper} {listed : Array Bool} (hi : ops[i]? = some oi) (h : freeK md ops k listed i = true) (j : Nat) (oj : Oper)
    (hj : ops[j]? = some oj) (hjk : j < k) (hne : j ≠ i) (hun : listed.getD j true = false) (hno : ∀ e ∈ oj.after, Region.binds md e = true → e.on ≠ i) :
    oi.apart ops oj = true ∧ compat oi.op oj.op = true := by
  simp only [freeK, hi, List.all_eq_true, List.mem_range] at h
  have h1 := h j hjk
  simp only [hj, Bool.or_eq_true, beq_iff_eq, hne, false_or, hun, Bool.false_eq_true] at h1
  rcases h1 with h1 | h1
  · obtain ⟨e, he, hb⟩ := Array.any_eq_true'.1 h1
    simp only [Bool.and_eq_true, beq_iff_eq] at hb
    exact absurd hb.2 (hno e he hb.1)
  · simpa using h1
def lexFromK (md : Region.Mode) (ops : Array Oper) (n : Nat) : Nat → Nat → Array Bool → Bool
  | 0, _, _ => true
  | fuel + 1, k, listed => (Region.ready md ops listed).contains k && freeK md ops n listed k && lexFromK md ops n fuel (k + 1) (listed.setIfInBounds k true)
def splitB (k : Nat) (ops : Array Oper) : Bool := decide (k ≤ ops.size) && tailed .any ops k && lexFromK .any ops k k 0 (Array.replicate ops.size false)
theorem anyE_lex {md : Region.Mode} {n : Nat} {E : Array Bool → St → Prop} (hE : ∀ listed s, E listed s → ∀ i, i < n → listed.getD i true = true) (hc : tailed md ops n = true) : ∀ (l : List Oper) (k : Nat) (listed : Array Bool) (s : St), RefsD s → Closed md ops listed → listed.size = ops.size → k + l.length = n → (∀ j, j < l.length → l[j]? = ops[k + j]?) →
    lexFromK md ops n l.length k listed = true → lexA P ops (E ((List.range' k l.length).foldl (fun a i => a.setIfInBounds i true) listed)) l s → anyE P md ops E l.length listed s
  | [], _, _, _, _, _, _, _, _, _, h => h
  | o :: l, k, listed, s, hR, hcl, hsz, hk, hl, hB, h => by
    have h0 : ops[k]? = some o := by simpa using (hl 0 (by simp)).symm
    simp only [List.length_cons] at hk
    simp only [List.length_cons, lexFromK, Bool.and_eq_true] at hB
    obtain ⟨⟨hr, hf⟩, hB'⟩ := hB
    have hr' : k ∈ Region.ready md ops listed := by simpa using hr
    obtain ⟨hd, h⟩ := h
    have hl' : ∀ j, j < l.length → l[j]? = ops[(k + 1) + j]? := fun j hj => by have := hl (j + 1) (by simpa using hj); simpa [Nat.add_assoc, Nat.add_comm 1 j] using this
    simp only [List.length_cons, List.range'_succ, List.foldl_cons] at h
    rcases h with ⟨hg, v, m', hst, hrest⟩ | ⟨hg, hrest⟩
    · have hy : Yield P ops o s ((s.with m').put o.dst v) := ⟨hd, .inl ⟨hg, v, m', hst, rfl⟩⟩
      exact anyE_first hE hc h0 (by omega) l.length listed s _ hR hcl hsz (freeK_spec h0 hf) hr' hy (anyE_lex hE hc l (k + 1) _ _ (refs_yield hR hy) (hcl.step hr') (by simpa using hsz) (by omega) hl' hB' hrest)
    · have hy : Yield P ops o s (s.put o.dst (.tup [])) := ⟨hd, .inr ⟨hg, rfl⟩⟩
      exact anyE_first hE hc h0 (by omega) l.length listed s _ hR hcl hsz (freeK_spec h0 hf) hr' hy (anyE_lex hE hc l (k + 1) _ _ (refs_yield hR hy) (hcl.step hr') (by simpa using hsz) (by omega) hl' hB' hrest)
theorem anyE_sound {K : St → Prop} {E : Array Bool → St → Prop} {m : Nat} (hE : ∀ listed s, E listed s → wAny P ops K m listed s) : ∀ (fuel : Nat) (listed : Array Bool) (s : St), anyE P .any ops E fuel listed s → wAny P ops K (m + fuel) listed s
  | 0, listed, s, h => hE _ _ h
  | fuel + 1, listed, s, h => fun B Qc S0 w0 hQ S M a w hs he => ⟨fun h0 => absurd h0 h.1, fun i hi => by
      obtain ⟨o, s', ho, hy, hn⟩ := h.2 i hi
      unfold wpOp
      simp only [ho]
      obtain ⟨hd, hy⟩ := hy
      rcases hy with ⟨hg, v, m', hst, rfl⟩ | ⟨hg, rfl⟩
      · rw [gd_ok hs hg, if_pos rfl]
        exact .inl (step_sound hs (dstOk_spec hd) hst _ _ fun u w' S' M' hs' he' => anyE_sound hE fuel _ _ hn B Qc S0 w0 hQ S' M' _ w' hs' (he.trans he'))
      · rw [gd_ok hs hg, if_neg (by simp)]
        exact anyE_sound hE fuel _ _ hn B Qc S0 w0 hQ S M _ w (skip_sim hs hd) he⟩
theorem markA_getD {n i : Nat} : ∀ (L : List Nat) (listed : Array Bool), (listed.getD i true = true ∨ i ∈ L) → (markA listed L).getD i true = true
  | [], listed, h => h.resolve_right (by simp)
  | j :: L, listed, h => markA_getD (n := n) L _ (by
    by_cases e : j = i
    · subst e
      left
      simp only [Array.getD_eq_getD_getElem?, Array.getElem?_setIfInBounds]
      split
      · split <;> simp
      · rename_i h; exact absurd trivial h
    · rcases h with h | h
      · left; rw [getD_set_ne true e]; exact h
      · right; rcases List.mem_cons.1 h with rfl | h
        · exact absurd rfl e
        · exact h)
theorem lexA_mono {K K' : St → Prop} (hK : ∀ s, K s → K' s) : ∀ (l : List Oper) (s : St), lexA P ops K l s → lexA P ops K' l s
  | [], s, h => hK s h
  | o :: rest, s, ⟨hd, h⟩ => ⟨hd, by
    rcases h with ⟨hg, v, m', hst, hrest⟩ | ⟨hg, hrest⟩
    · exact .inl ⟨hg, v, m', hst, lexA_mono hK rest _ hrest⟩
    · exact .inr ⟨hg, lexA_mono hK rest _ hrest⟩⟩
/-- A REGION IN TWO PARTS -/
theorem vSplit {id : Nat} {l : List Oper} {Q : Exit → St → Prop} {s : St} (k : Nat) (hm : P.follows .mixedOrders = true) (hB : splitB k l.toArray = true)
    (h : ∀ l1, l1 = l.take k → @vA P false ⟨@vAny P (List.range k) ⟨@vQ ⟨Q⟩ .normal⟩ ⟨l⟩⟩ ⟨l⟩ ⟨l1⟩ s) : awp P (.region id l.toArray true) Q s := fun B S M a w hs => by
  have h := h _ rfl
  simp only [splitB, Bool.and_eq_true, decide_eq_true_eq, List.size_toArray] at hB
  obtain ⟨⟨hk, hc⟩, hB⟩ := hB
  have hlen : (l.take k).length = k := by simp; omega
  refine awp_any (P := P) (ops := l.toArray) (Q := Q) hm ?_ B S M a w hs
  intro B' Qc S0 w0 hQ S' M' a' w' hs' he'
  have hL : List.range' 0 (l.take k).length = List.range k := by rw [hlen, List.range_eq_range']
  have hA := vcA_lex _ s h
  let E : Array Bool → St → Prop := fun listed s => listed = markA (Array.replicate l.length false) (List.range k) ∧ @vAny P (List.range k) ⟨@vQ ⟨Q⟩ .normal⟩ ⟨l⟩ s
  have hE : ∀ listed s, E listed s → ∀ i, i < k → listed.getD i true = true := fun listed s h i hi => by
    rw [h.1]; exact markA_getD (n := 0) _ _ (.inr (List.mem_range.2 hi))
  have h1 := anyE_lex (P := P) (md := .any) (n := k) (E := E) hE hc (l.take k) 0 (Array.replicate l.length false) s hs'.refsD (fun x ox hx hl => by
    have hx' := (Array.getElem?_eq_some_iff.1 hx).1
    simp at hx'
    simp [hx'] at hl) (by simp) (by rw [hlen]; omega) (fun j hj => by
      rw [hlen] at hj
      simp [hj]) (by rw [hlen]; exact hB) (by
      rw [hL]
      exact lexA_mono (fun s h => ⟨rfl, h⟩) _ _ hA)
  have h2 := anyE_sound (P := P) (K := @vQ ⟨Q⟩ .normal) (E := E) (m := l.length - k) (fun listed s h => by
    obtain ⟨rfl, h⟩ := h
    have h : wAny P l.toArray _ (l.length - (List.range k).length) _ s := h
    simpa using h) _ _ s h1
  rw [hlen] at h2
  have e : l.length - k + k = l.toArray.size := by simp; omega
  rw [e] at h2
  have h2 := h2 B' Qc S0 w0 hQ S' M' a' w' hs' he'
  simpa using h2
theorem lexX_mono {K K' : St → Prop} (hK : ∀ s, K s → K' s) : ∀ (l : List Oper) (s : St), lexX P ops K l s → lexX P ops K' l s
  | [], s, h => hK s h
  | o :: rest, s, ⟨hd, h⟩ => ⟨hd, by
    rcases h with ⟨hg, ⟨v, m', hst, hrest⟩ | hsp⟩ | ⟨hg, hrest⟩
    · exact .inl ⟨hg, .inl ⟨v, m', hst, lexX_mono hK rest _ hrest⟩⟩
    · exact .inl ⟨hg, .inr (spec_mono (fun s h => lexX_mono hK rest s h) hsp)⟩
    · exact .inr ⟨hg, lexX_mono hK rest _ hrest⟩⟩
def tailB (k : Nat) (l : List Oper) : Bool := decide (k ≤ l.length) && forced l.toArray (List.range' k (l.length - k)) (markA (Array.replicate l.length false) (List.range k)) && (Region.ready .any l.toArray (markA (markA (Array.replicate l.length false) (List.range k)) (List.range' k (l.length - k)))).isEmpty
/-- the rest, one after the other -/
theorem vTail {l : List Oper} {K : KS} {s : St} (k : Nat) (hf : tailB k l = true) (h : ∀ l2, l2 = l.drop k → @vA P true K ⟨l⟩ ⟨l2⟩ s) : @vAny P (List.range k) K ⟨l⟩ s := by
  have h := h _ rfl
  simp only [tailB, Bool.and_eq_true, List.isEmpty_iff, decide_eq_true_eq] at hf
  obtain ⟨⟨hk, h2⟩, h3⟩ := hf
  have h4 := vcA_lexX _ s h
  have h5 : lexX P l.toArray (wAny P l.toArray K.k 0 (markA (markA (Array.replicate l.length false) (List.range k)) (List.range' k (l.length - k)))) (l.drop k) s := lexX_mono (fun s h => wAny_nil h3 h) _ _ h4
  have h6 := wAny_seg (List.range' k (l.length - k)) (l.drop k) _ s h2 (by
    refine List.ext_getElem (by simp) fun i h1 h2 => ?_
    simp at h1 ⊢) h5
  unfold vAny
  simp only [List.length_range'] at h6
  simpa using h6
end
end Go.PL

namespace Go.PL
open Go.RowKit
set_option linter.unusedVariables false
/-! A region whose first k operations are looks, behind them a call that hands on a vec; the call may come ahead of any look that it does not wait for -/
section
variable {P : Program} {ops : Array Oper}
def lookB : Op → Bool
  | .move _ | .fieldAddr .. | .load .. => true
  | _ => false
/-- looks in any order, the others not yet -/
def anyL (P : Program) (ops : Array Oper) (k : Nat) (F : Array Bool → St → Prop) : Nat → Array Bool → St → Prop
  | 0, listed, s => F listed s
  | fuel + 1, listed, s => (∃ i ∈ Region.ready .any ops listed, i < k) ∧ ∀ i ∈ Region.ready .any ops listed, i < k → ∃ o s', ops[i]? = some o ∧ Yield P ops o s s' ∧ anyL P ops k F fuel (listed.setIfInBounds i true) s'
def waitsB (o : Oper) (i : Nat) : Bool := o.after.any fun e => Region.binds .any e && e.on == i
/-- each look is apart from all others of the first n, but those that wait for it or that it waits for -/
def pairB (ops : Array Oper) (k n : Nat) : Bool := (List.range k).all fun i => (List.range n).all fun j => j == i || match ops[i]?, ops[j]? with
  | some oi, some oj => waitsB oj i || waitsB oi j || (oi.apart ops oj && compat oi.op oj.op)
  | _, _ => false
theorem pairB_spec {k n i j : Nat} {oi oj : Oper} (h : pairB ops k n = true) (hi : i < k) (hj : j < n) (hne : j ≠ i) (ei : ops[i]? = some oi) (ej : ops[j]? = some oj) (w1 : ∀ e ∈ oj.after, Region.binds .any e = true → e.on ≠ i) (w2 : ∀ e ∈ oi.after, Region.binds .any e = true → e.on ≠ j) :
    oi.apart ops oj = true ∧ compat oi.op oj.op = true := by
  simp only [pairB, List.all_eq_true, List.mem_range] at h
  have h1 := h i hi j hj
  simp only [ei, ej, Bool.or_eq_true, beq_iff_eq, hne, false_or] at h1
  rcases h1 with (h1 | h1) | h1
  · obtain ⟨e, he, hb⟩ := Array.any_eq_true'.1 h1
    simp only [Bool.and_eq_true, beq_iff_eq] at hb
    exact absurd hb.2 (w1 e he hb.1)
  · obtain ⟨e, he, hb⟩ := Array.any_eq_true'.1 h1
    simp only [Bool.and_eq_true, beq_iff_eq] at hb
    exact absurd hb.2 (w2 e he hb.1)
  · simpa using h1
/-- what is ready waits for nothing that is not yet listed -/
theorem ready_free {listed : Array Bool} {i j : Nat} {oi : Oper} (hr : i ∈ Region.ready .any ops listed) (hi : ops[i]? = some oi) (hj : listed.getD j true = false) : ∀ e ∈ oi.after, Region.binds .any e = true → e.on ≠ j := fun e he hb heq => by
  obtain ⟨_, oi', hi', hall⟩ := mem_ready.1 hr
  rw [hi] at hi'; cases hi'
  have h1 := hall e he hb
  rw [heq] at h1
  rcases Nat.lt_or_ge j listed.size with h' | h'
  · simp [h'] at hj h1; rw [hj] at h1; cases h1
  · simp [Array.getElem?_eq_none h'] at h1
theorem anyL_first {k n : Nat} {F : Array Bool → St → Prop} (hF : ∀ listed s, F listed s → ∀ i, i < k → listed.getD i true = true) (hp : pairB ops k n = true) (hkn : k ≤ n) {i : Nat} {oi : Oper} (hi : ops[i]? = some oi) (hik : i < k) :
    ∀ (fuel : Nat) (listed : Array Bool) (s s1 : St), RefsD s → i ∈ Region.ready .any ops listed → Yield P ops oi s s1 →
      anyL P ops k F fuel (listed.setIfInBounds i true) s1 → anyL P ops k F (fuel + 1) listed s := by
  intro fuel
  induction fuel with
  | zero =>
    intro listed s s1 hR hr hy H
    refine ⟨⟨i, hr, hik⟩, fun j hj hjk => ?_⟩
    by_cases hji : j = i
    · subst hji; exact ⟨oi, s1, hi, hy, H⟩
    · exfalso
      have h1 := hF _ _ H j hjk
      rw [getD_set_ne true (Ne.symm hji), (mem_ready.1 hj).1] at h1
      cases h1
  | succ fuel ih =>
    intro listed s s1 hR hr hy H
    refine ⟨⟨i, hr, hik⟩, fun j hj hjk => ?_⟩
    by_cases hji : j = i
    · subst hji; exact ⟨oi, s1, hi, hy, H⟩
    · obtain ⟨oj, s2, hoj, hy2, h1⟩ := H.2 j (ready_mono hj hji) hjk
      obtain ⟨hap, hcp⟩ := pairB_spec hp hik (by omega) hji hi hoj (ready_free hj hoj (mem_ready.1 hr).1) (ready_free hr hi (mem_ready.1 hj).1)
      obtain ⟨s1', hya, hyb⟩ := yield_swap hR.refs hap hcp hy hy2
      refine ⟨oj, s1', hoj, hya, ih (listed.setIfInBounds j true) s1' s2 (refs_yield hR hya) (ready_mono hr (Ne.symm hji)) hyb ?_⟩
      rw [Array.setIfInBounds_comm _ _ hji]
      exact h1
def lexR (ops : Array Oper) : Nat → Nat → Array Bool → Bool
  | 0, _, _ => true
  | fuel + 1, i, listed => (Region.ready .any ops listed).contains i && lexR ops fuel (i + 1) (listed.setIfInBounds i true)
theorem anyL_lex {k n : Nat} {F : Array Bool → St → Prop} (hF : ∀ listed s, F listed s → ∀ i, i < k → listed.getD i true = true) (hp : pairB ops k n = true) (hkn : k ≤ n) : ∀ (l : List Oper) (i : Nat) (listed : Array Bool) (s : St), RefsD s → i + l.length = k → (∀ j, j < l.length → l[j]? = ops[i + j]?) →
    lexR ops l.length i listed = true → lexA P ops (F ((List.range' i l.length).foldl (fun a i => a.setIfInBounds i true) listed)) l s → anyL P ops k F l.length listed s
  | [], _, _, _, _, _, _, _, h => h
  | o :: l, i, listed, s, hR, hk, hl, hB, h => by
    have h0 : ops[i]? = some o := by simpa using (hl 0 (by simp)).symm
    simp only [List.length_cons] at hk
    simp only [List.length_cons, lexR, Bool.and_eq_true] at hB
    obtain ⟨hr, hB'⟩ := hB
    have hr' : i ∈ Region.ready .any ops listed := by simpa using hr
    obtain ⟨hd, h⟩ := h
    have hl' : ∀ j, j < l.length → l[j]? = ops[(i + 1) + j]? := fun j hj => by have := hl (j + 1) (by simpa using hj); simpa [Nat.add_assoc, Nat.add_comm 1 j] using this
    simp only [List.length_cons, List.range'_succ, List.foldl_cons] at h
    rcases h with ⟨hg, v, m', hst, hrest⟩ | ⟨hg, hrest⟩
    · have hy : Yield P ops o s ((s.with m').put o.dst v) := ⟨hd, .inl ⟨hg, v, m', hst, rfl⟩⟩
      exact anyL_first hF hp hkn h0 (by omega) l.length listed s _ hR hr' hy (anyL_lex hF hp hkn l (i + 1) _ _ (refs_yield hR hy) (by omega) hl' hB' hrest)
    · have hy : Yield P ops o s (s.put o.dst (.tup [])) := ⟨hd, .inr ⟨hg, rfl⟩⟩
      exact anyL_first hF hp hkn h0 (by omega) l.length listed s _ hR hr' hy (anyL_lex hF hp hkn l (i + 1) _ _ (refs_yield hR hy) (by omega) hl' hB' hrest)
/-- the call's own memory with one vec more -/
def addV (m : Hp) (d n sz : Nat) (e : TypeId) (es : List PV) : Hp := { m.setq d (.vec n sz e) with v := upd m.v d (some es) }

theorem live_addV {m : Hp} {d n sz : Nat} {e : TypeId} {es : List PV} {r : Ref} (h : Live m r) : Live (addV m d n sz e es) r := by
  cases r with
  | b i => exact h
  | r i =>
    show upd m.q d _ i ≠ none
    by_cases e : d = i
    · subst e; rw [upd_same]; simp
    · rw [upd_ne _ _ e]; exact h
variable {o oe : Oper} {s s' : St} {v : PV} {f : Hp → Hp}
theorem calleeOf_congr {ρ ρ' : Operand → PV} {o : Oper} {c : Call} (ho : o.op = .call c) (h : ∀ x ∈ o.op.operands, ρ x = ρ' x) : calleeOf ρ c = calleeOf ρ' c := by
  rw [ho] at h
  unfold calleeOf
  cases hcal : c.callee with
  | value f =>
    have e1 : ρ f = ρ' f := h f (by simp [Op.operands, Call.operands, hcal])
    have e2 : c.args.toList.map ρ' = c.args.toList.map ρ := List.map_congr_left fun x hx => (h x (by simp [Op.operands, Call.operands]; right; simpa using hx)).symm
    simp only [e1, e2]
  | _ => rfl
theorem aop_look (hl : lookB o.op = true) {ρ : Operand → PV} {m : Hp} (ho : (aop P o ρ m).ok) : (aop P o ρ m).m = m := by
  obtain ⟨dst, op, ty, pos, af, guard⟩ := o
  cases op <;> first | (simp [lookB] at hl; done) | skip
  · rfl
  · simp only [aop] at ho ⊢
    split at ho
    · rename_i h; rw [if_pos h]
      unfold aLoad at ho ⊢
      split at ho <;> first | rfl | skip
      · split at ho <;> first | rfl | exact ho.elim
      · split at ho <;> first | rfl | exact ho.elim
      · exact ho.elim
    · exact ho.elim
  · simp only [aop] at ho ⊢
    unfold aFieldAddr at ho ⊢
    split at ho <;> first | rfl | exact ho.elim
theorem look_yield (hl : lookB o.op = true) (hg : o.guard = none) (h : Yield P ops o s s') : dstOk s.n o.dst ∧ (aop P o s.eval s.m).ok ∧ s' = s.put o.dst (aop P o s.eval s.m).v := by
  obtain ⟨h1, ⟨_, v, m', h2, rfl⟩ | ⟨h2, _⟩⟩ := h
  · rcases h2 with ⟨h2, rfl, rfl⟩ | ⟨c, _, _, h2, _⟩
    · rw [aop_look hl h2]; exact ⟨h1, h2, rfl⟩
    · rw [h2] at hl; simp [lookB] at hl
  · simp [gd, hg] at h2
theorem ids_of_didsL {es : List PV} (h : PV.didsL es = []) : ∀ p ∈ es, p.ids = [] := fun p hp => by
  cases hi : p.ids with
  | nil => rfl
  | cons x l =>
    have : x ∈ PV.didsL es := PV.mem_didsL.2 ⟨p, hp, ids_dids _ (by rw [hi]; simp)⟩
    rw [h] at this; cases this
def looksB (ops : Array Oper) (k : Nat) : Bool := (List.range k).all fun i => ((ops[i]?).map fun o => lookB o.op && o.guard.isNone).getD false
theorem looksB_spec {k i : Nat} (h : looksB ops k = true) (hi : i < k) (ei : ops[i]? = some o) : lookB o.op = true ∧ o.guard = none := by
  simp only [looksB, List.all_eq_true, List.mem_range] at h
  have := h i hi
  simp only [ei, Option.map_some, Option.getD_some, Bool.and_eq_true, Option.isNone_iff_eq_none] at this
  exact this

/-- an operation behind the looks: a call that hands on a vec, a literal that makes one, or one that changes no memory -/
inductive CK (P : Program) (o : Oper) (s : St) : PV → (Hp → Hp) → Prop
  | call (c : Call) (g : FuncId) (args args0 : List PV) (r0 : PV) (i d n sz : Nat) (e : TypeId) (es : List PV) (hop : o.op = .call c) (hcl : calleeOf s.eval c = some (g, args)) (hg : PV.giveL s.m args = args0) (ha : ∀ p ∈ args0, p.ids = []) (h1 : Eff P g args0 noV r0 (vecN i n sz e es)) (hq : s.m.q d = none) (hes : PV.didsL es = []) (hr : ∀ j ∈ (r0.ren (fun _ => d) id).dids, j = .r d) :
      CK P o s (r0.ren (fun _ => d) id) (fun m => addV m d n sz e es)
  | lit (t : TypeId) (len : Nat) (parts : Array (Nat × Operand)) (d : Nat) (ei : EInfo) (hop : o.op = .buildSlice t len parts) (hd : o.dst = some d) (ht : telem P t = some ei) (hq : s.m.q d = none) (hl : len = (parts.toList.map fun x => (x.1, s.eval x.2)).length) (hs : len * ei.size ≤ 16777216) (hp : partsV ei.size d 0 (parts.toList.map fun x => (x.1, s.eval x.2))) :
      CK P o s (.vsl d len ei.size) (fun m => addV m d len ei.size ei.e ((parts.toList.map fun x => (x.1, s.eval x.2)).map (·.2)))
  | look (ho : (aop P o s.eval s.m).ok) (hm : (aop P o s.eval s.m).m = s.m) : CK P o s (aop P o s.eval s.m).v id
theorem CK.back (hl : lookB o.op = true) (hg : o.guard = none) (hap : o.apart ops oe = true) (hy : Yield P ops o s s') (h : CK P oe s' v f) : CK P oe s v f := by
  obtain ⟨a1, a2, a3⟩ := Oper.apart_spec hap
  obtain ⟨h1, h2, rfl⟩ := look_yield hl hg hy
  have hev : ∀ x ∈ oe.op.operands, (s.put o.dst (aop P o s.eval s.m).v).eval x = s.eval x := fun x hx => put_eval (looks_ops a1 x hx)
  have hm : (s.put o.dst (aop P o s.eval s.m).v).m = s.m := put_m _ _ _
  generalize s.put o.dst (aop P o s.eval s.m).v = s1 at *
  cases h with
  | call c g args args0 r0 i d n sz e es hop hcl hg ha h1 hq hes hr => exact .call c g args args0 r0 i d n sz e es hop (by rw [← hcl]; exact (calleeOf_congr hop hev).symm) (by rw [← hm]; exact hg) ha h1 (by rw [← hm]; exact hq) hes hr
  | lit t len parts d ei hop hd ht hq hl hs hp =>
    have hpp : (parts.toList.map fun x => (x.1, s1.eval x.2)) = (parts.toList.map fun x => (x.1, s.eval x.2)) := List.map_congr_left fun p hm => by
      rw [hev p.2 (by rw [hop]; simp only [Op.operands]; simp only [List.mem_toArray, List.mem_map]; exact ⟨p, hm, rfl⟩)]
    rw [hpp] at hl hp ⊢
    exact .lit t len parts d ei hop hd ht (by rw [← hm]; exact hq) hl hs hp
  | look ho hm' =>
    have hx : aop P oe s1.eval s1.m = aop P oe s.eval s.m := by rw [hm]; exact aop_congr oe s.m hev
    rw [hx] at ho hm' ⊢
    exact .look ho (by rw [hm']; exact hm)
theorem CK.run {K : St → Prop} (h : CK P oe s v f) (hK : K ((s.with (f s.m)).put oe.dst v)) : (∃ v m', StepM P oe s.eval s.m v m' ∧ K ((s.with m').put oe.dst v)) ∨ spec P oe s K := by
  cases h with
  | call c g args args0 r0 i d n sz e es hop hcl hg ha h1 hq hes hr =>
    refine .inr ?_
    unfold Go.PL.spec
    simp only [hop, hcl]
    refine .inr ⟨args0, noV, r0, vecN i n sz e es, fun _ => d, id, h1, ⟨by simp, by simp, by simp, by simp, fun x hx => ?_, by simp, fun x hx y hy _ => ?_⟩, .inl (by rw [map_ren ha]; exact hg), ?_⟩
    · simp only [List.mem_singleton] at hx; subst hx; exact .inr hq
    · simp only [List.mem_singleton] at hx hy; subst hx hy; rfl
    · rw [lay_vecN (ids_of_didsL hes)]; exact hK
  | lit t len parts d ei hop hd ht hq hl hs hp =>
    refine .inr ?_
    unfold Go.PL.spec
    simp only [hop, hd, vBld, ht]
    rw [hd] at hK
    exact ⟨hq, hl, hs, hp, hK⟩
  | look ho hm' => exact .inl ⟨_, _, .inl ⟨ho, rfl, rfl⟩, by rw [hm']; exact hK⟩
theorem refs_addV (hR : RefsD s) {d n sz : Nat} {e : TypeId} {es : List PV} (hes : ∀ r ∈ PV.didsL es, Live s.m r) (hv : ∀ j ∈ v.dids, j = .r d) : RefsD ((s.with (addV s.m d n sz e es)).put oe.dst v) := by
  have hl : ∀ r, Live s.m r → Live (addV s.m d n sz e es) r := fun r h => live_addV h
  have hm : ((s.with (addV s.m d n sz e es)).put oe.dst v).m = addV s.m d n sz e es := put_m _ _ _
  have hd : Live (addV s.m d n sz e es) (.r d) := by show upd s.m.q d _ d ≠ none; rw [upd_same]; simp
  refine ⟨fun i k hk => ?_, fun i cs hi c hc k hk => ?_, fun b c hc k hk => ?_, fun b x c hx hc k hk => ?_, fun i es' hi k hk => ?_, fun b c hc k hk => ?_⟩
  · rw [hm]
    by_cases ed : oe.dst = some i
    · have : ((s.with (addV s.m d n sz e es)).put oe.dst v).fr i = v := by rw [ed]; exact upd_same _ _ _
      rw [this] at hk
      rw [hv k hk]; exact hd
    · have : ((s.with (addV s.m d n sz e es)).put oe.dst v).fr i = s.fr i := put_fr ed
      rw [this] at hk
      exact hl _ (hR.fr i k hk)
  · rw [hm] at hi ⊢; exact hl _ (hR.h i cs hi c hc k hk)
  · rw [hm] at hc ⊢; exact hl _ (hR.o b c hc k hk)
  · rw [hm] at hx; exact hR.it b x c hx hc k hk
  · rw [hm] at hi ⊢
    by_cases ed : d = i
    · subst ed
      have : es' = es := by
        have h0 : upd s.m.v d (some es) d = some es' := hi
        rw [upd_same] at h0; exact (Option.some.inj h0).symm
      subst this
      exact hl _ (hes k hk)
    · have h0 : upd s.m.v d (some es) i = some es' := hi
      rw [upd_ne _ _ ed] at h0
      exact hl _ (hR.v i es' h0 k hk)
  · rw [hm] at hc ⊢; exact hl _ (hR.om b c hc k hk)
theorem eval_live (hR : RefsD s) (x : Operand) : ∀ r ∈ (s.eval x).dids, Live s.m r := fun r h => by
  cases x with
  | tmp t => exact hR.fr t r h
  | const v => simp [St.eval, dids_ofVal] at h
  | _ => simp [St.eval, PV.dids, PV.didsL] at h
theorem CK.refs (h : CK P oe s v f) (hd : dstOk s.n oe.dst) (hg : gd ops s oe = some true) (hR : RefsD s) : RefsD ((s.with (f s.m)).put oe.dst v) := by
  cases h with
  | call c g args args0 r0 i d n sz e es hop hcl hg ha h1 hq hes hr => exact refs_addV hR (by rw [hes]; simp) hr
  | lit t len parts d ei hop hd ht hq hl hs hp =>
    refine refs_addV hR (fun r hr => ?_) (fun j hj => by simpa [PV.dids] using hj)
    obtain ⟨p, hp, hr⟩ := PV.mem_didsL.1 hr
    simp only [List.map_map, List.mem_map] at hp
    obtain ⟨x, _, rfl⟩ := hp
    exact eval_live hR x.2 r hr
  | look ho hm => exact refs_yield (P := P) (ops := ops) (o := oe) hR ⟨hd, .inl ⟨hg, _, _, .inl ⟨ho, rfl, hm.symm⟩, rfl⟩⟩
theorem aop_keep {ρ : Operand → PV} {m m' : Hp} (hl : lookB o.op = true) (ho : (aop P o ρ m).ok) (hh : m'.h = m.h) (hv : ∀ x ∈ o.op.operands, ∀ i, .r i ∈ (ρ x).ids → m'.v i = m.v i) :
    (aop P o ρ m').ok ∧ (aop P o ρ m').v = (aop P o ρ m).v := by
  obtain ⟨dst, op, ty, pos, af, guard⟩ := o
  cases op <;> first | (simp [lookB] at hl; done) | skip
  · exact ⟨trivial, rfl⟩
  · rename_i t x
    have hx := hv x (by simp [Op.operands])
    simp only [aop] at ho ⊢
    split at ho
    · rename_i h
      rw [if_pos h, if_pos h]
      cases hv : ρ x with
      | vptr id n' sz' i off =>
        rw [hv] at hx ho
        have e1 := hx id (by simp [PV.ids])
        simp only [aLoad, e1] at ho ⊢
        split at ho
        · exact ⟨ho, rfl⟩
        · exact ho.elim
      | ptr id off =>
        rw [hv] at ho
        simp only [aLoad, hh] at ho ⊢
        split at ho
        · exact ⟨ho, rfl⟩
        · exact ho.elim
      | rptr cs => rw [hv] at ho; exact ⟨ho, rfl⟩
      | _ => rw [hv] at ho; exact ho.elim
    · exact ho.elim
  · simp only [aop] at ho ⊢
    unfold aFieldAddr at ho ⊢
    split at ho <;> first | exact ⟨ho, rfl⟩ | exact ho.elim
theorem CK.keep (h : CK P oe s v f) : (f s.m).h = s.m.h ∧ ∀ i, s.m.q i ≠ none → (f s.m).v i = s.m.v i := by
  have add : ∀ {d n sz : Nat} {e : TypeId} {es : List PV}, s.m.q d = none → (addV s.m d n sz e es).h = s.m.h ∧ ∀ i, s.m.q i ≠ none → (addV s.m d n sz e es).v i = s.m.v i := fun hq =>
    ⟨rfl, fun i hi => upd_ne _ _ fun e => by subst e; exact hi hq⟩
  cases h with
  | call c g args args0 r0 i d n sz e es hop hcl hg ha h1 hq hes hr => exact add hq
  | lit t len parts d ei hop hd ht hq hl hs hp => exact add hq
  | look ho hm => exact ⟨rfl, fun _ _ => rfl⟩
theorem CK.ext (h : CK P oe s v f) (h' : CK P oe s' v f) (hl : lookB o.op = true) (hg : o.guard = none) (hap : o.apart ops oe = true) (hR : RefsD s) (hy : Yield P ops o s s') : Yield P ops o ((s.with (f s.m)).put oe.dst v) ((s'.with (f s'.m)).put oe.dst v) := by
  obtain ⟨a1, a2, a3⟩ := Oper.apart_spec hap
  obtain ⟨h1, h2, rfl⟩ := look_yield hl hg hy
  obtain ⟨k1, k2⟩ := h.keep
  have hev : ∀ x ∈ o.op.operands, ((s.with (f s.m)).put oe.dst v).eval x = s.eval x := fun x hx => by
    rw [put_eval (looks_ops a3 x hx), with_eval]
  have hm : ((s.with (f s.m)).put oe.dst v).m = f s.m := put_m _ _ _
  obtain ⟨g1, g2⟩ := aop_keep (m' := f s.m) hl h2 k1 fun x _ i hi => k2 i (eval_live hR x (.r i) (ids_dids _ hi))
  refine ⟨?_, .inl ⟨by simp [gd, hg], (aop P o s.eval s.m).v, f s.m, .inl ?_, ?_⟩⟩
  · rw [put_n]; exact h1
  · rw [hm, aop_congr o _ hev, aop_look hl g1]
    exact ⟨g1, g2.symm, rfl⟩
  · rw [put_m, put_with, put_with, put_comm _ _ _ a2]; rfl
/-- operation j comes here, and R holds behind it -/
def GoC (P : Program) (ops : Array Oper) (j : Nat) (R : St → Prop) (s : St) : Prop := ∃ o v f, ops[j]? = some o ∧ dstOk s.n o.dst ∧ gd ops s o = some true ∧ CK P o s v f ∧ R ((s.with (f s.m)).put o.dst v)
/-- the looks that are left, then the others one after the other, then the rest -/
def GC (P : Program) (ops : Array Oper) (k : Nat) (E : Array Bool → St → Prop) : Nat → Nat → Nat → Array Bool → St → Prop
  | 0, _, fl, listed, s => anyE P .any ops E fl listed s
  | m + 1, j, fl, listed, s => anyL P ops k (fun listed s => (∀ i, i < k → listed.getD i true = true) ∧ GoC P ops j (GC P ops k E m (j + 1) 0 (listed.setIfInBounds j true)) s) fl listed s
theorem GC_first {k N : Nat} {E : Array Bool → St → Prop} (hE : ∀ listed s, E listed s → ∀ i, i < N → listed.getD i true = true) (hc : tailed .any ops N = true) (hp : pairB ops k N = true) (hkN : k ≤ N) (m j : Nat) {i : Nat} {oi : Oper} (hi : ops[i]? = some oi) (hik : i < k) (fl : Nat) (listed : Array Bool) (s s1 : St)
    (hR : RefsD s) (hcl : Closed .any ops listed) (hsz : listed.size = ops.size) (hr : i ∈ Region.ready .any ops listed) (hy : Yield P ops oi s s1) (h : GC P ops k E m j fl (listed.setIfInBounds i true) s1) : GC P ops k E m j (fl + 1) listed s := by
  cases m with
  | zero => exact anyE_first hE hc hi (by omega) fl listed s s1 hR hcl hsz (fun x ox hx hxN hxi hun hno => pairB_spec hp hik hxN hxi hi hx hno (ready_free hr hi hun)) hr hy h
  | succ m => exact anyL_first (fun _ _ h => h.1) hp hkN hi hik fl listed s s1 hR hr hy h
theorem GC_lift {k N m j : Nat} {E : Array Bool → St → Prop} (hE : ∀ listed s, E listed s → ∀ i, i < N → listed.getD i true = true) (hc : tailed .any ops N = true) (hp : pairB ops k N = true) (hlk : looksB ops k = true) (hkj : k ≤ j) (hjN : j < N) :
    ∀ (fl : Nat) (listed : Array Bool) (s : St), RefsD s → Closed .any ops listed → listed.size = ops.size → j ∈ Region.ready .any ops listed → GC P ops k E (m + 1) j fl listed s → GoC P ops j (GC P ops k E m (j + 1) fl (listed.setIfInBounds j true)) s
  | 0, listed, s, hR, hcl, hsz, hj, h => h.2
  | fl + 1, listed, s, hR, hcl, hsz, hj, h => by
    obtain ⟨⟨i, hi, hik⟩, h⟩ := h
    obtain ⟨oi, s1, hoi, hy, hn⟩ := h i hi hik
    obtain ⟨l1, l2⟩ := looksB_spec hlk hik hoi
    have hne : j ≠ i := by omega
    obtain ⟨o, v, f, ho, g1, g2, g3, g4⟩ := GC_lift (m := m) hE hc hp hlk hkj hjN fl (listed.setIfInBounds i true) s1 (refs_yield hR hy) (hcl.step hi) (by simpa using hsz) (ready_mono hj hne) hn
    have hap := (pairB_spec hp hik hjN hne hoi ho (ready_free hj ho (mem_ready.1 hi).1) (ready_free hi hoi (mem_ready.1 hj).1)).1
    have hv := g3.back l1 l2 hap hy
    obtain ⟨a1, _, _⟩ := Oper.apart_spec hap
    obtain ⟨y1, y2, y3⟩ := look_yield l1 l2 hy
    have g1' : dstOk s.n o.dst := by rw [y3, put_n] at g1; exact g1
    have g2' : gd ops s o = some true := by
      rw [y3, show s.put oi.dst (aop P oi s.eval s.m).v = (s.with s.m).put oi.dst (aop P oi s.eval s.m).v from rfl, put_gd a1] at g2
      exact g2
    refine ⟨o, v, f, ho, g1', g2', hv, ?_⟩
    refine GC_first hE hc hp (by omega) m (j + 1) hoi hik fl _ _ _ (hv.refs g1' g2' hR) (hcl.step hj) (by simpa using hsz) (ready_mono hi (Ne.symm hne)) (hv.ext g3 l1 l2 hap hR hy) ?_
    rw [Array.setIfInBounds_comm _ _ hne]; exact g4
/-- the others wait for looks and for one another, in the order of the text; what comes behind an operation waits for it -/
def lateC (ops : Array Oper) (k N : Nat) : Bool := (List.range N).all fun j => decide (j < k) || (((ops[j]?).map fun o => o.after.all fun e => !Region.binds .any e || decide (e.on < j)).getD false && (List.range ops.size).all fun x => decide (x ≤ j) || ((ops[x]?).map fun o => o.after.any fun e => Region.binds .any e && decide (j ≤ e.on)).getD false)
theorem lateC_spec {k N j : Nat} (h : lateC ops k N = true) (hk : k ≤ j) (hN : j < N) : (∀ o, ops[j]? = some o → ∀ e ∈ o.after, Region.binds .any e = true → e.on < j) ∧ ∀ {listed : Array Bool}, (∀ x, j ≤ x → listed.getD x false = false) → ∀ i ∈ Region.ready .any ops listed, i ≤ j := by
  simp only [lateC, List.all_eq_true, List.mem_range, Bool.or_eq_true, decide_eq_true_eq, Bool.and_eq_true] at h
  obtain ⟨h1, h2⟩ := (h j hN).resolve_left (by omega)
  refine ⟨fun o ho e he hb => ?_, fun hl i hi => ?_⟩
  · rw [ho] at h1
    simp only [Option.map_some, Option.getD_some] at h1
    have := Array.all_eq_true'.1 h1 e he
    simpa [hb] using this
  · obtain ⟨_, oj, hoj, hall⟩ := mem_ready.1 hi
    refine (h2 i (Array.getElem?_eq_some_iff.1 hoj).1).resolve_right fun h3 => ?_
    rw [hoj] at h3
    simp only [Option.map_some, Option.getD_some] at h3
    obtain ⟨e, he, hb⟩ := Array.any_eq_true'.1 h3
    simp only [Bool.and_eq_true, decide_eq_true_eq] at hb
    have := hall e he hb.1
    rw [hl _ hb.2] at this; cases this
theorem GC_sound {k N M0 : Nat} {K : St → Prop} {E : Array Bool → St → Prop} (hE : ∀ listed s, E listed s → ∀ i, i < N → listed.getD i true = true) (hc : tailed .any ops N = true) (hp : pairB ops k N = true) (hlk : looksB ops k = true) (hlt : lateC ops k N = true) (hNs : N ≤ ops.size) (hEK : ∀ listed s, E listed s → wAny P ops K M0 listed s) :
    ∀ (m j fl : Nat) (listed : Array Bool) (s : St), j + m = N → k ≤ j → Closed .any ops listed → listed.size = ops.size → (∀ x, k ≤ x → x < j → listed.getD x true = true) → (∀ x, j ≤ x → listed.getD x false = false) → GC P ops k E m j fl listed s → wAny P ops K (M0 + fl + m) listed s := by
  intro m
  induction m with
  | zero => intro j fl listed s _ _ _ _ _ _ h; exact anyE_sound hEK fl listed s h
  | succ m ihm =>
    intro j fl
    induction fl with
    | zero =>
      intro listed s hjm hkj hcl hsz hlo hhi h B Qc S0 w0 hQ S M a w hs he
      obtain ⟨oj, hoj⟩ : ∃ oj, ops[j]? = some oj := ⟨_, Array.getElem?_eq_getElem (show j < ops.size by omega)⟩
      obtain ⟨w1, w2⟩ := lateC_spec hlt hkj (by omega)
      have hj : j ∈ Region.ready .any ops listed := by
        refine mem_ready.2 ⟨?_, oj, hoj, fun e he hb => ?_⟩
        · have := hhi j (Nat.le_refl _)
          have hk' : j < listed.size := by omega
          simp [hk'] at this ⊢; exact this
        · have h1 := w1 oj hoj e he hb
          have h2 : listed.getD e.on true = true := by
            rcases Nat.lt_or_ge e.on k with h' | h'
            · exact h.1 _ h'
            · exact hlo _ h' h1
          have hk' : e.on < listed.size := by omega
          simp [hk'] at h2 ⊢; exact h2
      refine ⟨fun h0 => (by rw [h0] at hj; cases hj), fun i hi => ?_⟩
      have hij := w2 hhi i hi
      have ei : i = j := by
        rcases Nat.lt_or_ge i j with h' | h'
        · exfalso
          have : listed.getD i true = true := by
            rcases Nat.lt_or_ge i k with h'' | h''
            · exact h.1 _ h''
            · exact hlo _ h'' h'
          rw [(mem_ready.1 hi).1] at this; cases this
        · omega
      subst ei
      obtain ⟨o, v, f, ho, g1, g2, g3, g4⟩ := h.2
      unfold wpOp
      simp only [ho]
      rw [gd_ok hs g2, if_pos rfl]
      have hn := ihm (i + 1) 0 (listed.setIfInBounds i true) _ (by omega) (by omega) (hcl.step hi) (by simpa using hsz) (fun x h1 h2 => by
        by_cases e : i = x
        · subst e
          simp only [Array.getD_eq_getD_getElem?, Array.getElem?_setIfInBounds]
          split
          · split <;> simp
          · rename_i h; exact absurd trivial h
        · rw [getD_set_ne true e]; exact hlo x h1 (by omega)) (fun x hx => by rw [getD_set_ne false (by omega)]; exact hhi x (by omega)) g4
      rcases g3.run (K := wAny P ops K (M0 + 0 + m) (listed.setIfInBounds i true)) hn with ⟨v', m', hst, hk⟩ | hsp
      · exact .inl (step_sound hs (dstOk_spec g1) hst _ _ fun u w' S' M' hs' he' => hk B Qc S0 w0 hQ S' M' _ w' hs' (he.trans he'))
      · exact .inl (spec_sound hs (dstOk_spec g1) hsp _ _ fun s' u w' S' M' hk hs' he' => hk B Qc S0 w0 hQ S' M' _ w' hs' (he.trans he'))
    | succ fl ihf =>
      intro listed s hjm hkj hcl hsz hlo hhi h B Qc S0 w0 hQ S M a w hs he
      obtain ⟨w1, w2⟩ := lateC_spec hlt hkj (by omega)
      obtain ⟨⟨i0, hi0, _⟩, h'⟩ := id h
      refine ⟨fun h0 => (by rw [h0] at hi0; cases hi0), fun i hi => ?_⟩
      have hij := w2 hhi i hi
      by_cases ei : i = j
      · subst ei
        obtain ⟨o, v, f, ho, g1, g2, g3, g4⟩ := GC_lift hE hc hp hlk hkj (by omega) (fl + 1) listed s hs.refsD hcl hsz hi h
        unfold wpOp
        simp only [ho]
        rw [gd_ok hs g2, if_pos rfl]
        have hn := ihm (i + 1) (fl + 1) (listed.setIfInBounds i true) _ (by omega) (by omega) (hcl.step hi) (by simpa using hsz) (fun x h1 h2 => by
          by_cases e : i = x
          · subst e
            simp only [Array.getD_eq_getD_getElem?, Array.getElem?_setIfInBounds]
            split
            · split <;> simp
            · rename_i h; exact absurd trivial h
          · rw [getD_set_ne true e]; exact hlo x h1 (by omega)) (fun x hx => by rw [getD_set_ne false (by omega)]; exact hhi x (by omega)) g4
        rcases g3.run (K := wAny P ops K (M0 + (fl + 1) + m) (listed.setIfInBounds i true)) hn with ⟨v', m', hst, hk⟩ | hsp
        · exact .inl (step_sound hs (dstOk_spec g1) hst _ _ fun u w' S' M' hs' he' => hk B Qc S0 w0 hQ S' M' _ w' hs' (he.trans he'))
        · exact .inl (spec_sound hs (dstOk_spec g1) hsp _ _ fun s' u w' S' M' hk hs' he' => hk B Qc S0 w0 hQ S' M' _ w' hs' (he.trans he'))
      · have hik : i < k := by
          rcases Nat.lt_or_ge i k with h' | h'
          · exact h'
          · exfalso
            have := hlo i h' (by omega)
            rw [(mem_ready.1 hi).1] at this; cases this
        obtain ⟨oi, s1, hoi, hy, hn⟩ := h' i hi hik
        have hn := ihf _ s1 hjm hkj (hcl.step hi) (by simpa using hsz) (fun x h1 h2 => by rw [getD_set_ne true (by omega)]; exact hlo x h1 h2) (fun x hx => by rw [getD_set_ne false (by omega)]; exact hhi x hx) hn
        unfold wpOp
        simp only [hoi]
        obtain ⟨hd, hy⟩ := hy
        rw [show M0 + fl + (m + 1) = M0 + (fl + 1) + m by omega] at hn
        rcases hy with ⟨hg, v, m', hst, rfl⟩ | ⟨hg, rfl⟩
        · rw [gd_ok hs hg, if_pos rfl]
          exact .inl (step_sound hs (dstOk_spec hd) hst _ _ fun u w' S' M' hs' he' => hn B Qc S0 w0 hQ S' M' _ w' hs' (he.trans he'))
        · rw [gd_ok hs hg, if_neg (by simp)]
          exact hn B Qc S0 w0 hQ S M _ w (skip_sim hs hd) he
/-- the operations from j on, one after the other, up to N; then the rest -/
def vCh (P : Program) (N : Nat) (K : KS) (l : List Oper) : Nat → Nat → St → Prop
  | 0, _, s => @vAny P (List.range N) K ⟨l⟩ s
  | m + 1, j, s => GoC P l.toArray j (vCh P N K l m (j + 1)) s
def splitLB (k N : Nat) (ops : Array Oper) : Bool := decide (k < N) && decide (N ≤ ops.size) && tailed .any ops N && pairB ops k N && looksB ops k && lateC ops k N && lexR ops k 0 (Array.replicate ops.size false)
theorem markA_succ (listed : Array Bool) (j : Nat) : (markA listed (List.range j)).setIfInBounds j true = markA listed (List.range (j + 1)) := by
  rw [List.range_succ]; unfold markA; rw [List.foldl_append]; rfl
/-- A REGION IN THREE PARTS: looks, calls and literals that make vecs, the others -/
theorem vSplitE {id : Nat} {l : List Oper} {Q : Exit → St → Prop} {s : St} (k N : Nat) (hm : P.follows .mixedOrders = true) (hB : splitLB k N l.toArray = true)
    (h : ∀ l1, l1 = l.take k → @vA P false ⟨vCh P N ⟨@vQ ⟨Q⟩ .normal⟩ l (N - k) k⟩ ⟨l⟩ ⟨l1⟩ s) : awp P (.region id l.toArray true) Q s := fun B S M a w hs => by
  have h := h _ rfl
  simp only [splitLB, Bool.and_eq_true, decide_eq_true_eq, List.size_toArray] at hB
  obtain ⟨⟨⟨⟨⟨⟨hkN, hN⟩, hc⟩, hp⟩, hlk⟩, hlt⟩, hx⟩ := hB
  have hlen : (l.take k).length = k := by simp; omega
  refine awp_any (P := P) (ops := l.toArray) (Q := Q) hm ?_ B S M a w hs
  intro B' Qc S0 w0 hQ S' M' a' w' hs' he'
  have hA := vcA_lex _ s h
  let K : St → Prop := @vQ ⟨Q⟩ .normal
  let E : Array Bool → St → Prop := fun listed s => listed = markA (Array.replicate l.length false) (List.range N) ∧ @vAny P (List.range N) ⟨K⟩ ⟨l⟩ s
  have hE : ∀ listed s, E listed s → ∀ i, i < N → listed.getD i true = true := fun listed s h i hi => by
    rw [h.1]; exact markA_getD (n := 0) _ _ (.inr (List.mem_range.2 hi))
  have hEK : ∀ listed s, E listed s → wAny P l.toArray K (l.length - N) listed s := fun listed s h => by
    obtain ⟨rfl, h⟩ := h
    have h : wAny P l.toArray _ (l.length - (List.range N).length) _ s := h
    simpa using h
  have hcl0 : Closed .any l.toArray (Array.replicate l.length false) := fun x ox hx hl => by
    have hx' := (Array.getElem?_eq_some_iff.1 hx).1
    simp at hx'
    simp [hx'] at hl
  have hL : List.range' 0 k = List.range k := List.range_eq_range'.symm
  have hch : ∀ m j s, j + m = N → k ≤ j → vCh P N ⟨K⟩ l m j s → GC P l.toArray k E m j 0 (markA (Array.replicate l.length false) (List.range j)) s := by
    intro m
    induction m with
    | zero =>
      intro j s hj _ h
      have e : j = N := by omega
      subst e
      exact ⟨rfl, h⟩
    | succ m ih =>
      intro j s hj hkj h
      refine ⟨fun i hi => markA_getD (n := 0) _ _ (.inr (List.mem_range.2 (by omega))), ?_⟩
      obtain ⟨o, v, f, h1, h2, h3, h4, h5⟩ := h
      refine ⟨o, v, f, h1, h2, h3, h4, ?_⟩
      rw [markA_succ]
      exact ih (j + 1) _ (by omega) (by omega) h5
  have hG : GC P l.toArray k E (N - k) k k (Array.replicate l.length false) s := by
    have hlex : lexA P l.toArray (fun s => GC P l.toArray k E (N - k) k 0 (markA (Array.replicate l.length false) (List.range k)) s) (l.take k) s := lexA_mono (fun s h => hch (N - k) k s (by omega) (Nat.le_refl _) h) _ _ hA
    have go : ∀ (F : Array Bool → St → Prop), (∀ listed s, F listed s → ∀ i, i < k → listed.getD i true = true) → lexA P l.toArray (F (markA (Array.replicate l.length false) (List.range k))) (l.take k) s → anyL P l.toArray k F k (Array.replicate l.length false) s := fun F hF hl => by
      have := anyL_lex (P := P) (F := F) hF hp (by omega) (l.take k) 0 (Array.replicate l.length false) s hs'.refsD (by rw [hlen]; omega) (fun j hj => by
        rw [hlen] at hj
        simp [hj]) (by rw [hlen]; simpa using hx) (by rw [hlen, hL]; exact hl)
      rwa [hlen] at this
    obtain ⟨m, hm⟩ : ∃ m, N - k = m + 1 := ⟨N - k - 1, by omega⟩
    rw [hm] at hlex ⊢
    exact go _ (fun _ _ h => h.1) hlex
  have h2 := GC_sound (P := P) (K := K) (M0 := l.length - N) hE hc hp hlk hlt (by simpa using hN) hEK (N - k) k k (Array.replicate l.length false) s (by omega) (Nat.le_refl _) hcl0 (by simp) (fun x h1 h2 => by omega) (fun x hx => by
    simp only [Array.getD_eq_getD_getElem?]
    by_cases h : x < l.length <;> simp [h]) hG
  have e : l.length - N + k + (N - k) = l.toArray.size := by simp; omega
  rw [e] at h2
  have h2 := h2 B' Qc S0 w0 hQ S' M' a' w' hs' he'
  simpa using h2
/-- a call that hands on a vec -/
theorem vCh_vn {N m j : Nat} {l : List Oper} {K : KS} {s : St} {o : Oper} {c : Call} {g : FuncId} {args args0 : List PV} {i n sz t : Nat} {e : TypeId} {es : List PV} {r0 : PV} (d : Nat) (h1 : Eff P g args0 noV r0 (vecN i n sz e es)) (hes : PV.didsL es = []) (ha : ∀ p ∈ args0, p.ids = [])
    (ho : l[j]? = some o) (hc : o.op = .call c) (hg : o.guard = none) (ht : o.dst = some t) (htn : t < s.n) (hcl : calleeOf s.eval c = some (g, args)) (hd : s.m.q d = none) (he : PV.giveL s.m args = args0) (hr : ∀ j ∈ (r0.ren (fun _ => d) id).dids, j = .r d)
    (h2 : vCh P N K l m (j + 1) ((s.with { s.m.setq d (.vec n sz e) with v := upd s.m.v d (some es) }).put (some t) (r0.ren (fun _ => d) id))) : vCh P N K l (m + 1) j s :=
  ⟨o, _, _, by simpa using ho, by rw [ht]; exact htn, by simp [gd, hg], .call c g args args0 r0 i d n sz e es hc hcl he ha h1 hd hes hr, by rw [ht]; exact h2⟩
/-- one that changes no memory -/
theorem vCh_op {N m j : Nat} {l : List Oper} {K : KS} {s : St} {o : Oper} (ho : l[j]? = some o) (hg : o.guard = none) (hd : dstOk s.n o.dst) (h1 : (aop P o s.eval s.m).ok) (h2 : (aop P o s.eval s.m).m = s.m) (h : vCh P N K l m (j + 1) (s.put o.dst (aop P o s.eval s.m).v)) : vCh P N K l (m + 1) j s :=
  ⟨o, _, _, by simpa using ho, hd, by simp [gd, hg], .look h1 h2, h⟩
def quietB : Op → Bool
  | .build .. => true
  | .move _ | .fieldAddr .. | .load .. => true
  | _ => false
theorem aop_quiet {o : Oper} (hl : quietB o.op = true) {ρ : Operand → PV} {m : Hp} (ho : (aop P o ρ m).ok) : (aop P o ρ m).m = m := by
  obtain ⟨dst, op, ty, pos, af, guard⟩ := o
  cases op with
  | build t ps =>
    simp only [aop] at ho ⊢
    unfold aBuild at ho ⊢
    split at ho <;> first | exact ho.elim | (split at ho <;> first | rfl | exact ho.elim)
  | move x => exact aop_look rfl ho
  | load x y => exact aop_look rfl ho
  | fieldAddr x y z => exact aop_look rfl ho
  | _ => simp [quietB] at hl
/-- one that changes no memory, as simp walks it -/
theorem vCh_walk {N m j : Nat} {l : List Oper} {K : KS} {s : St} {o : Oper} (ho : l[j]? = some o) (hg : o.guard = none) (hq : quietB o.op = true) (h : ∀ l1, l1 = [o] → @vA P false ⟨vCh P N K l m (j + 1)⟩ ⟨l⟩ ⟨l1⟩ s) : vCh P N K l (m + 1) j s := by
  obtain ⟨hd, h⟩ := vcA_lex _ s (h _ rfl)
  rcases h with ⟨hg', v, m', hst, hrest⟩ | ⟨hg', _⟩
  · rcases hst with ⟨h1, rfl, rfl⟩ | ⟨c, _, _, h1, _⟩
    · rw [aop_quiet hq h1] at hrest
      exact vCh_op ho hg hd h1 (aop_quiet hq h1) hrest
    · rw [h1] at hq; simp [quietB] at hq
  · simp [gd, hg] at hg'
/-- a literal that makes a vec -/
theorem vCh_lit {N m j : Nat} {l : List Oper} {K : KS} {s : St} {o : Oper} {t : TypeId} {len : Nat} {parts : Array (Nat × Operand)} {d : Nat} {ei : EInfo} (ho : l[j]? = some o) (hop : o.op = .buildSlice t len parts) (hg : o.guard = none) (hd : o.dst = some d) (hdn : d < s.n) (ht : telem P t = some ei) (hq : s.m.q d = none)
    (hl : len = (parts.toList.map fun x => (x.1, s.eval x.2)).length) (hs : len * ei.size ≤ 16777216) (hp : partsV ei.size d 0 (parts.toList.map fun x => (x.1, s.eval x.2)))
    (h : vCh P N K l m (j + 1) ((s.with { s.m.setq d (.vec len ei.size ei.e) with v := upd s.m.v d (some ((parts.toList.map fun x => (x.1, s.eval x.2)).map (·.2))) }).put (some d) (.vsl d len ei.size))) : vCh P N K l (m + 1) j s :=
  ⟨o, _, _, by simpa using ho, by rw [hd]; exact hdn, by simp [gd, hg], .lit t len parts d ei hop hd ht hq hl hs hp, by rw [hd]; exact h⟩
theorem vCh_end {N j : Nat} {l : List Oper} {K : KS} {s : St} (h : @vAny P (List.range N) K ⟨l⟩ s) : vCh P N K l 0 j s := h
end
end Go.PL
