/- A logic of values for functions that only read and build, over the model (part 9): no statement of the seat is proved here. -/
import Derived.Test.YthingdchjkhfbaaGreatVPlH
set_option linter.unusedSimpArgs false
set_option linter.unusedVariables false
namespace Go.PL
open Go.RowKit
set_option linter.unusedVariables false
inductive Pub (K : Ref → Prop) (m : Hp) : PV → PV → Prop
 | keep (p : PV) (h : ∀ i ∈ p.ids, K i) : Pub K m p p
 | row (id : Nat) (es : List PV) : Pub K m (.sl (.row id) es) (.sl .no es)
 | vec (id n sz : Nat) (es es' : List PV) (hk : ¬ K (.r id)) (hv : m.v id = some es) (hn : es.length = n) (hl : es'.length = es.length) (hc : ∀ p ∈ es', p.ids = []) (h : ∀ i, i < es.length → Pub K m (es.getD i .any) (es'.getD i .any)) : Pub K m (.vsl id n sz) (.sl .no es')
 | blk (id off : Nat) (cs cs' : List PV) (hk : ¬ K (.b id)) (hh : m.h id = some cs) (hz : m.z id = false) (hl : cs'.length = cs.length) (hc : ∀ p ∈ cs', p.ids = []) (h : ∀ i, i < cs.length → Pub K m (cs.getD i .any) (cs'.getD i .any)) : Pub K m (.ptr id off) (.rptr (cs'.drop off))
 | frozen (id off : Nat) (cs : List PV) (hh : m.h id = some cs) (hz : m.z id = true) : Pub K m (.ptr id off) (.rptr (cs.drop off))
 | agg (cs cs' : List PV) (hl : cs'.length = cs.length) (h : ∀ i, i < cs.length → Pub K m (cs.getD i .any) (cs'.getD i .any)) : Pub K m (.agg cs) (.agg cs')
 | tup (cs cs' : List PV) (hl : cs'.length = cs.length) (h : ∀ i, i < cs.length → Pub K m (cs.getD i .any) (cs'.getD i .any)) : Pub K m (.tup cs) (.tup cs')
 | fn (f : FuncId) (cs cs' : List PV) (hl : cs'.length = cs.length) (h : ∀ i, i < cs.length → Pub K m (cs.getD i .any) (cs'.getD i .any)) : Pub K m (.fn f cs) (.fn f cs')
theorem Pub.clean {K : Ref → Prop} {m : Hp} {p : PV} (h : p.ids = []) : Pub K m p p := .keep p (by rw [h]; simp)
theorem Pub.vec0 {K : Ref → Prop} {m : Hp} {id n sz : Nat} {es : List PV} (hk : ¬ K (.r id)) (hv : m.v id = some es) (hn : es.length = n) (hc : ∀ p ∈ es, p.ids = []) : Pub K m (.vsl id n sz) (.sl .no es) :=
 .vec id n sz es es hk hv hn rfl hc fun i hi => .clean (hc _ (getD_mem hi))
theorem Pub.agg_of {K : Ref → Prop} {m : Hp} {cs : List PV} {p : PV} (h : Pub K m (.agg cs) p) : ∃ cs', p = .agg cs' ∧ cs'.length = cs.length := by
 cases h with
 | keep _ h => exact ⟨cs, rfl, rfl⟩
 | agg _ cs' hl h => exact ⟨cs', rfl, hl⟩
theorem Pub.not_agg {K : Ref → Prop} {m : Hp} {p p' : PV} (h : Pub K m p p') (hp : ∀ cs, p ≠ .agg cs) : p.cells = [p] ∧ p'.cells = [p'] := by
 cases h with
 | keep _ h => cases p <;> first | exact ⟨rfl, rfl⟩ | exact absurd rfl (hp _)
 | agg cs => exact absurd rfl (hp _)
 | _ => exact ⟨rfl, rfl⟩
section
variable {P : Program} {B : Frm} {S : Stable} {M : Maps} {s : St} {a : Act} {w : World}
def pubB (K : Ref → Prop) (M : Maps) (m : Hp) (b : Nat) : Prop :=
 (∃ id es, m.v id = some es ∧ ¬ K (.r id) ∧ 0 < M.κ id ∧ M.ψ id = b) ∨ ∃ id cs, m.h id = some cs ∧ m.z id = false ∧ ¬ K (.b id) ∧ M.φ id = b
open Classical in
noncomputable def pubS (K : Ref → Prop) (S : Stable) (M : Maps) (m : Hp) (w : World) : Stable := ⟨fun b o => if pubB K M m b then w.cell? ⟨b, o, none⟩ else S b o, S.m⟩
theorem pubS_in {K : Ref → Prop} {m : Hp} {b o : Nat} (h : pubB K M m b) : (pubS K S M m w).c b o = w.cell? ⟨b, o, none⟩ := by simp [pubS, h]
theorem pubS_out {K : Ref → Prop} {m : Hp} {b o : Nat} (h : ¬ pubB K M m b) : (pubS K S M m w).c b o = S b o := by simp [pubS, h]
theorem pubB_spec {K : Ref → Prop} (hs : Sim B S M s a w) {b : Nat} (h : pubB K M s.m b) : ¬ B b ∧ (∀ o, S b o = none) := by
 rcases h with ⟨id, es, h1, _, h3, rfl⟩ | ⟨id, cs, h1, h2, _, rfl⟩
 ·obtain ⟨sz, e, q⟩ := hs.vec_q h1
  obtain ⟨_, g⟩ := hs.row id _ q
  obtain ⟨_, _, g3, _, g5⟩ := g (M.κ id - 1) (by omega)
  exact ⟨g3, g5⟩
 ·obtain ⟨g1, g2, _⟩ := hs.own h1 h2
  exact ⟨g1, g2⟩
theorem pubS_le {K : Ref → Prop} (hs : Sim B S M s a w) : SLe S (pubS K S M s.m w) := .cells rfl fun b o v hv => by
 rw [pubS_out]
 ·exact hv
 ·intro h; rw [(pubB_spec hs h).2 o] at hv; cases hv
theorem pubS_stab {K : Ref → Prop} (hs : Sim B S M s a w) : StabS (pubS K S M s.m w) w := ⟨fun b o v hv => by
 by_cases h : pubB K M s.m b
 ·rw [pubS_in h] at hv; exact hv
 ·rw [pubS_out h] at hv; exact hs.stable b o v hv, hs.stable.s.m⟩
theorem pubS_B {K : Ref → Prop} (hs : Sim B S M s a w) {b : Nat} (h : B b) : (∀ o, (pubS K S M s.m w).c b o = S b o) ∧ (pubS K S M s.m w).m b = S.m b :=
 ⟨fun o => pubS_out fun hp => (pubB_spec hs hp).1 h, rfl⟩
theorem Pub.rep {K : Ref → Prop} (hs : Sim B S M s a w) {p p' : PV} (hp : Pub K s.m p p') : ∀ v, RepS S M s.m.q v p → RepS (pubS K S M s.m w) M s.m.q v p' := by
 have mono : ∀ {v p}, RepS S M s.m.q v p → RepS (pubS K S M s.m w) M s.m.q v p := fun r => r.heap (pubS_le hs) (fun _ _ => rfl) (fun _ _ => .refl _ _ _)
 -- a row of cells, element by element
 have cells : ∀ {e e' : PV} {us : List Value}, Pub K s.m e e' → (∀ v, RepS S M s.m.q v e → RepS (pubS K S M s.m w) M s.m.q v e') → us.length = e.cells.length → (∀ j, j < e.cells.length → RepS S M s.m.q (us.getD j undef) (e.cells.getD j .any)) →
   e'.cells.length = e.cells.length ∧ ∀ j, j < e.cells.length → RepS (pubS K S M s.m w) M s.m.q (us.getD j undef) (e'.cells.getD j .any) := by
  intro e e' us hp ih hl hr
  by_cases he : ∃ cs, e = .agg cs
  ·obtain ⟨cs, rfl⟩ := he
   obtain ⟨cs', rfl, hl'⟩ := hp.agg_of
   obtain ⟨us', e1, e2, e3⟩ := (ih (.agg ⟨us⟩) (.agg us cs hl hr)).agg_inv
   simp only [Value.agg.injEq, Array.mk.injEq] at e1
   subst e1
   exact ⟨hl', fun j hj => e3 j (by simp only [PV.cells] at hj; omega)⟩
  ·obtain ⟨c1, c2⟩ := hp.not_agg (fun cs e => he ⟨cs, e⟩)
   rw [c1] at hl hr ⊢
   rw [c2]
   refine ⟨rfl, fun j hj => ?_⟩
   have hj0 : j = 0 := by simpa using hj
   subst hj0
   exact ih _ (hr 0 hj)
 induction hp with
 | keep p h => exact fun v r => mono r
 | row id es => exact fun v r => .clean ((r.sl_inv).mono (pubS_le hs))
 | vec id n sz es es' hk hv hn hl hc h ih =>
  intro v r
  subst hn
  obtain ⟨sz', e, q1, r1, r2, r4⟩ := hs.vc id es hv
  obtain ⟨_, t⟩ := r.vsl_inv
  obtain ⟨_, t2⟩ := t _ _ _ q1
  obtain ⟨rfl, t3, t4⟩ := t2 rfl
  obtain ⟨o1, o2⟩ := hs.row id _ q1
  cases hκ : M.κ id with
  | zero =>
   have h0 := o1 hκ
   rw [t3 hκ, List.eq_nil_of_length_eq_zero (hl.trans h0)]
   exact .clean (.sl0 none 0)
  | succ c =>
   obtain ⟨k1, k2, k3, ⟨vs, k5, k6⟩, k4⟩ := o2 c hκ
   have k7 := r4 c hκ vs e (0, 0) k5
   have hb : pubB K M s.m (M.ψ id) := .inl ⟨id, es, hv, hk, by omega, rfl⟩
   have ix : ∀ {i j}, i < es.length → j < sz' → i * sz' + j < vs.length := fun {i j} hi hj => by
    rw [k6]
    calc i * sz' + j < i * sz' + sz' := by omega
     _ = (i + 1) * sz' := by rw [Nat.add_mul, Nat.one_mul]
     _ ≤ c * sz' := Nat.mul_le_mul_right _ (by omega)
   have el : ∀ i, i < es.length → (es'.getD i .any).cells.length = sz' ∧ ∀ j, j < sz' → RepS (pubS K S M s.m w) M s.m.q (vs.getD (i * sz' + j) undef) ((es'.getD i .any).cells.getD j .any) := fun i hi => by
    have hlen := (r1 _ (getD_mem (d := .any) hi)).1
    have := cells (us := (vs.drop (i * sz')).take sz') (h i hi) (ih i hi) (by
     rw [hlen, List.length_take, List.length_drop]
     have : i * sz' + sz' ≤ vs.length := by
      rw [k6]
      calc i * sz' + sz' = (i + 1) * sz' := by rw [Nat.add_mul, Nat.one_mul]
       _ ≤ c * sz' := Nat.mul_le_mul_right _ (by omega)
     omega) (fun j hj => by
     rw [getD_take (by omega), getD_drop]
     exact k7 i j hi (by omega))
    obtain ⟨a1, a2⟩ := this
    refine ⟨a1.trans hlen, fun j hj => ?_⟩
    have := a2 j (by omega)
    rw [getD_take hj, getD_drop] at this
    exact this
   rw [t4 c hκ]
   have hsl : Rep (pubS K S M s.m w) (.slice (some ⟨M.ψ id, 0, none⟩) es'.length c) (.sl .no es') :=
    .sl (M.ψ id) 0 c sz' es' (fun i j => vs.getD (i * sz' + j) undef) (fun i hi => (el i (by omega)).1) (by omega) (fun i j hi hj => by
     rw [pubS_in hb, cell_of k5, Nat.zero_add, List.getElem?_eq_getElem (ix (by omega) hj), getD_lt (ix (by omega) hj)]) (fun i j hi hj => by
     refine ((el i (by omega)).2 j hj).alone ?_
     have hid := hc _ (getD_mem (d := .any) hi)
     cases hids : ((es'.getD i .any).cells.getD j .any).ids with
     | nil => rfl
     | cons x xs =>
      have := cells_ids (p := es'.getD i .any) (getD_mem (d := .any) (by rw [(el i (by omega)).1]; exact hj)) (k := x) (by rw [hids]; simp)
      rw [hid] at this; cases this)
   rw [hl] at hsl
   exact .clean hsl
 | blk id off cs cs' hk hh hz hl hc h ih =>
  intro v r
  rw [r.ptr_inv]
  obtain ⟨g1, g2, ⟨vs, t, g3, g4, g5⟩, g6⟩ := hs.own hh hz
  have hb : pubB K M s.m (M.φ id) := .inr ⟨id, cs, hh, hz, hk, rfl⟩
  refine .clean (.rptr (M.φ id) off _ (fun j => vs.getD (off + j) undef) (fun j hj => ?_) (fun j hj => ?_))
  ·simp only [List.length_drop] at hj
   rw [pubS_in hb, cell_of g3, List.getElem?_eq_getElem (by omega), getD_lt (by omega)]
  ·simp only [List.length_drop] at hj
   rw [getD_drop]
   exact (ih (off + j) (by omega) _ (g5 (off + j) (by omega))).alone (hc _ (getD_mem (by omega)))
 | frozen id off cs hh hz =>
  intro v r
  have := (r.give hs ⟨hz, by rw [hh]; simp⟩)
  simp only [PV.give, hz, hh] at this
  exact .clean (this.mono (pubS_le hs))
 | agg cs cs' hl h ih =>
  intro v r
  obtain ⟨vs, rfl, hl', hr⟩ := r.agg_inv
  exact .agg vs cs' (by omega) fun i hi => ih i (by omega) _ (hr i (by omega))
 | tup cs cs' hl h ih =>
  intro v r
  obtain ⟨vs, rfl, hl', hr⟩ := r.tup_inv
  exact .tup vs cs' (by omega) fun i hi => ih i (by omega) _ (hr i (by omega))
 | fn f cs cs' hl h ih =>
  intro v r
  obtain ⟨vs, rfl, hl', hr⟩ := r.fn_inv
  exact .fn f vs cs' (by omega) fun i hi => ih i (by omega) _ (hr i (by omega))
theorem Pub.cells_shape {K : Ref → Prop} {m : Hp} {p p' : PV} (h : Pub K m p p') : p'.cells.length = p.cells.length ∧ (p.cells.all PV.atom = true → p'.cells.all PV.atom = true) := by
 have at1 : ∀ {x y : PV}, Pub K m x y → x.atom = true → y.atom = true := fun h hx => by
  cases h <;> first | exact hx | rfl | (simp [PV.atom] at hx)
 by_cases he : ∃ cs, p = .agg cs
 ·obtain ⟨cs, rfl⟩ := he
  cases h with
  | keep _ h => exact ⟨rfl, fun h => h⟩
  | agg _ cs' hl h =>
   refine ⟨hl, fun hall => ?_⟩
   simp only [PV.cells, List.all_eq_true] at hall ⊢
   intro y hy
   obtain ⟨i, hi, rfl⟩ := List.getElem_of_mem hy
   have := h i (by omega)
   rw [getD_lt (by omega), getD_lt hi] at this
   exact at1 this (hall _ (List.getElem_mem _))
 ·obtain ⟨c1, c2⟩ := h.not_agg (fun cs e => he ⟨cs, e⟩)
  rw [c1, c2]
  exact ⟨rfl, fun hx => by simpa using at1 h (by simpa using hx)⟩
theorem Pub.cells_rep {K : Ref → Prop} (hs : Sim B S M s a w) {e e' : PV} {us : List Value} (hp : Pub K s.m e e') (hl : us.length = e.cells.length) (hr : ∀ j, j < e.cells.length → RepS S M s.m.q (us.getD j undef) (e.cells.getD j .any)) :
  ∀ j, j < e.cells.length → RepS (pubS K S M s.m w) M s.m.q (us.getD j undef) (e'.cells.getD j .any) := by
 by_cases he : ∃ cs, e = .agg cs
 ·obtain ⟨cs, rfl⟩ := he
  obtain ⟨cs', rfl, hl'⟩ := hp.agg_of
  obtain ⟨us', e1, e2, e3⟩ := (hp.rep hs (.agg ⟨us⟩) (.agg us cs hl hr)).agg_inv
  simp only [Value.agg.injEq, Array.mk.injEq] at e1
  subst e1
  exact fun j hj => e3 j (by simp only [PV.cells] at hj; omega)
 ·obtain ⟨c1, c2⟩ := hp.not_agg (fun cs e => he ⟨cs, e⟩)
  rw [c1] at hl hr ⊢
  rw [c2]
  intro j hj
  have hj0 : j = 0 := by simpa using hj
  subst hj0
  exact hp.rep hs _ (hr 0 hj)
def vRet0 (P : Program) (r : PV) (s : St) : List PV → List ResultVar → Prop
 | acc, [] => r = pack acc.reverse
 | acc, .tmp t :: rs => vRet0 P r s (s.fr t :: acc) rs
 | acc, .cell t ty :: rs => tkn P ty = true ∧ (aLoad P ty (s.fr t) s.m).ok ∧ vRet0 P r s ((aLoad P ty (s.fr t) s.m).v :: acc) rs
theorem vRet0_retP {r : PV} {s : St} : ∀ (rs : List ResultVar) (acc : List PV), vRet0 P r s acc rs →
  allOk (rs.map (resV P s)) ∧ r = pack (acc.reverse ++ rs.map fun x => (resV P s x).v)
 | [], acc, h => by simpa [vRet0, allOk] using h
 | .tmp t :: rs, acc, h => by
  obtain ⟨h1, h2⟩ := vRet0_retP rs _ h
  exact ⟨⟨trivial, h1⟩, by simpa [resV] using h2⟩
 | .cell t ty :: rs, acc, h => by
  obtain ⟨h0, h0', h⟩ := h
  obtain ⟨h1, h2⟩ := vRet0_retP rs _ h
  refine ⟨⟨?_, h1⟩, ?_⟩
  ·simpa [resV, h0] using h0'
  ·simpa [resV, h0] using h2
theorem vRet0_run {fn : Func} {r : PV} {rs : List ResultVar} (hs : Sim B S M s a w) (hrs : fn.results = rs.toArray) (h : vRet0 P r s [] rs) : ∃ v, (results fn a.tmps).run P w = .ok v w ∧ RepS S M s.m.q v r := by
 obtain ⟨g1, g2⟩ := vRet0_retP rs [] h
 have hl : fn.results.toList = rs := by rw [hrs]
 have g1' : allOk (fn.results.toList.map (resV P s)) := by rw [hl]; exact g1
 obtain ⟨v, hv, hrv⟩ := results_sound hs g1'
 rw [hl] at hrv
 refine ⟨v, hv, ?_⟩
 rw [g2]
 simpa using hrv
def pRetQ (P : Program) (rs : List ResultVar) (r : PV) : Exit → St → Prop
 | .normal, s => ∃ r0, vRet0 P r0 s [] rs ∧ Pub (fun _ => False) s.m r0 r
 | .ret, s => ∃ r0, vRet0 P r0 s [] rs ∧ Pub (fun _ => False) s.m r0 r
 | _, _ => False
theorem vQ_pret_ret (rs : List ResultVar) (r : PV) (s : St) : @vQ ⟨pRetQ P rs r⟩ .ret s = ∃ r0, vRet0 P r0 s [] rs ∧ Pub (fun _ => False) s.m r0 r := rfl
theorem vQ_pret_normal (rs : List ResultVar) (r : PV) (s : St) : @vQ ⟨pRetQ P rs r⟩ .normal s = ∃ r0, vRet0 P r0 s [] rs ∧ Pub (fun _ => False) s.m r0 r := rfl
def St.vms (s : St) (l : List Nat) : St := s.with { s.m with vm := upds (l.map fun i => (i, true)) fun _ => false }
theorem awp_vm {c : Code} {Q : Exit → St → Prop} (f : Nat → Bool) (h : awp P c Q (s.with { s.m with vm := f })) : awp P c Q s := fun B S M a w hs => by
 have live : ∀ i, Live s.m i → Live { s.m with vm := f } i := fun i h => by cases i <;> exact h
 refine h B S M a w ⟨hs.defers, hs.hn, hs.hB, hs.stable, hs.fr, fun i k hk => live k (hs.ids i k hk), fun i b hb => ?_, hs.row, hs.inj, hs.injq, hs.injx, fun b c hc => ?_, fun i es he => ?_, ⟨hs.pn.h, hs.pn.q⟩⟩
 ·have hb' := hs.blk i b hb
  show BlkOk _ _ _ _ _ _ _ (s.m.z i)
  cases hz : s.m.z i with
  | false =>
   rw [hz] at hb'
   obtain ⟨h1, h2, ⟨us, t', h3, h4, h5⟩, h6⟩ := hb'
   exact ⟨h1, h2, ⟨us, t', h3, h4, h5⟩, fun c hc k hk => live k (h6 c hc k hk)⟩
  | true => rw [hz] at hb'; exact hb'
 ·obtain ⟨g1, g2, g3, g4⟩ := hs.rm b c hc
  exact ⟨g1, g2, g3, g4.move (SLe.refl _) rfl (fun v p r _ => r) live⟩
 ·exact (hs.vc i es he).move (fun _ _ _ h => h) rfl rfl (fun _ => rfl) (fun v p r _ => r) live
theorem Pure.of_p (vm : List Nat) {f : FuncId} {fn : Func} {c : Code} {args : List PV} {r : PV} {n : Nat} {rs : List ResultVar} (hf : P.funcs[f]? = some fn) (hname : fn.name ≠ "runtime.NumGoroutine") (hb : fn.body = some c) (hn : fn.ntmps = n) (hrs : fn.results = rs.toArray) (hl : args.length ≤ n) (hi : r.dids = [])
  (h : @vC P ⟨c⟩ ⟨pRetQ P rs r⟩ ((St.init args n).vms vm)) : Pure P f args r := by
 subst hn
 refine ⟨⟨fn, hf, hname, by rw [hb]; rfl⟩, hi, fun w S vs hst hlen hr => ?_⟩
 refine calls_of_wp hf hb ?_
 have hs := sim_init (B := fun k => k < w.heap.size) (w := w) (n := fn.ntmps) (o := fun _ => none) hl hlen hr (fun k hk => hk) ⟨hst, fun k d hd => (by cases hd), fun k x hx => (by cases hx)⟩
 have hsz : (⟨vs⟩ : Array Value).size = vs.length := by simp
 rw [hsz]
 refine wp_mono (awp_vm _ (vc_sound _ _ _ h) _ S _ _ w hs) fun e a' w' hq => ?_
 obtain ⟨s', S', M', h1, h2, h3⟩ := hq
 have fin : (∃ r0, vRet0 P r0 s' [] rs ∧ Pub (fun _ => False) s'.m r0 r) → a'.defers = [] ∧ ∃ v, (results fn a'.tmps).run P w' = .ok v w' ∧ ∃ v' S', Ending.returned v = .returned v' ∧ Rep S' v' r ∧ StabS S' w' ∧ SLe S S' ∧ (∀ b, b < w.heap.size → (∀ o, S' b o = S b o) ∧ S'.m b = S.m b) ∧ Below w.heap.size w w' := by
  rintro ⟨r0, g1, g2⟩
  obtain ⟨v, hv, hrv⟩ := vRet0_run h2 hrs g1
  have hp := (g2.rep h2 v hrv).alone (List.eq_nil_iff_forall_not_mem.2 fun k hk => by have := ids_dids _ hk; rw [hi] at this; cases this)
  refine ⟨h2.defers, v, hv, v, _, rfl, hp, pubS_stab h2, h3.1.trans (pubS_le h2), fun b hb => ?_, h3.2.2.to⟩
  obtain ⟨q1, q2⟩ := pubS_B (K := fun _ => False) h2 (b := b) hb
  obtain ⟨q3, q4⟩ := h3.2.1 b hb
  exact ⟨fun o => (q1 o).trans (q3 o), q2.trans q4⟩
 cases e with
 | normal => exact fin h1
 | ret => exact fin h1
 | _ => exact h1.elim
def MemL.hpP (m : MemL) (p : Nat → Nat) (q : Nat → Option (Nat × Nat × Nat)) : Hp := { m.hp with ph := upds (m.H.map fun x => (x.1, some (p x.1))) fun _ => none, pq := upds (m.R.map fun x => (x.1, q x.1)) fun _ => none }
theorem upds_if {α β : Type} {L : List (Nat × α)} {F : Nat → Option β} {i : Nat} {y : β} (h : upds (L.map fun x => (x.1, F x.1)) (fun _ => none) i = some y) : F i = some y ∧ ∃ x ∈ L, x.1 = i := by
 induction L with
 | nil => cases h
 | cons x L ih =>
  have h' : upd (upds (L.map fun x => (x.1, F x.1)) fun _ => none) x.1 (F x.1) i = some y := h
  by_cases e : x.1 = i
  ·rw [e, upd_same] at h'; exact ⟨h', x, by simp, e⟩
  ·rw [upd_ne _ _ e] at h'
   obtain ⟨h1, z, hz, hzi⟩ := ih h'
   exact ⟨h1, z, by simp [hz], hzi⟩
structure ERet (P : Program) (rs : List ResultVar) (r : PV) (m0 m1 : MemL) (ph : Nat → Nat) (pq : Nat → Option (Nat × Nat × Nat)) (s : St) : Prop where
 r : ∃ r0, vRet0 P r0 s [] rs ∧ Pub m1.has s.m r0 r
 h : ∀ x ∈ m1.H, ∃ cs, s.m.h x.1 = some cs ∧ s.m.z x.1 = false ∧ x.2.length = cs.length ∧ ∀ i, i < cs.length → Pub m1.has s.m (cs.getD i .any) (x.2.getD i .any)
 q : ∀ x ∈ m1.R, s.m.q x.1 = some x.2
 v : ∀ x ∈ m1.V, ∃ es, s.m.v x.1 = some es ∧ x.2.length = es.length ∧ ∀ i, i < es.length → Pub m1.has s.m (es.getD i .any) (x.2.getD i .any)
 ph : ∀ x ∈ m0.H, s.m.ph x.1 = some (ph x.1)
 pq : ∀ x ∈ m0.R, s.m.pq x.1 = pq x.1
def eRetQ (P : Program) (rs : List ResultVar) (r : PV) (m0 m1 : MemL) (ph : Nat → Nat) (pq : Nat → Option (Nat × Nat × Nat)) : Exit → St → Prop
 | .normal, s => ERet P rs r m0 m1 ph pq s
 | .ret, s => ERet P rs r m0 m1 ph pq s
 | _, _ => False
theorem vQ_eret_ret (rs : List ResultVar) (r : PV) (m0 m1 : MemL) (ph : Nat → Nat) (pq : Nat → Option (Nat × Nat × Nat)) (s : St) : @vQ ⟨eRetQ P rs r m0 m1 ph pq⟩ .ret s = ERet P rs r m0 m1 ph pq s := rfl
theorem vQ_eret_normal (rs : List ResultVar) (r : PV) (m0 m1 : MemL) (ph : Nat → Nat) (pq : Nat → Option (Nat × Nat × Nat)) (s : St) : @vQ ⟨eRetQ P rs r m0 m1 ph pq⟩ .normal s = ERet P rs r m0 m1 ph pq s := rfl
def Row.compat : Row → Row → Prop
 | .live _ sz e, .live _ sz' e' => sz = sz' ∧ e = e'
 | .vec _ sz e, .vec _ sz' e' => sz = sz' ∧ e = e'
 | _, .dead => True
 | _, _ => False
theorem initS_rep {q : Rows} {vs : List Value} {args : List PV} {n : Nat} (hl : vs.length = args.length) (hr : ∀ i, i < args.length → RepS S M q (vs.getD i undef) (args.getD i .any)) (i : Nat) :
  RepS S M q (((⟨vs⟩ : Array Value) ++ Array.replicate (n - vs.length) undef).getD i undef) (initFr 0 args i) := by
 rw [initFr_getD args 0 i (Nat.zero_le _), Nat.sub_zero]
 by_cases hi : i < args.length
 ·have := hr i hi
  rw [getD_lt hi] at this ⊢
  rw [getD_lt (by omega)] at this
  have e : ((⟨vs⟩ : Array Value) ++ Array.replicate (n - vs.length) undef).getD i undef = vs[i]'(by omega) := by
   rw [Array.getD_eq_getD_getElem?, Array.getElem?_append_left (by simp; omega)]
   simp [show i < vs.length by omega]
  rw [e]; exact this
 ·rw [getD_ge (by omega)]
  have e : ((⟨vs⟩ : Array Value) ++ Array.replicate (n - vs.length) undef).getD i undef = undef := by
   rw [Array.getD_eq_getD_getElem?, Array.getElem?_append_right (by simp; omega)]
   simp only [Array.getElem?_replicate]
   split <;> rfl
  rw [e]
  exact .clean (.tup [] [] rfl (fun i hi => by simp at hi))
theorem initS_ids {args : List PV} {m : MemL} (ca : ∀ p ∈ args, ∀ i ∈ p.ids, m.has i) (i : Nat) (k : Ref) (hk : k ∈ (initFr 0 args i).ids) : m.has k := by
 rw [initFr_getD args 0 i (Nat.zero_le _), Nat.sub_zero] at hk
 by_cases hi : i < args.length
 ·rw [getD_lt hi] at hk; exact ca _ (List.getElem_mem hi) k hk
 ·rw [getD_ge (by omega)] at hk; simp [PV.ids, PV.idsL] at hk
open Classical in
theorem Eff.of_v (vm : List Nat) {f : FuncId} {fn : Func} {c : Code} {args : List PV} {m0 m1 : MemL} {r : PV} {n : Nat} {rs : List ResultVar} (hf : P.funcs[f]? = some fn) (hname : fn.name ≠ "runtime.NumGoroutine") (hb : fn.body = some c) (hn : fn.ntmps = n) (hrs : fn.results = rs.toArray) (hl : args.length ≤ n)
  (ok0 : m0.Ok) (ok1 : m1.Ok) (ca : ∀ p ∈ args, ∀ i ∈ p.ids, m0.has i) (cr : ∀ i ∈ r.ids, m1.has i) (kh : ∀ x ∈ m0.H, ∃ y ∈ m1.H, y.1 = x.1) (kr : ∀ x ∈ m0.R, ∃ y ∈ m1.R, y.1 = x.1 ∧ Row.compat x.2 y.2)
  (h : ∀ ph pq, @vC P ⟨c⟩ ⟨eRetQ P rs r m0 m1 ph pq⟩ (St.vms ⟨initFr 0 args, m0.hpP ph pq, n⟩ vm)) : Eff P f args m0 r m1 := by
 subst hn
 refine ⟨⟨fn, hf, hname, by rw [hb]; rfl⟩, ok0, ok1, ca, cr, fun i hi => ?_, fun B S M w vs hs0 hlen hr => ?_⟩
 ·cases i with
  | b i => obtain ⟨y, hy, rfl⟩ := hi; exact kh y hy
  | r i => obtain ⟨y, hy, rfl⟩ := hi; obtain ⟨z, hz, e, _⟩ := kr y hy; exact ⟨z, hz, e⟩
 refine calls_of_wp hf hb ?_
 let ph : Nat → Nat := M.φ
 let pq : Nat → Option (Nat × Nat × Nat) := fun i => match m0.hp.q i with | some r => (match r.len with | some n => some (n, M.κ i, M.ψ i) | none => none) | none => none
 have hs : Sim B S M ⟨initFr 0 args, m0.hpP ph pq, fn.ntmps⟩ { tmps := ⟨vs⟩ ++ Array.replicate (fn.ntmps - vs.length) undef, defers := [] } w := by
  refine ⟨rfl, by simp; omega, hs0.hB, hs0.stable, fun i => initS_rep hlen hr i, fun i k hk => ?_, hs0.blk, hs0.row, hs0.inj, hs0.injq, hs0.injx, hs0.rm, hs0.vc, ⟨fun i b hb => ?_, fun i n k b hb => ?_⟩⟩
  ·have := ok0.live (initS_ids ca i k hk)
   cases k <;> exact this
  ·have hb : upds (m0.H.map fun x => (x.1, some (ph x.1))) (fun _ => none) i = some b := hb
   obtain ⟨h1, x, hx, rfl⟩ := upds_if (F := fun i => some (ph i)) hb
   cases h1
   exact ⟨ok0.live (i := .b x.1) ⟨x, hx, rfl⟩, rfl⟩
  ·have hb : upds (m0.R.map fun x => (x.1, pq x.1)) (fun _ => none) i = some (n, k, b) := hb
   have hb := (upds_if (F := pq) hb).1
   simp only [pq] at hb
   cases hq0 : m0.hp.q i with
   | none => rw [hq0] at hb; cases hb
   | some r0 =>
    rw [hq0] at hb
    cases hl0 : r0.len with
    | none => simp only [hl0] at hb; cases hb
    | some n0 =>
     simp only [hl0, Option.some.injEq, Prod.mk.injEq] at hb
     obtain ⟨rfl, rfl, rfl⟩ := hb
     refine ⟨fun e => (by have e : m0.hp.q i = none := e; rw [hq0] at e; cases e), fun r1 n1 h1 h2 => ?_⟩
     have h1 : m0.hp.q i = some r1 := h1
     rw [hq0] at h1
     cases h1
     rw [hl0] at h2
     cases h2
     exact ⟨Nat.le_refl _, fun _ => ⟨rfl, rfl⟩⟩
 have hsz : (⟨vs⟩ : Array Value).size = vs.length := by simp
 rw [hsz]
 refine wp_mono (awp_vm _ (vc_sound _ _ _ (h ph pq)) _ S _ _ w hs) fun e a' w' hq => ?_
 obtain ⟨s', S', M', h1, h2, h3⟩ := hq
 have fin : ERet P rs r m0 m1 ph pq s' → a'.defers = [] ∧ ∃ v, (results fn a'.tmps).run P w' = .ok v w' ∧ ∃ v' S1 M1, Ending.returned v = .returned v' ∧ RepS S1 M1 m1.hp.q v' r ∧ Sim B S1 M1 (stNo m1.hp) actNo w' ∧ Ext B S S1 w w' ∧ (∀ x ∈ m0.H, M1.φ x.1 = M.φ x.1) ∧ ∀ x ∈ m0.R, RowLe M M1 x.1 (m0.hp.q x.1) (m1.hp.q x.1) := by
  rintro ⟨⟨r0, g1, g2⟩, gh, gq, gv, gph, gpq⟩
  obtain ⟨v, hv, hrv⟩ := vRet0_run h2 hrs g1
  -- what is kept, told by the smaller memory
  have down : ∀ {v p}, RepS (pubS m1.has S' M' s'.m w') M' s'.m.q v p → (∀ i ∈ p.ids, m1.has i) → RepS (pubS m1.has S' M' s'.m w') M' m1.hp.q v p := fun rr hids =>
   rr.heap (SLe.refl _) (fun _ _ => rfl) fun i hi => by
    obtain ⟨y, hy, rfl⟩ := hids _ hi
    rw [ok1.q_at hy, gq y hy]; exact .refl _ _ _
  have hP : ∀ {i}, m1.has (.b i) → ∀ {cs}, s'.m.h i = some cs → s'.m.z i = false → ¬ pubB m1.has M' s'.m (M'.φ i) := fun {i} hi {cs} hc hz hp => by
   rcases hp with ⟨id, es, e1, e2, e3, e4⟩ | ⟨id, cs', e1, e2, e3, e4⟩
   ·obtain ⟨sz, e, q⟩ := h2.vec_q e1
    exact h2.injx i id _ _ hc hz q rfl e3 e4.symm
   ·exact h2.inj id i _ _ e1 hc e2 hz (fun e => e3 (e ▸ hi)) e4
  have hPr : ∀ {i}, m1.has (.r i) → ∀ {r0}, s'.m.q i = some r0 → r0.own = true → 0 < M'.κ i → ¬ pubB m1.has M' s'.m (M'.ψ i) := fun {i} hi {r0} hq ho hk hp => by
   rcases hp with ⟨id, es, e1, e2, e3, e4⟩ | ⟨id, cs', e1, e2, e3, e4⟩
   ·obtain ⟨sz, e, q⟩ := h2.vec_q e1
    exact h2.injq id i _ _ q hq rfl ho e3 hk (fun e => e2 (e ▸ hi)) e4
   ·exact h2.injx id i _ _ e1 e2 hq ho hk e4
  refine ⟨h2.defers, v, hv, v, pubS m1.has S' M' s'.m w', M', rfl, down (g2.rep h2 v hrv) cr, ⟨rfl, rfl, h2.hB, ⟨pubS_stab h2, fun b c hc => (by cases hc), fun b x hx => (by cases hx)⟩, fun i => .clean (.any _), fun i id h => (by simp [stNo, PV.ids] at h), fun id cs hc => ?_, fun id r1 hc => ?_, fun id id' cs cs' hc hc' _ _ hne => ?_, fun id id' r1 r2 hc hc' o o' k k' hne => ?_, fun id id' cs r1 hc _ hc' o k => ?_, fun b c hc => (by cases hc), fun id es hc => ?_, ⟨fun _ _ h => (by cases h), fun _ _ _ _ h => (by cases h)⟩⟩,
   ⟨h3.1.trans (pubS_le h2), fun b hb => ?_, h3.2.2⟩, fun x hx => ?_, fun x hx => ?_⟩
  ·have hx := MemL.h_mem hc
   obtain ⟨cs0, e1, e2, e3, e4⟩ := gh _ hx
   obtain ⟨k1, k2, ⟨us, t, k3, k4, k5⟩, k6⟩ := h2.own e1 e2
   have hcl : ∀ c ∈ cs, ∀ i ∈ c.ids, m1.has i := ok1.ch _ hx
   have e3 : cs.length = cs0.length := e3
   refine ⟨k1, fun o => by rw [pubS_out (hP ⟨_, hx, rfl⟩ e1 e2)]; exact k2 o, ⟨us, t, k3, by omega, fun j hj => ?_⟩, fun c hc' i hi => ok1.live (hcl c hc' i hi)⟩
   exact down ((e4 j (by omega)).rep h2 _ (k5 j (by omega))) (hcl _ (getD_mem hj))
  ·have hx := MemL.q_mem hc
   have hq := gq _ hx
   have hrow := h2.row _ _ hq
   cases r1 with
   | dead => trivial
   | live n sz e =>
    obtain ⟨o1, o2⟩ := hrow
    refine ⟨o1, fun c hc' => ?_⟩
    obtain ⟨k1, k2, k3, k4, k5⟩ := o2 c hc'
    exact ⟨k1, k2, k3, k4, fun o ho => by rw [pubS_out (hPr ⟨_, hx, rfl⟩ hq rfl (by simp only at hc' ⊢; omega))]; exact k5 o ho⟩
   | vec n sz e =>
    obtain ⟨o1, o2⟩ := hrow
    refine ⟨o1, fun c hc' => ?_⟩
    obtain ⟨k1, k2, k3, k4, k5⟩ := o2 c hc'
    exact ⟨k1, k2, k3, k4, fun o => by rw [pubS_out (hPr ⟨_, hx, rfl⟩ hq rfl (by simp only at hc' ⊢; omega))]; exact k5 o⟩
  ·obtain ⟨_, e1, e2, _⟩ := gh _ (MemL.h_mem hc)
   obtain ⟨_, e3, e4, _⟩ := gh _ (MemL.h_mem hc')
   exact h2.inj _ _ _ _ e1 e3 e2 e4 hne
  ·exact h2.injq _ _ _ _ (gq _ (MemL.q_mem hc)) (gq _ (MemL.q_mem hc')) o o' k k' hne
  ·obtain ⟨_, e1, e2, _⟩ := gh _ (MemL.h_mem hc)
   exact h2.injx _ _ _ _ e1 e2 (gq _ (MemL.q_mem hc')) o k
  ·have hx := MemL.v_mem hc
   obtain ⟨es0, e1, e3, e4⟩ := gv _ hx
   obtain ⟨sz, e, q1, r1, r2, r4⟩ := h2.vc _ _ e1
   have e3 : es.length = es0.length := e3
   obtain ⟨y, hy, hyx⟩ := ok1.vr _ hx
   have hyx : y.1 = id := hyx
   have hq := gq y hy
   rw [hyx] at hq
   have hcl : ∀ c ∈ es, ∀ i ∈ c.ids, m1.has i := ok1.cv _ hx
   have hq2 : m1.hp.q id = some (.vec es.length sz e) := by
    have h1 := ok1.q_at hy
    rw [hyx] at h1
    rw [h1, ← hq, q1, e3]
   -- element by element
   have shape : ∀ i, i < es0.length → (es.getD i .any).cells.length = (es0.getD i .any).cells.length ∧ ((es0.getD i .any).cells.all PV.atom = true → (es.getD i .any).cells.all PV.atom = true) := fun i hi => by
    have hp := e4 i hi
    have hp : Pub m1.has s'.m (es0.getD i .any) (es.getD i .any) := hp
    generalize es0.getD i .any = x at hp
    generalize es.getD i .any = y at hp
    exact hp.cells_shape
   refine ⟨sz, e, hq2, fun p hp => ?_, fun p hp i hi => ok1.live (hcl p hp i hi), fun c hc' us t fz hus i j hi hj => ?_⟩
   ·obtain ⟨i, hi, rfl⟩ := List.getElem_of_mem hp
    obtain ⟨a1, a2⟩ := shape i (by omega)
    have hx0 := r1 _ (getD_mem (d := .any) (by omega : i < es0.length))
    rw [getD_lt hi] at a1 a2
    exact ⟨a1.trans hx0.1, a2 hx0.2⟩
   ·have hi : i < es.length := hi
    have hx0 := r1 _ (getD_mem (d := .any) (by omega : i < es0.length))
    have hp : Pub m1.has s'.m (es0.getD i .any) (es.getD i .any) := e4 i (by omega)
    have := hp.cells_rep h2 (us := (us.drop (i * sz)).take sz) (by
     obtain ⟨o1, o2⟩ := h2.row _ _ q1
     obtain ⟨k1, k2, k3, ⟨us', k4, k5⟩, _⟩ := o2 c hc'
     have hus : w'.heap[M'.ψ id]? = some (.cells ⟨us⟩ t fz) := hus
     rw [k4] at hus
     cases hus
     rw [hx0.1, List.length_take, List.length_drop]
     have : i * sz + sz ≤ us.length := by
      rw [k5]
      calc i * sz + sz = (i + 1) * sz := by rw [Nat.add_mul, Nat.one_mul]
       _ ≤ c * sz := Nat.mul_le_mul_right _ (by omega)
     omega) (fun l hl => by
     rw [getD_take (by omega), getD_drop]
     exact r4 c hc' us t fz hus i l (by omega) (by omega)) j (by omega)
    rw [getD_take hj, getD_drop] at this
    have hl2 := (shape i (by omega)).1
    exact down this fun k hk => hcl (es.getD i .any) (getD_mem hi) k (cells_ids (getD_mem (by omega)) hk)
  ·obtain ⟨q1, q2⟩ := pubS_B (K := m1.has) h2 (b := b) hb
   obtain ⟨q3, q4⟩ := h3.2.1 b hb
   exact ⟨fun o => (q1 o).trans (q3 o), q2.trans q4⟩
  ·exact (h2.pn.h x.1 _ (gph x hx)).2
  ·obtain ⟨y, hy, hyx, hk⟩ := kr x hx
   have hq0 := ok0.q_at hx
   have hq1 := ok1.q_at hy
   have hs1 := gq y hy
   rw [hyx] at hq1 hs1
   rw [hq0, hq1]
   have pin : ∀ n0 n1, x.2.len = some n0 → y.2.len = some n1 → n0 ≤ n1 ∧ (n0 = n1 → M'.κ x.1 = M.κ x.1 ∧ M'.ψ x.1 = M.ψ x.1) := fun n0 n1 l0 l1 => by
    have hb : pq x.1 = some (n0, M.κ x.1, M.ψ x.1) := by simp only [pq, hq0, l0]
    exact (h2.pn.q x.1 _ _ _ ((gpq x hx).trans hb)).2 y.2 n1 hs1 l1
   obtain ⟨xi, xr⟩ := x
   obtain ⟨yi, yr⟩ := y
   simp only at hk pin ⊢
   refine ⟨fun n sz e h => ?_, fun n sz e h => ?_⟩
   ·cases h
    cases xr with
    | live n0 sz0 e0 =>
     obtain ⟨rfl, rfl⟩ := hk
     obtain ⟨p1, p2⟩ := pin n0 n rfl rfl
     by_cases e : n0 = n
     ·subst e; exact .inl ⟨rfl, p2 rfl⟩
     ·exact .inr ⟨n0, _, _, rfl, by omega⟩
    | vec => exact hk.elim
    | dead => exact hk.elim
   ·cases h
    cases xr with
    | vec n0 sz0 e0 =>
     obtain ⟨rfl, rfl⟩ := hk
     obtain ⟨p1, p2⟩ := pin n0 n rfl rfl
     by_cases e : n0 = n
     ·subst e; exact .inl ⟨_, rfl, p2 rfl⟩
     ·exact .inr ⟨n0, _, _, rfl, by omega⟩
    | live => exact hk.elim
    | dead => exact hk.elim
 cases e with
 | normal => exact fin h1
 | ret => exact fin h1
 | _ => exact h1.elim
def mkStX (n : Nat) (L : List (Nat × PV)) (H : List (Nat × List PV × Bool)) (R : List (Nat × Row)) (O : List (Nat × MapC)) (I : List (Nat × IterC)) (V : List (Nat × List PV)) (OM : List (Nat × MapC)) (p : List (Nat × Nat)) (q : List (Nat × Option (Nat × Nat × Nat))) (vm : List Nat) : St :=
 { fr := upds L fun _ => .any, m := { h := upds (H.map fun x => (x.1, some x.2.1)) fun _ => none, z := upds (H.map fun x => (x.1, x.2.2)) fun _ => false, q := upds (R.map fun x => (x.1, some x.2)) fun _ => none, o := upds (O.map fun x => (x.1, some x.2)) fun _ => none, it := upds (I.map fun x => (x.1, some x.2)) fun _ => none, om := upds (OM.map fun x => (x.1, some x.2)) fun _ => none, v := upds (V.map fun x => (x.1, some x.2)) fun _ => none, ph := upds (p.map fun x => (x.1, some x.2)) fun _ => none, pq := upds q fun _ => none, vm := upds (vm.map fun i => (i, true)) fun _ => false }, n := n }
structure HasX (n : Nat) (L : List (Nat × PV)) (H : List (Nat × List PV × Bool)) (R : List (Nat × Row)) (O : List (Nat × MapC)) (I : List (Nat × IterC)) (V : List (Nat × List PV)) (OM : List (Nat × MapC)) (p : List (Nat × Nat)) (q : List (Nat × Option (Nat × Nat × Nat))) (s : St) : Prop where
 b : Has n L H R s
 o : ∀ x ∈ O, s.m.o x.1 = some x.2
 it : ∀ x ∈ I, s.m.it x.1 = some x.2
 v : ∀ x ∈ V, s.m.v x.1 = some x.2
 om : ∀ x ∈ OM, s.m.om x.1 = some x.2
 ph : ∀ x ∈ p, s.m.ph x.1 = some x.2
 pq : ∀ x ∈ q, s.m.pq x.1 = x.2
structure WholeX (L : List (Nat × PV)) (H : List (Nat × List PV × Bool)) (R : List (Nat × Row)) (V : List (Nat × List PV)) (OM : List (Nat × MapC)) (p : List (Nat × Nat)) (q : List (Nat × Option (Nat × Nat × Nat))) : Prop where
 t : toldB L H R
 v : ∀ x ∈ V, (PV.idsL x.2).all (refInM H R) = true
 om : ∀ x ∈ OM, (PV.idsL x.2.vs).all (refInM H R) = true
 vr : ∀ x ∈ V, (R.map (·.1)).contains x.1 = true
 pr : ∀ x ∈ p, (H.map (·.1)).contains x.1 = true
 qr : ∀ x ∈ q, (R.map (·.1)).contains x.1 = true
theorem upds_weak' {α : Type} (O : List (Nat × Option α)) (f : Nat → Option α) (h : ∀ x ∈ O, f x.1 = x.2) (i : Nat) : upds O (fun _ => none) i = none ∨ (upds O (fun _ => none) i = f i ∧ ∃ x ∈ O, x.1 = i) := by
 by_cases hi : (O.map (·.1)).contains i = true
 ·right
  refine ⟨upds_all (R := fun i v => v = f i) (fun x hx => (h x hx).symm) hi, ?_⟩
  simp only [List.contains_iff_mem, List.mem_map] at hi
  exact hi
 ·exact .inl (upds_ne (by simpa using hi))
theorem HasX.weak {n : Nat} {L : List (Nat × PV)} {H : List (Nat × List PV × Bool)} {R : List (Nat × Row)} {O : List (Nat × MapC)} {I : List (Nat × IterC)} {V : List (Nat × List PV)} {OM : List (Nat × MapC)} {p : List (Nat × Nat)} {q : List (Nat × Option (Nat × Nat × Nat))} {vm : List Nat} (hw : WholeX L H R V OM p q) (h : HasX n L H R O I V OM p q s) : Weak (mkStX n L H R O I V OM p q vm) s := by
 have hin : ∀ {i : Nat}, (R.map (·.1)).contains i = true → (mkStX n L H R O I V OM p q vm).m.q i = s.m.q i := fun {i} hi => by
  refine upds_all (R := fun i v => v = s.m.q i) (fun x hx => ?_) (by rw [map1 R some]; exact hi)
  obtain ⟨y, hy, rfl⟩ := List.mem_map.1 hx; exact (h.b.q y hy).symm
 have hih : ∀ {i : Nat}, (H.map (·.1)).contains i = true → (mkStX n L H R O I V OM p q vm).m.h i = s.m.h i := fun {i} hi => by
  refine upds_all (R := fun i v => v = s.m.h i) (fun x hx => ?_) (by rw [map1 H (fun x => some x.1)]; exact hi)
  obtain ⟨y, hy, rfl⟩ := List.mem_map.1 hx; exact (h.b.h y hy).1.symm
 refine ⟨h.b.weak.n, h.b.weak.fr, h.b.weak.h, h.b.weak.q, upds_weak O s.m.o h.o, upds_weak I s.m.it h.it, upds_weak OM s.m.om h.om, fun i => ?_, fun i => ?_, fun i => ?_⟩
 ·rcases upds_weak' (V.map fun x => (x.1, some x.2)) s.m.v (fun x hx => by obtain ⟨y, hy, rfl⟩ := List.mem_map.1 hx; exact h.v y hy) i with h1 | ⟨h1, x, hx, rfl⟩
  ·exact .inl h1
  ·obtain ⟨y, hy, rfl⟩ := List.mem_map.1 hx
   exact .inr ⟨h1, hin (hw.vr y hy)⟩
 ·rcases upds_weak' (p.map fun x => (x.1, some x.2)) s.m.ph (fun x hx => by obtain ⟨y, hy, rfl⟩ := List.mem_map.1 hx; exact h.ph y hy) i with h1 | ⟨h1, x, hx, rfl⟩
  ·exact .inl h1
  ·obtain ⟨y, hy, rfl⟩ := List.mem_map.1 hx
   exact .inr ⟨h1, hih (hw.pr y hy)⟩
 ·rcases upds_weak' q s.m.pq h.pq i with h1 | ⟨h1, x, hx, rfl⟩
  ·exact .inl h1
  ·exact .inr ⟨h1, hin (hw.qr x hx)⟩
theorem Refs.mkStX {n : Nat} {L : List (Nat × PV)} {H : List (Nat × List PV × Bool)} {R : List (Nat × Row)} {O : List (Nat × MapC)} {I : List (Nat × IterC)} {V : List (Nat × List PV)} {OM : List (Nat × MapC)} {p : List (Nat × Nat)} {q : List (Nat × Option (Nat × Nat × Nat))} {vm : List Nat} (hw : WholeX L H R V OM p q) : Refs (mkStX n L H R O I V OM p q vm) := by
 have k := Refs.mkSt (n := n) hw.t
 have lv : ∀ r, Live (PL.mkSt n L H R).m r → Live (PL.mkStX n L H R O I V OM p q vm).m r := fun r hr => by cases r <;> exact hr
 have live : ∀ r, refInM H R r = true → Live (PL.mkStX n L H R O I V OM p q vm).m r := fun r hr => by
  cases r with
  | b i =>
   show upds (H.map fun x => (x.1, some x.2.1)) (fun _ => none) i ≠ none
   exact upds_all (R := fun i v => v ≠ none) (fun x hx => by obtain ⟨y, hy, rfl⟩ := List.mem_map.1 hx; simp) (by rw [map1 H (fun x => some x.1)]; exact hr)
  | r i =>
   show upds (R.map fun x => (x.1, some x.2)) (fun _ => none) i ≠ none
   exact upds_all (R := fun i v => v ≠ none) (fun x hx => by obtain ⟨y, hy, rfl⟩ := List.mem_map.1 hx; simp) (by rw [map1 R some]; exact hr)
 refine ⟨fun i r hr => lv r (k.fr i r hr), fun i cs hi c hc r hr => lv r (k.h i cs hi c hc r hr), fun i es hi pv hp r hr => ?_, fun b c hc pv hp r hr => ?_⟩
 ·have hm := (upds_some hi).resolve_right (by simp)
  exact live r (List.all_eq_true.1 (hw.v _ hm) r (PV.mem_idsL.2 ⟨pv, hp, hr⟩))
 ·have hm := (upds_some hc).resolve_right (by simp)
  exact live r (List.all_eq_true.1 (hw.om _ hm) r (PV.mem_idsL.2 ⟨pv, hp, hr⟩))
def NextX {ι : Type} (n : Nat) (L : ι → List (Nat × PV)) (H : ι → List (Nat × List PV × Bool)) (R : ι → List (Nat × Row)) (O : ι → List (Nat × MapC)) (I : ι → List (Nat × IterC)) (V : ι → List (Nat × List PV)) (OM : ι → List (Nat × MapC)) (p : List (Nat × Nat)) (q : List (Nat × Option (Nat × Nat × Nat))) (μ : ι → Nat) (i : ι) (s' : St) : Prop :=
 ∃ j, μ j < μ i ∧ HasX n (L j) (H j) (R j) (O j) (I j) (V j) (OM j) p q s'
theorem vLoopX {c : Code} {Q : Exit → St → Prop} {ι : Type} (n : Nat) (L : ι → List (Nat × PV)) (H : ι → List (Nat × List PV × Bool)) (R : ι → List (Nat × Row)) (O : ι → List (Nat × MapC)) (I : ι → List (Nat × IterC)) (V : ι → List (Nat × List PV)) (OM : ι → List (Nat × MapC)) (p : List (Nat × Nat)) (q : List (Nat × Option (Nat × Nat × Nat))) (vm : List Nat) (μ : ι → Nat) (i0 : ι)
  (h0 : HasX n (L i0) (H i0) (R i0) (O i0) (I i0) (V i0) (OM i0) p q s) (hr : ∀ i, WholeX (L i) (H i) (R i) (V i) (OM i) p q)
  (round : ∀ i, @vC P ⟨c⟩ ⟨thenQ (NextX n L H R O I V OM p q μ i) Q⟩ (mkStX n (L i) (H i) (R i) (O i) (I i) (V i) (OM i) p q vm)) : awp P (.loop c) Q s :=
 awp_loop_gen (fun i => mkStX n (L i) (H i) (R i) (O i) (I i) (V i) (OM i) p q vm) μ i0 (h0.weak (hr i0)) (fun _ i => Refs.mkStX (hr i)) fun i => awp_mono (fun e s' h => by
  cases e with
  | normal => obtain ⟨j, hj, hm⟩ := h; exact ⟨j, hj, hm.weak (hr j)⟩
  | _ => exact h) (vc_sound _ _ _ (round i))
theorem awp_nilVec {c : Code} {Q : Exit → St → Prop} (i d sz : Nat) (e : TypeId) (hi : s.fr i = .sl .nil []) (hd : s.m.q d = none) (h : awp P c Q ({ s with fr := upd s.fr i (.vsl d 0 sz) }.with { s.m.setq d (.vec 0 sz e) with v := upd s.m.v d (some []) })) : awp P c Q s := fun B S M a w hs => by
 have hs1 := hs.nilVec (sz := sz) (e := e) hd
 have hv : a.tmps.getD i undef = .slice none 0 0 := by
  have := hs.fr i
  rw [hi] at this
  exact this.slnil_inv
 refine h B S _ a w ⟨hs1.defers, hs1.hn, hs1.hB, hs1.stable, fun k => ?_, fun k r hr => ?_, hs1.blk, hs1.row, hs1.inj, hs1.injq, hs1.injx, hs1.rm, hs1.vc, hs1.pn⟩
 ·show RepS _ _ _ _ (upd s.fr i (.vsl d 0 sz) k)
  by_cases e : i = k
  ·subst e
   rw [upd_same, hv]
   refine .vsl d 0 sz _ ⟨none, 0, rfl, Nat.le_refl _, fun h => absurd h (Nat.lt_irrefl _)⟩ fun n' sz' e' hq => ?_
   simp only [St.with, Hp.setq, upd_same] at hq
   cases hq
   exact ⟨Nat.le_refl _, fun _ => ⟨rfl, fun _ => rfl, fun c hc => by simp [upd_same] at hc⟩⟩
  ·rw [upd_ne _ _ e]; exact hs1.fr k
 ·have hr' : r ∈ (upd s.fr i (.vsl d 0 sz) k).ids := hr
  by_cases e : i = k
  ·subst e
   rw [upd_same] at hr'
   simp only [PV.ids, List.mem_singleton] at hr'
   subst hr'
   simp [Live, St.with, Hp.setq, upd_same]
  ·rw [upd_ne _ _ e] at hr'; exact hs1.ids k r hr'
end
attribute [go_sem] mkStX St.vms MemL.hpP MemL.hp
attribute [go_sem] vQ_pret_ret vQ_pret_normal vQ_eret_ret vQ_eret_normal vRet0
end Go.PL
namespace Go.PL
open Go.RowKit
set_option linter.unusedVariables false
section
variable {P : Program}
theorem map_ren {f g : Nat → Nat} {es : List PV} (h : ∀ p ∈ es, p.ids = []) : es.map (PV.ren f g) = es := by
 rw [← PV.renL_map]
 exact ren_cleanL es (List.eq_nil_iff_forall_not_mem.2 fun i hi => by obtain ⟨c, hc, hic⟩ := PV.mem_idsL.1 hi; rw [h c hc] at hic; cases hic)
theorem upd_eq {α : Type} {f : Nat → α} {d : Nat} {v : α} (h : f d = v) : upd f d v = f := by rw [← h, upd_self]
abbrev oneV (n sz : Nat) (e : TypeId) (es : List PV) : MemL := ⟨[], [(1000, .vec n sz e)], [(1000, es)]⟩
abbrev noV : MemL := ⟨[], [], []⟩
theorem oneV_ok {n sz : Nat} {e : TypeId} {es : List PV} (h : ∀ p ∈ es, p.ids = []) : (oneV n sz e es).Ok :=
 ⟨by simp, by simp, by simp, by simp, by simp, fun x hx c hc i hi => by simp only [List.mem_singleton] at hx; subst hx; rw [h c hc] at hi; cases hi⟩
theorem noV_ok : noV.Ok := ⟨by simp, by simp, by simp, by simp, by simp, by simp⟩
theorem oneV_v {n sz : Nat} {e : TypeId} {es : List PV} : (oneV n sz e es).hp.v 1000 = some es := by simp [MemL.hp, upds_cons, upds_nil, upd]
theorem lay_oneV {n sz : Nat} {e : TypeId} {es' : List PV} {m : Hp} {d : Nat} (hc : ∀ p ∈ es', p.ids = []) : layM (oneV n sz e es') (fun _ => d) id m = { m.setq d (.vec n sz e) with v := upd m.v d (some es') } := by
 unfold layM
 simp only [List.map_nil, upds_nil, List.map_cons, upds_cons, oneV_v, Option.map_some, map_ren hc]
 rfl
theorem vCall_vw {M : KH} {g : FuncId} {args args0 : List PV} {K : KR} {n sz : Nat} {e : TypeId} {es es' : List PV} {r : PV} (d : Nat) (h1 : Eff P g args0 (oneV n sz e es) r (oneV n sz e es')) (hr : r.ids = []) (hes : ∀ p ∈ es, p.ids = []) (hes' : ∀ p ∈ es', p.ids = [])
  (hq : M.m.q d = some (.vec n sz e)) (hv : M.m.v d = some es) (he : PV.giveL M.m args = args0.map (PV.ren (fun _ => d) id)) (h2 : K.k r { M.m with v := upd M.m.v d (some es') }) : @vCall P true M (some (g, args)) K := by
 refine vCall_eff (fun _ => d) id h1 ⟨by simp, fun x hx => ?_, fun x hx => ?_, by simp, fun x hx => ?_, by simp, fun x hx y hy _ => ?_⟩ he ?_
 ·simp only [List.mem_singleton] at hx; subst hx; exact hq
 ·simp only [List.mem_singleton] at hx; subst hx; simp only [map_ren hes]; exact hv
 ·exact .inl ⟨x, hx, rfl⟩
 ·simp only [List.mem_singleton] at hx hy; subst hx hy; rfl
 ·rw [ren_clean _ hr, lay_oneV hes']
  have : ({ M.m.setq d (.vec n sz e) with v := upd M.m.v d (some es') } : Hp) = { M.m with v := upd M.m.v d (some es') } := by simp only [Hp.setq, upd_eq hq]
  rw [this]; exact h2
theorem Eff.vw (vm : List Nat) {f : FuncId} {fn : Func} {c : Code} {args : List PV} {r : PV} {n k sz : Nat} {e : TypeId} {es es' : List PV} {rs : List ResultVar} (hf : P.funcs[f]? = some fn) (hname : fn.name ≠ "runtime.NumGoroutine") (hb : fn.body = some c) (hn : fn.ntmps = n) (hrs : fn.results = rs.toArray) (hl : args.length ≤ n)
  (hes : ∀ p ∈ es, p.ids = []) (hes' : ∀ p ∈ es', p.ids = []) (ha : ∀ p ∈ args, ∀ i ∈ p.ids, i = .r 1000) (hr : r.ids = [])
  (h : ∀ q, @vC P ⟨c⟩ ⟨eRetQ P rs r (oneV k sz e es) (oneV k sz e es') (fun _ => 0) (fun _ => q)⟩ (St.vms ⟨initFr 0 args, (oneV k sz e es).hpP (fun _ => 0) (fun _ => q), n⟩ vm)) : Eff P f args (oneV k sz e es) r (oneV k sz e es') :=
 Eff.of_v vm hf hname hb hn hrs hl (oneV_ok hes) (oneV_ok hes') (fun p hp i hi => by rw [ha p hp i hi]; exact ⟨_, List.mem_singleton.2 rfl, rfl⟩) (by rw [hr]; simp) (by simp) (fun x hx => ⟨x, hx, rfl, by simp only [List.mem_singleton] at hx; subst hx; exact ⟨rfl, rfl⟩⟩) fun ph pq => by
  have h1 : (oneV k sz e es).hpP ph pq = (oneV k sz e es).hpP (fun _ => 0) (fun _ => pq 1000) := rfl
  have h2 : ∀ s, ERet P rs r (oneV k sz e es) (oneV k sz e es') (fun _ => 0) (fun _ => pq 1000) s → ERet P rs r (oneV k sz e es) (oneV k sz e es') ph pq s := fun s h => ⟨h.r, h.h, h.q, h.v, by simp, fun x hx => by simp only [List.mem_singleton] at hx; subst hx; exact h.pq _ (List.mem_singleton.2 rfl)⟩
  have h3 : eRetQ P rs r (oneV k sz e es) (oneV k sz e es') ph pq = eRetQ P rs r (oneV k sz e es) (oneV k sz e es') (fun _ => 0) (fun _ => pq 1000) := by
   have h4 : ∀ s, ERet P rs r (oneV k sz e es) (oneV k sz e es') ph pq s = ERet P rs r (oneV k sz e es) (oneV k sz e es') (fun _ => 0) (fun _ => pq 1000) s := fun s => propext ⟨fun h => ⟨h.r, h.h, h.q, h.v, by simp, fun x hx => by simp only [List.mem_singleton] at hx; subst hx; exact h.pq _ (List.mem_singleton.2 rfl)⟩, h2 s⟩
   funext e s
   cases e <;> first | exact h4 s | rfl
  rw [h1, h3]
  exact h _
theorem eret_vw {s : St} {rs : List ResultVar} {r r0 : PV} {k sz : Nat} {e : TypeId} {es es' : List PV} {q : Option (Nat × Nat × Nat)} (hc : ∀ p ∈ es', p.ids = []) (hr : vRet0 P r0 s [] rs) (hp : Pub (oneV k sz e es').has s.m r0 r) (hq : s.m.q 1000 = some (.vec k sz e)) (hv : s.m.v 1000 = some es') (hpq : s.m.pq 1000 = q) :
  ERet P rs r (oneV k sz e es) (oneV k sz e es') (fun _ => 0) (fun _ => q) s :=
 ⟨⟨r0, hr, hp⟩, by simp, fun x hx => by simp only [List.mem_singleton] at hx; subst hx; exact hq, fun x hx => by
  simp only [List.mem_singleton] at hx; subst hx
  exact ⟨es', hv, rfl, fun i hi => .clean (hc _ (getD_mem hi))⟩, by simp, fun x hx => by simp only [List.mem_singleton] at hx; subst hx; exact hpq⟩
theorem getD_mapV {α : Type} [Inhabited α] {pv : α → PV} {l : List α} {k : Nat} (h : k < l.length) : (l.map pv).getD k .any = pv (l.getD k default) := by
 rw [getD_lt (by simpa using h), getD_lt h, List.getElem_map]
theorem set_mapV {α : Type} {pv : α → PV} {l : List α} {k : Nat} {x : α} : (l.map pv).set k (pv x) = (l.set k x).map pv := by rw [List.map_set]
theorem ids_mapV {α : Type} {pv : α → PV} (h : ∀ a, (pv a).ids = []) (l : List α) : ∀ p ∈ l.map pv, p.ids = [] := fun p hp => by
 obtain ⟨a, _, rfl⟩ := List.mem_map.1 hp; exact h a
theorem idsL_mapV {α : Type} {pv : α → PV} (h : ∀ a, (pv a).ids = []) (l : List α) : PV.idsL (l.map pv) = [] :=
 List.eq_nil_iff_forall_not_mem.2 fun i hi => by obtain ⟨c, hc, hic⟩ := PV.mem_idsL.1 hi; rw [ids_mapV h l c hc] at hic; cases hic
theorem wholeX_v {L : List (Nat × PV)} {n sz : Nat} {e : TypeId} {es : List PV} {q : Option (Nat × Nat × Nat)} (hL : ∀ x ∈ L, x.2.ids.all (refInM [] [(1000, .vec n sz e)]) = true) (he : PV.idsL es = []) : WholeX L [] [(1000, .vec n sz e)] [(1000, es)] [] [] [(1000, q)] :=
 ⟨⟨hL, by simp⟩, by simp [he], by simp, by simp, by simp, by simp⟩
theorem hasX_v {s : St} {n k sz : Nat} {e : TypeId} {L : List (Nat × PV)} {es : List PV} {q : Option (Nat × Nat × Nat)} (h0 : s.n = n) (hL : ∀ x ∈ L, s.fr x.1 = x.2) (hq : s.m.q 1000 = some (.vec k sz e)) (hv : s.m.v 1000 = some es) (hpq : s.m.pq 1000 = q) :
  HasX n L [] [(1000, .vec k sz e)] [] [] [(1000, es)] [] [] [(1000, q)] s :=
 ⟨⟨h0, hL, by simp, by simp [hq]⟩, by simp, by simp, by simp [hv], by simp, by simp, by simp [hpq]⟩
end
end Go.PL
namespace Go.PL.Srt
set_option linter.unusedVariables false
variable {α : Type}
structure Good (lt : α → α → Bool) : Prop where
 asym : ∀ a b, lt a b = true → lt b a = false
 trans : ∀ a b c, lt a b = true → lt b c = true → lt a c = true
def Inc (lt : α → α → Bool) (l : List α) : Prop := l.Pairwise fun a b => lt a b = true
def Unl (lt : α → α → Bool) (l : List α) : Prop := l.Pairwise fun a b => lt a b = true ∨ lt b a = true
def ins (lt : α → α → Bool) (x : α) : List α → List α
 | [] => [x]
 | y :: l => if lt x y then x :: y :: l else y :: ins lt x l
def srt (lt : α → α → Bool) : List α → List α
 | [] => []
 | x :: l => ins lt x (srt lt l)
variable {lt : α → α → Bool}
theorem ins_perm (x : α) : ∀ l : List α, (ins lt x l).Perm (x :: l)
 | [] => .refl _
 | y :: l => by
  unfold ins
  split
  ·exact .refl _
  ·exact ((ins_perm x l).cons y).trans (.swap x y l)
theorem srt_perm : ∀ l : List α, (srt lt l).Perm l
 | [] => .refl _
 | x :: l => (ins_perm x _).trans ((srt_perm l).cons x)
theorem srt_length (l : List α) : (srt lt l).length = l.length := (srt_perm l).length_eq
theorem srt_mem {l : List α} {x : α} : x ∈ srt lt l ↔ x ∈ l := (srt_perm l).mem_iff
theorem Unl.perm {l l' : List α} (h : Unl lt l) (p : l.Perm l') : Unl lt l' := (p.pairwise_iff (fun h => h.symm)).1 h
theorem ins_inc (g : Good lt) (x : α) : ∀ {l : List α}, Inc lt l → (∀ y ∈ l, lt x y = true ∨ lt y x = true) → Inc lt (ins lt x l)
 | [], _, _ => List.pairwise_singleton _ _
 | y :: l, h, hx => by
  unfold ins
  have hp := List.pairwise_cons.1 h
  split
  ·rename_i hxy
   refine List.pairwise_cons.2 ⟨fun z hz => ?_, h⟩
   rcases List.mem_cons.1 hz with rfl | hz
   ·exact hxy
   ·exact g.trans _ _ _ hxy (hp.1 z hz)
  ·rename_i hxy
   refine List.pairwise_cons.2 ⟨fun z hz => ?_, ins_inc g x hp.2 (fun z hz => hx z (by simp [hz]))⟩
   rcases List.mem_cons.1 ((ins_perm x l).mem_iff.1 hz) with rfl | hz
   ·exact (hx y (by simp)).resolve_left hxy
   ·exact hp.1 z hz
theorem srt_inc (g : Good lt) : ∀ {l : List α}, Unl lt l → Inc lt (srt lt l)
 | [], _ => List.Pairwise.nil
 | x :: l, h => by
  have hp := List.pairwise_cons.1 h
  exact ins_inc g x (srt_inc g hp.2) fun y hy => hp.1 y (srt_mem.1 hy)
theorem Inc.uniq (g : Good lt) : ∀ {l l' : List α}, Inc lt l → Inc lt l' → l.Perm l' → l = l'
 | [], l', _, _, p => (List.Perm.nil_eq p)
 | x :: l, [], _, _, p => by have := p.length_eq; simp at this
 | x :: l, y :: l', h, h', p => by
  have h1 := List.pairwise_cons.1 h
  have h2 := List.pairwise_cons.1 h'
  have e : x = y := by
   have hx : x ∈ y :: l' := p.mem_iff.1 (by simp)
   have hy : y ∈ x :: l := p.mem_iff.2 (by simp)
   rcases List.mem_cons.1 hx with e | hx
   ·exact e
   ·rcases List.mem_cons.1 hy with e | hy
    ·exact e.symm
    ·have a := h1.1 y hy
     have b := h2.1 x hx
     rw [g.asym _ _ a] at b; cases b
  subst e
  rw [Inc.uniq g h1.2 h2.2 p.cons_inv]
theorem srt_eq (g : Good lt) {l r : List α} (h : Inc lt r) (p : r.Perm l) : srt lt l = r :=
 (srt_inc g (l := l) (Unl.perm (h.imp fun h => .inl h) p)).uniq g h ((srt_perm l).trans p.symm)
theorem srt_of_inc (g : Good lt) {l : List α} (h : Inc lt l) : srt lt l = l := srt_eq g h (.refl _)
theorem srt_congr (g : Good lt) {l l' : List α} (h : Unl lt l) (p : l.Perm l') : srt lt l = srt lt l' := srt_eq g (srt_inc g (h.perm p)) ((srt_perm l').trans p.symm)
theorem Unl.append {l l' : List α} : Unl lt (l ++ l') ↔ Unl lt l ∧ Unl lt l' ∧ ∀ a ∈ l, ∀ b ∈ l', lt a b = true ∨ lt b a = true := List.pairwise_append
theorem Inc.append {l l' : List α} : Inc lt (l ++ l') ↔ Inc lt l ∧ Inc lt l' ∧ ∀ a ∈ l, ∀ b ∈ l', lt a b = true := List.pairwise_append
theorem Inc.take {l : List α} (h : Inc lt l) (k : Nat) : Inc lt (l.take k) := List.Pairwise.sublist (List.take_sublist _ _) h
theorem Inc.drop {l : List α} (h : Inc lt l) (k : Nat) : Inc lt (l.drop k) := List.Pairwise.sublist (List.drop_sublist _ _) h
theorem srt_append (g : Good lt) {l l' : List α} (h : Unl lt (l ++ l')) (hlt : ∀ a ∈ l, ∀ b ∈ l', lt a b = true) : srt lt (l ++ l') = srt lt l ++ srt lt l' := by
 obtain ⟨h1, h2, _⟩ := Unl.append.1 h
 exact srt_eq g (Inc.append.2 ⟨srt_inc g h1, srt_inc g h2, fun a ha b hb => hlt a (srt_mem.1 ha) b (srt_mem.1 hb)⟩) ((srt_perm l).append (srt_perm l'))
theorem Inc.lt_get (g : Good lt) {l : List α} (h : Inc lt l) {i j : Nat} (hi : i < j) (hj : j < l.length) : lt (l[i]'(by omega)) l[j] = true := List.pairwise_iff_getElem.1 h i j (by omega) hj hi
theorem split_ok (g : Good lt) {A B : List α} (hA : Inc lt A) (hB : Inc lt B) (hU : Unl lt (A ++ B)) (u v : Nat) (hu : u ≤ A.length) (hv : v ≤ B.length)
  (h1 : ∀ (h0 : 0 < u) (h1 : v < B.length), lt (A[u - 1]'(by omega)) B[v] = true) (h2 : ∀ (h0 : 0 < v) (h1 : u < A.length), lt (B[v - 1]'(by omega)) A[u] = true) :
  srt lt (A ++ B) = srt lt (A.take u ++ B.take v) ++ srt lt (A.drop u ++ B.drop v) := by
 have p : (A ++ B).Perm ((A.take u ++ B.take v) ++ (A.drop u ++ B.drop v)) := by
  have e : A ++ B = A.take u ++ (A.drop u ++ (B.take v ++ B.drop v)) := by simp [← List.append_assoc]
  rw [e, List.append_assoc]
  refine List.Perm.append_left _ ?_
  rw [← List.append_assoc, ← List.append_assoc]
  exact (List.perm_append_comm).append_right _
 rw [srt_congr g hU p]
 refine srt_append g (hU.perm p) fun a ha b hb => ?_
 rcases List.mem_append.1 ha with ha | ha <;> rcases List.mem_append.1 hb with hb | hb <;> obtain ⟨i, hi, rfl⟩ := List.getElem_of_mem ha <;> obtain ⟨j, hj, rfl⟩ := List.getElem_of_mem hb
 ·simp only [List.length_take, List.length_drop] at hi hj
  simp only [List.getElem_take, List.getElem_drop]
  exact hA.lt_get g (by omega) (by omega)
 ·simp only [List.length_take, List.length_drop] at hi hj
  simp only [List.getElem_take, List.getElem_drop]
  have e1 := h1 (by omega) (by omega)
  have e2 : lt A[i] B[v] = true := by
   by_cases h : i = u - 1
   ·subst h; exact e1
   ·exact g.trans _ _ _ (hA.lt_get g (by omega) (by omega)) e1
  by_cases h : j = 0
  ·subst h; exact e2
  ·exact g.trans _ _ _ e2 (hB.lt_get g (by omega) (by omega))
 ·simp only [List.length_take, List.length_drop] at hi hj
  simp only [List.getElem_take, List.getElem_drop]
  have e1 := h2 (by omega) (by omega)
  have e2 : lt B[i] A[u] = true := by
   by_cases h : i = v - 1
   ·subst h; exact e1
   ·exact g.trans _ _ _ (hB.lt_get g (by omega) (by omega)) e1
  by_cases h : j = 0
  ·subst h; exact e2
  ·exact g.trans _ _ _ e2 (hA.lt_get g (by omega) (by omega))
 ·simp only [List.length_take, List.length_drop] at hi hj
  simp only [List.getElem_take, List.getElem_drop]
  exact hB.lt_get g (by omega) (by omega)
theorem srt_put (g : Good lt) {P Q : List α} {x : α} (h : Inc lt (P ++ Q)) (h1 : ∀ p ∈ P, lt p x = true) (h2 : ∀ q ∈ Q, lt x q = true) {L : List α} (hp : (P ++ x :: Q).Perm L) : srt lt L = P ++ x :: Q := by
 obtain ⟨i1, i2, i3⟩ := Inc.append.1 h
 refine srt_eq g (Inc.append.2 ⟨i1, List.pairwise_cons.2 ⟨h2, i2⟩, fun a ha b hb => ?_⟩) hp
 rcases List.mem_cons.1 hb with rfl | hb
 ·exact h1 a ha
 ·exact i3 a ha b hb
theorem getD_setN {l : List α} {i j : Nat} {x d : α} (h : i ≠ j) : (l.set i x).getD j d = l.getD j d := by
 simp [List.getD_eq_getElem?_getD, List.getElem?_set_ne h]
def swap [Inhabited α] (l : List α) (i j : Nat) : List α := (l.set i (l.getD j default)).set j (l.getD i default)
theorem getD_at [Inhabited α] (X Y : List α) (a : α) {k : Nat} (h : k = X.length) : (X ++ a :: Y).getD k default = a := by subst h; simp
theorem set_at (X Y : List α) (a b : α) {k : Nat} (h : k = X.length) : (X ++ a :: Y).set k b = X ++ b :: Y := by subst h; simp
theorem swap_at [Inhabited α] (X M Y : List α) (a b : α) {i j : Nat} (hi : i = X.length) (hj : j = X.length + 1 + M.length) : swap (X ++ a :: (M ++ b :: Y)) i j = X ++ b :: (M ++ a :: Y) := by
 unfold swap
 rw [getD_at X _ a hi]
 have e : X ++ a :: (M ++ b :: Y) = (X ++ a :: M) ++ b :: Y := by simp
 have e1 : (X ++ a :: (M ++ b :: Y)).getD j default = b := by rw [e]; exact getD_at _ _ _ (by simp; omega)
 rw [e1, set_at X _ a b hi]
 have e2 : X ++ b :: (M ++ b :: Y) = (X ++ b :: M) ++ b :: Y := by simp
 rw [e2, set_at _ _ b a (by simp; omega)]
 simp
theorem swap_comm [Inhabited α] (l : List α) (i j : Nat) (hi : i < l.length) (hj : j < l.length) : swap l i j = swap l j i := by
 unfold swap
 by_cases h : i = j
 ·subst h; rfl
 ·rw [List.set_comm _ _ h]
end Go.PL.Srt
namespace Go.PL
open Go.RowKit
set_option linter.unusedVariables false
section
variable {P : Program} {B : Frm} {S : Stable} {M : Maps} {s s' s'' : St} {a : Act} {w : World} {Q : Exit → St → Prop}
def Gh (s s'' : St) : Prop := ∀ B S M a w, Sim B S M s a w → ∃ S' M', Sim B S' M' s'' a w ∧ Ext B S S' w w
theorem Gh.refl (s : St) : Gh s s := fun B S M a w hs => ⟨S, M, hs, Ext.refl _ _ _⟩
theorem Gh.trans (h : Gh s s') (h' : Gh s' s'') : Gh s s'' := fun B S M a w hs => by
 obtain ⟨S1, M1, h1, h2⟩ := h B S M a w hs
 obtain ⟨S2, M2, h3, h4⟩ := h' B S1 M1 a w h1
 exact ⟨S2, M2, h3, h2.trans h4⟩
theorem Gh.weak (hw : Weak s' s) (hr : Refs s') : Gh s s' := fun B S M a w hs => ⟨S, M, hs.weak hw hr, Ext.refl _ _ _⟩
theorem awp_gh {c : Code} (g : Gh s s'') (h : awp P c Q s'') : awp P c Q s := fun B S M a w hs => by
 obtain ⟨S', M', h1, h2⟩ := g B S M a w hs
 exact wp_mono (h B S' M' a w h1) fun e a' w' ⟨s', S2, M2, k1, k2, k3⟩ => ⟨s', S2, M2, k1, k2, h2.trans k3⟩
theorem awp_loop_gh {c : Code} {ι : Type} (I : ι → St) (μ : ι → Nat) (i0 : ι) (h0 : Gh s (I i0))
  (round : ∀ i, awp P c (thenQ (fun s' => ∃ j, μ j < μ i ∧ Gh s' (I j)) Q) (I i)) : awp P (.loop c) Q s := awp_gh h0 fun B S M a w hs => by
 have key : ∀ (k : Nat) (i : ι), μ i < k → ∀ S1 M1 a1 w1, Sim B S1 M1 (I i) a1 w1 → Ext B S S1 w w1 →
   Code.rounds P c (fun e a' w' => ∃ s' S' M', Q e s' ∧ Sim B S' M' s' a' w' ∧ Ext B S S' w w') k a1 w1 := by
  intro k
  induction k with
  | zero => intro i hi; omega
  | succ k ih =>
   intro i hi S1 M1 a1 w1 hs1 he1
   rw [rounds_succ]
   refine wp_mono (round i B S1 M1 a1 w1 hs1) fun e a' w' hq => ?_
   obtain ⟨s', S', M', h1, h2, h3⟩ := hq
   cases e with
   | normal =>
    obtain ⟨j, hj, hg⟩ := h1
    obtain ⟨S2, M2, k1, k2⟩ := hg B S' M' a' w' h2
    exact ih j (by omega) S2 M2 a' w' k1 ((he1.trans h3).trans k2)
   | _ => exact ⟨s', S', M', h1, h2, he1.trans h3⟩
 exact wp_loop_rounds (μ i0 + 1) (key _ i0 (Nat.lt_succ_self _) S M a w hs (Ext.refl _ _ _))
def NextG {ι : Type} (I : ι → St) (μ : ι → Nat) (i : ι) (s' : St) : Prop := ∃ j, μ j < μ i ∧ Gh s' (I j)
theorem Gh.oToOm {b : Nat} {c : MapC} (hb : s.m.o b = some c) : Gh s (s.with { s.m with o := upd s.m.o b none, om := upd s.m.om b (some c) }) := fun B S M a w hs => ⟨S, M, hs.oToOm hb, Ext.refl _ _ _⟩
theorem Gh.omToO {b : Nat} {c : MapC} (hb : s.m.om b = some c) (hc : ∀ p ∈ c.vs, p.clean = true) : Gh s (s.with { s.m with o := upd s.m.o b (some ⟨c.ks, c.vs.map PV.share⟩), om := upd s.m.om b none }) := fun B S M a w hs => ⟨S, M, hs.omToO hb hc, Ext.refl _ _ _⟩
theorem Gh.moveRow {b j k d n sz : Nat} {e : TypeId} {c : MapC} {es : List PV} (hb : s.m.om b = some c) (hk : s.m.q k = some (.live n sz e)) (hd : s.m.q d = none) (hj : j < c.vs.length) (hv : c.vs.getD j .any = .sl (.row k) es) :
  Gh s (s.with { (s.m.setq k .dead).setq d (.live n sz e) with om := upd s.m.om b (some ⟨c.ks, c.vs.set j (.sl (.row d) es)⟩) }) := fun B S M a w hs => by
 have h1 := hs.moveRow hk hd
 obtain ⟨o1, o2, o3, ⟨es', e1, e2, e3, e4, e5, e6⟩, lv⟩ := hs.rm b c hb
 have h6 := e6 j (by omega)
 rw [hv] at h6
 obtain ⟨p1, p2, p3, ⟨es2, f1, f2, f3, f4, f5, f6⟩, lv2⟩ := h1.rm b c hb
 have hes : es2 = es' := by rw [e1] at f1; cases f1; rfl
 subst hes
 have hlive : ∀ i, Live s.m i → Live ((s.m.setq k .dead).setq d (.live n sz e)) i := fun i h => by
  cases i with
  | b i => exact h
  | r i =>
   show upd (upd s.m.q k _) d _ i ≠ none
   by_cases e1 : d = i
   ·subst e1; rw [upd_same]; simp
   ·rw [upd_ne _ _ e1]
    by_cases e2 : k = i
    ·subst e2; rw [upd_same]; simp
    ·rw [upd_ne _ _ e2]; exact h
 have h2 := h1.reOm (om' := upd s.m.om b (some ⟨c.ks, c.vs.set j (.sl (.row d) es)⟩)) (fun b2 c2 hc2 => by
  by_cases eb : b = b2
  ·subst eb
   rw [upd_same] at hc2
   cases hc2
   refine ⟨o1, o2, o3, ⟨es2, e1, e2, by simpa using e3, e4, e5, fun i hi => ?_⟩, fun p hp i hi => ?_⟩
   ·have hi : i < c.ks.length := hi
    by_cases ej : j = i
    ·subst ej
     rw [getD_lt (l := c.vs.set j (PV.sl (.row d) es)) (by rw [List.length_set]; omega), List.getElem_set_self]
     have hx : ∀ v : Value, RepS S M s.m.q v (.sl (.row k) es) → RepS S { M with ψ := upd M.ψ d (M.ψ k), κ := upd M.κ d (M.κ k) } ((s.m.setq k .dead).setq d (.live n sz e)).q v (.sl (.row d) es) := fun v hr => by
      have hc : Rep S v (.sl .no es) := hr.share (by simp [PV.clean])
      refine .row d v es hc fun n' sz' e' hq => ?_
      have hq' : upd (upd s.m.q k (some .dead)) d (some (.live n sz e)) d = some (.live n' sz' e') := hq
      rw [upd_same] at hq'
      cases hq'
      simp only [upd_same]
      cases hr with
      | clean r => cases r
      | row _ _ _ _ t => exact t n sz e hk
     exact hx _ h6
    ·have := f6 i hi
     rw [getD_lt (l := c.vs.set j (PV.sl (.row d) es)) (by rw [List.length_set]; omega), List.getElem_set_ne ej]
     rwa [getD_lt (l := c.vs) (by omega)] at this
   ·rcases List.mem_or_eq_of_mem_set hp with hp | rfl
    ·exact hlive i (lv p hp i hi)
    ·simp only [PV.ids, List.mem_singleton] at hi
     subst hi
     show upd (upd s.m.q k _) d _ d ≠ none
     rw [upd_same]; simp
  ·rw [upd_ne _ _ eb] at hc2
   exact h1.rm b2 c2 hc2)
 exact ⟨S, _, h2, Ext.refl _ _ _⟩
end
attribute [go_sem] NextG
end Go.PL
namespace Go.PL
open Go.RowKit
set_option linter.unusedVariables false
section
variable {P : Program}
abbrev vecN (i n sz : Nat) (e : TypeId) (es : List PV) : MemL := ⟨[], [(i, .vec n sz e)], [(i, es)]⟩
theorem vecN_ok {i n sz : Nat} {e : TypeId} {es : List PV} (h : ∀ p ∈ es, p.ids = []) : (vecN i n sz e es).Ok :=
 ⟨by simp, by simp, by simp, by simp, by simp, fun x hx c hc i hi => by simp only [List.mem_singleton] at hx; subst hx; rw [h c hc] at hi; cases hi⟩
theorem vecN_v {i n sz : Nat} {e : TypeId} {es : List PV} : (vecN i n sz e es).hp.v i = some es := by simp [MemL.hp, upds_cons, upds_nil, upd]
theorem lay_vecN {i n sz : Nat} {e : TypeId} {es' : List PV} {m : Hp} {d : Nat} (hc : ∀ p ∈ es', p.ids = []) : layM (vecN i n sz e es') (fun _ => d) id m = { m.setq d (.vec n sz e) with v := upd m.v d (some es') } := by
 unfold layM
 simp only [List.map_nil, upds_nil, List.map_cons, upds_cons, vecN_v, Option.map_some, map_ren hc]
 rfl
theorem vCall_vn {M : KH} {g : FuncId} {args args0 : List PV} {K : KR} {i n sz : Nat} {e : TypeId} {es : List PV} {r : PV} (d : Nat) (h1 : Eff P g args0 noV r (vecN i n sz e es)) (hes : ∀ p ∈ es, p.ids = []) (ha : ∀ p ∈ args0, p.ids = [])
  (hd : M.m.q d = none) (he : PV.giveL M.m args = args0) (h2 : K.k (r.ren (fun _ => d) id) { M.m.setq d (.vec n sz e) with v := upd M.m.v d (some es) }) : @vCall P true M (some (g, args)) K := by
 refine vCall_eff (fun _ => d) id h1 ⟨by simp, by simp, by simp, by simp, fun x hx => ?_, by simp, fun x hx y hy _ => ?_⟩ (by rw [map_ren ha]; exact he) ?_
 ·simp only [List.mem_singleton] at hx; subst hx; exact .inr hd
 ·simp only [List.mem_singleton] at hx hy; subst hx hy; rfl
 ·rw [lay_vecN hes]; exact h2
theorem Eff.vn (vm : List Nat) {f : FuncId} {fn : Func} {c : Code} {args : List PV} {r : PV} {i n k sz : Nat} {e : TypeId} {es' : List PV} {rs : List ResultVar} (hf : P.funcs[f]? = some fn) (hname : fn.name ≠ "runtime.NumGoroutine") (hb : fn.body = some c) (hn : fn.ntmps = n) (hrs : fn.results = rs.toArray) (hl : args.length ≤ n)
  (hes' : ∀ p ∈ es', p.ids = []) (ha : ∀ p ∈ args, p.ids = []) (hr : ∀ j ∈ r.ids, j = .r i)
  (h : @vC P ⟨c⟩ ⟨eRetQ P rs r noV (vecN i k sz e es') (fun _ => 0) (fun _ => none)⟩ ((St.init args n).vms vm)) : Eff P f args noV r (vecN i k sz e es') :=
 Eff.of_v vm hf hname hb hn hrs hl noV_ok (vecN_ok hes') (fun p hp i hi => by rw [ha p hp] at hi; cases hi) (fun j hj => by rw [hr j hj]; exact ⟨_, List.mem_singleton.2 rfl, rfl⟩) (by simp) (by simp) fun ph pq => by
  have h3 : eRetQ P rs r noV (vecN i k sz e es') ph pq = eRetQ P rs r noV (vecN i k sz e es') (fun _ => 0) (fun _ => none) := by
   have h4 : ∀ s, ERet P rs r noV (vecN i k sz e es') ph pq s = ERet P rs r noV (vecN i k sz e es') (fun _ => 0) (fun _ => none) s := fun s => propext ⟨fun h => ⟨h.r, h.h, h.q, h.v, by simp, by simp⟩, fun h => ⟨h.r, h.h, h.q, h.v, by simp, by simp⟩⟩
   funext e s
   cases e <;> first | exact h4 s | rfl
  rw [h3]
  exact h
theorem eret_vn {s : St} {rs : List ResultVar} {r r0 : PV} {i k sz : Nat} {e : TypeId} {es' : List PV} (hc : ∀ p ∈ es', p.ids = []) (hr : vRet0 P r0 s [] rs) (hp : Pub (vecN i k sz e es').has s.m r0 r) (hq : s.m.q i = some (.vec k sz e)) (hv : s.m.v i = some es') :
  ERet P rs r noV (vecN i k sz e es') (fun _ => 0) (fun _ => none) s :=
 ⟨⟨r0, hr, hp⟩, by simp, fun x hx => by simp only [List.mem_singleton] at hx; subst hx; exact hq, fun x hx => by
  simp only [List.mem_singleton] at hx; subst hx
  exact ⟨es', hv, rfl, fun i hi => .clean (hc _ (getD_mem hi))⟩, by simp, by simp⟩
theorem hasX_r {s : St} {n r b : Nat} {L : List (Nat × PV)} {row : Row} {c : MapC} (h0 : s.n = n) (hL : ∀ x ∈ L, s.fr x.1 = x.2) (hq : s.m.q r = some row) (ho : s.m.o b = some c) : HasX n L [] [(r, row)] [(b, c)] [] [] [] [] [] s :=
 ⟨⟨h0, hL, by simp, by simp [hq]⟩, by simp [ho], by simp, by simp, by simp, by simp, by simp⟩
theorem wholeX_r {L : List (Nat × PV)} {r : Nat} {row : Row} (hL : ∀ x ∈ L, x.2.ids.all (refInM [] [(r, row)]) = true) : WholeX L [] [(r, row)] [] [] [] [] :=
 ⟨⟨hL, by simp⟩, by simp, by simp, by simp, by simp, by simp⟩
theorem hasX_vro {s : St} {n d r b k sz : Nat} {e : TypeId} {L : List (Nat × PV)} {row : Row} {es : List PV} {c : MapC} (h0 : s.n = n) (hL : ∀ x ∈ L, s.fr x.1 = x.2) (hq : s.m.q d = some (.vec k sz e)) (hr : s.m.q r = some row) (hv : s.m.v d = some es) (ho : s.m.o b = some c) : HasX n L [] [(d, .vec k sz e), (r, row)] [(b, c)] [] [(d, es)] [] [] [] s :=
 ⟨⟨h0, hL, by simp, by simp [hq, hr]⟩, by simp [ho], by simp, by simp [hv], by simp, by simp, by simp⟩
theorem wholeX_vr {L : List (Nat × PV)} {d r n sz : Nat} {e : TypeId} {row : Row} {es : List PV} (hL : ∀ x ∈ L, x.2.ids.all (refInM [] [(d, .vec n sz e), (r, row)]) = true) (he : PV.idsL es = []) : WholeX L [] [(d, .vec n sz e), (r, row)] [(d, es)] [] [] [] :=
 ⟨⟨hL, by simp⟩, by simp [he], by simp, by simp, by simp, by simp⟩
theorem hasX_v1 {s : St} {n d k sz : Nat} {e : TypeId} {L : List (Nat × PV)} {es : List PV} (h0 : s.n = n) (hL : ∀ x ∈ L, s.fr x.1 = x.2) (hq : s.m.q d = some (.vec k sz e)) (hv : s.m.v d = some es) : HasX n L [] [(d, .vec k sz e)] [] [] [(d, es)] [] [] [] s :=
 ⟨⟨h0, hL, by simp, by simp [hq]⟩, by simp, by simp, by simp [hv], by simp, by simp, by simp⟩
theorem wholeX_v1 {L : List (Nat × PV)} {d n sz : Nat} {e : TypeId} {es : List PV} (hL : ∀ x ∈ L, x.2.ids.all (refInM [] [(d, .vec n sz e)]) = true) (he : PV.idsL es = []) : WholeX L [] [(d, .vec n sz e)] [(d, es)] [] [] [] :=
 ⟨⟨hL, by simp⟩, by simp [he], by simp, by simp, by simp, by simp⟩
end
end Go.PL
namespace Go.PL
open Go.RowKit
set_option linter.unusedVariables false
section
variable {P : Program} {B : Frm} {S : Stable} {M : Maps} {s s' s'' : St} {a : Act} {w : World} {Q : Exit → St → Prop}
theorem Sim.tellBlk (hs : Sim B S M s a w) {i : Nat} {cs cs' : List PV} (hi : s.m.h i = some cs) (hz : s.m.z i = false) (hl : cs'.length = cs.length)
  (hr : ∀ j v, j < cs.length → RepS S M s.m.q v (cs.getD j .any) → RepS S M s.m.q v (cs'.getD j .any)) (hc : ∀ c ∈ cs', ∀ k ∈ c.ids, Live s.m k) : Sim B S M (s.with { s.m with h := upd s.m.h i (some cs') }) a w := by
 have hne : ∀ k, (upd s.m.h i (some cs') k = none) ↔ s.m.h k = none := fun k => by
  by_cases e : i = k
  ·subst e; rw [upd_same, hi]; simp
  ·rw [upd_ne _ _ e]
 have live : ∀ k, Live s.m k → Live { s.m with h := upd s.m.h i (some cs') } k := fun k h => by
  cases k with
  | b k => exact fun e => h ((hne k).1 e)
  | r k => exact h
 have old : ∀ k cs2, upd s.m.h i (some cs') k = some cs2 → ∃ cs3, s.m.h k = some cs3 := fun k cs2 h => by
  cases e : s.m.h k with
  | none => rw [(hne k).2 e] at h; cases h
  | some x => exact ⟨x, rfl⟩
 refine ⟨hs.defers, hs.hn, hs.hB, hs.stable, hs.fr, fun j k hk => live k (hs.ids j k hk), fun id cs2 hb => ?_, hs.row, fun id id' c1 c2 h1 h2 => ?_, hs.injq, fun id id' c1 r h1 => ?_, fun b c hc => ?_, fun id es he => ?_, ⟨fun id b hb => ?_, hs.pn.q⟩⟩
 ·have hb : upd s.m.h i (some cs') id = some cs2 := hb
  show BlkOk _ _ _ _ _ _ _ (s.m.z id)
  by_cases e : i = id
  ·subst e
   rw [upd_same] at hb
   cases hb
   have hb' := hs.blk i cs hi
   rw [hz] at hb' ⊢
   obtain ⟨g1, g2, ⟨us, t, g3, g4, g5⟩, g6⟩ := hb'
   exact ⟨g1, g2, ⟨us, t, g3, by rw [g4, hl], fun j hj => hr j _ (by omega) (g5 j (by omega))⟩, fun c hc' k hk => live k (hc c hc' k hk)⟩
  ·rw [upd_ne _ _ e] at hb
   have hb' := hs.blk id cs2 hb
   cases hz' : s.m.z id with
   | false =>
    rw [hz'] at hb'
    obtain ⟨g1, g2, g3, g6⟩ := hb'
    exact ⟨g1, g2, g3, fun c hc k hk => live k (g6 c hc k hk)⟩
   | true => rw [hz'] at hb'; exact hb'
 ·obtain ⟨c3, e3⟩ := old _ _ h1
  obtain ⟨c4, e4⟩ := old _ _ h2
  exact hs.inj _ _ _ _ e3 e4
 ·obtain ⟨c3, e3⟩ := old _ _ h1
  exact hs.injx _ _ _ _ e3
 ·obtain ⟨g1, g2, g3, g4⟩ := hs.rm b c hc
  exact ⟨g1, g2, g3, g4.move (SLe.refl _) rfl (fun v p r _ => r) live⟩
 ·exact (hs.vc id es he).move (fun _ _ _ h => h) rfl rfl (fun _ => rfl) (fun v p r _ => r) live
 ·obtain ⟨g1, g2⟩ := hs.pn.h id b hb
  exact ⟨fun e => g1 ((hne id).1 e), g2⟩
theorem Gh.pubMap {b i : Nat} {c : MapC} (hb : s.m.o b = some c) (hi : s.m.h i = some [.mref b]) (hz : s.m.z i = false) : Gh s (s.with { s.m with o := upd s.m.o b none, h := upd s.m.h i (some [.rmap c.ks c.vs]) }) := fun B S M a w hs => by
 obtain ⟨o1, o2, es, e1, e2, e3, e4, e5, e6⟩ := hs.stable.o b c hb
 have hnc : ∀ vs t f, w.heap[b]? ≠ some (.cells vs t f) := fun vs t f h => by rw [e1] at h; cases h
 let S' : Stable := ⟨S.c, upd S.m b (some es)⟩
 have hle : SLe S S' := ⟨fun _ _ _ h => h, fun k es' h => by
  show upd S.m b (some es) k = some es'
  by_cases e : b = k
  ·subst e; rw [o2] at h; cases h
  ·rw [upd_ne _ _ e]; exact h⟩
 have hst : StabS S' w := ⟨hs.stable.s.c, fun k es' h => by
  have h : upd S.m b (some es) k = some es' := h
  by_cases e : b = k
  ·subst e; rw [upd_same] at h; cases h; exact e1
  ·rw [upd_ne _ _ e] at h; exact hs.stable.s.m k es' h⟩
 have h1 := hs.growX (b := b) hnc (S' := S') (w' := w) hle (fun _ _ _ _ => rfl) (fun _ _ _ => rfl) (Nat.le_refl _) (o' := upd s.m.o b none) (it' := s.m.it) ⟨hst, fun k d hk => by
   by_cases e : b = k
   ·subst e; rw [upd_same] at hk; cases hk
   ·rw [upd_ne _ _ e] at hk
    obtain ⟨q1, q2, q3⟩ := hs.stable.o k d hk
    exact ⟨q1, by show upd S.m b (some es) k = none; rw [upd_ne _ _ e]; exact q2, q3.move hle rfl⟩, fun k x hx => by
   obtain ⟨q1, q2, q3⟩ := hs.stable.i k x hx
   exact ⟨q1, q2, q3.mono hle⟩⟩ (fun k d hk => by
   obtain ⟨q1, q2, q3, q4⟩ := hs.rm k d hk
   have hne : b ≠ k := fun e => by subst e; rw [hb] at q3; cases q3
   exact ⟨Ne.symm hne, by rw [upd_ne _ _ hne]; exact q3, by show upd S.m b (some es) k = none; rw [upd_ne _ _ hne]; exact q2⟩)
 have h2 := h1.tellBlk (i := i) (cs := [.mref b]) (cs' := [.rmap c.ks c.vs]) hi hz rfl (fun j v hj hr => by
   have : j = 0 := by simp at hj; exact hj
   subst this
   simp only [List.getD_cons_zero] at hr ⊢
   have hv : v = .map (some b) := by cases hr with | clean r => cases r; rfl
   subst hv
   exact .clean (.rmap b es c.ks c.vs (by show upd S.m b (some es) b = _; rw [upd_same]) e2 e3 e4 (fun i hi => (e5 i hi).mono hle) (fun i hi => (e6 i hi).mono hle))) (by simp [PV.ids])
 exact ⟨S', M, h2, hle, fun k hk => ⟨fun _ => rfl, by show upd S.m b (some es) k = S.m k; rw [upd_ne _ _ (fun e => by subst e; exact o1 hk)]⟩, BelowF.refl _ _⟩
def vst (n : Nat) (L : List (Nat × PV)) (H : List (Nat × List PV)) (q : Rows) (om : Nat → Option MapC) : St :=
 { fr := upds L fun _ => .any, m := { h := upds (H.map fun x => (x.1, some x.2)) fun _ => none, z := fun _ => false, q := q, o := fun _ => none, it := fun _ => none, om := om, v := fun _ => none, ph := fun _ => none, pq := fun _ => none, vm := fun _ => false }, n := n }
theorem upds_pick {α : Type} (L : List (Nat × α)) (f g : Nat → α) (h : ∀ x ∈ L, g x.1 = x.2) (i : Nat) : upds L f i = f i ∨ upds L f i = g i := by
 by_cases hi : (L.map (·.1)).contains i = true
 ·exact .inr (upds_all (R := fun i v => v = g i) (fun x hx => (h x hx).symm) hi)
 ·exact .inl (upds_ne (by simpa using hi))
theorem weak_vst {n : Nat} {L : List (Nat × PV)} {H : List (Nat × List PV)} {q : Rows} {om : Nat → Option MapC} (h0 : s.n = n) (hL : ∀ x ∈ L, s.fr x.1 = x.2) (hH : ∀ x ∈ H, s.m.h x.1 = some x.2 ∧ s.m.z x.1 = false) (hq : ∀ i, q i = none ∨ q i = s.m.q i) (hom : ∀ i, om i = none ∨ om i = s.m.om i) : Weak (vst n L H q om) s := by
 refine ⟨h0.symm, fun i => upds_pick L _ s.fr hL i, fun i => ?_, hq, fun _ => .inl rfl, fun _ => .inl rfl, hom, fun _ => .inl rfl, fun _ => .inl rfl, fun _ => .inl rfl⟩
 by_cases hi : (H.map (·.1)).contains i = true
 ·right
  have hk : ((H.map fun x => (x.1, some x.2)).map (·.1)).contains i = true := by simpa using hi
  refine ⟨upds_all (R := fun i v => v = s.m.h i) (fun x hx => ?_) hk, ?_⟩
  ·obtain ⟨y, hy, rfl⟩ := List.mem_map.1 hx; exact (hH y hy).1.symm
  ·simp only [List.contains_iff_mem, List.mem_map] at hi
   obtain ⟨y, hy, rfl⟩ := hi
   exact (hH y hy).2.symm
 ·left
  exact upds_ne (by simpa using hi)
def inHq (H : List (Nat × List PV)) (q : Rows) : Ref → Prop
 | .b i => ∃ x ∈ H, x.1 = i
 | .r i => q i ≠ none
theorem refs_vst {n : Nat} {L : List (Nat × PV)} {H : List (Nat × List PV)} {q : Rows} {om : Nat → Option MapC} (hL : ∀ x ∈ L, ∀ r ∈ x.2.ids, inHq H q r) (hH : ∀ x ∈ H, ∀ c ∈ x.2, ∀ r ∈ c.ids, inHq H q r) (hom : ∀ b c, om b = some c → ∀ p ∈ c.vs, ∀ r ∈ p.ids, inHq H q r) : Refs (vst n L H q om) := by
 have live : ∀ r, inHq H q r → Live (vst n L H q om).m r := fun r hr => by
  cases r with
  | b i =>
   obtain ⟨x, hx, rfl⟩ := hr
   show upds (H.map fun x => (x.1, some x.2)) (fun _ => none) x.1 ≠ none
   refine upds_all (R := fun i v => v ≠ none) (fun y hy => ?_) ?_
   ·obtain ⟨z, hz, rfl⟩ := List.mem_map.1 hy; simp
   ·simp only [List.map_map, List.contains_iff_mem, List.mem_map]; exact ⟨x, hx, rfl⟩
  | r i => exact hr
 refine ⟨fun i r hr => ?_, fun i cs hi c hc r hr => ?_, fun i es he => (by cases he), fun b c hb p hp r hr => live r (hom b c hb p hp r hr)⟩
 ·have hr : r ∈ (upds L (fun _ => PV.any) i).ids := hr
  by_cases hi : (L.map (·.1)).contains i = true
  ·exact live r (upds_all (R := fun i v => ∀ r ∈ v.ids, inHq H q r) (fun x hx => hL x hx) hi r hr)
  ·rw [upds_ne (by simpa using hi)] at hr; simp [PV.ids] at hr
 ·have hm := (upds_some (L := H) hi).resolve_right (by simp)
  exact live r (hH _ hm c hc r hr)
theorem gh_vst {n : Nat} {L : List (Nat × PV)} {H : List (Nat × List PV)} {q : Rows} {om : Nat → Option MapC} (h0 : s.n = n) (hL : ∀ x ∈ L, s.fr x.1 = x.2) (hH : ∀ x ∈ H, s.m.h x.1 = some x.2 ∧ s.m.z x.1 = false) (hq : ∀ i, q i = none ∨ q i = s.m.q i) (hom : ∀ i, om i = none ∨ om i = s.m.om i)
  (rL : ∀ x ∈ L, ∀ r ∈ x.2.ids, inHq H q r) (rH : ∀ x ∈ H, ∀ c ∈ x.2, ∀ r ∈ c.ids, inHq H q r) (rom : ∀ b c, om b = some c → ∀ p ∈ c.vs, ∀ r ∈ p.ids, inHq H q r) : Gh s (vst n L H q om) :=
 .weak (weak_vst h0 hL hH hq hom) (refs_vst rL rH rom)
def omOne (b : Nat) (c : MapC) : Nat → Option MapC := upd (fun _ => none) b (some c)
theorem omOne_of {b b' : Nat} {c d : MapC} (h : omOne b c b' = some d) : b = b' ∧ d = c := by
 unfold omOne at h
 by_cases e : b = b'
 ·subst e; rw [upd_same] at h; cases h; exact ⟨rfl, rfl⟩
 ·rw [upd_ne _ _ e] at h; cases h
theorem gh_rename {n b j kk d sz k : Nat} {e : TypeId} {c : MapC} {es : List PV} {L : List (Nat × PV)} {H : List (Nat × List PV)} {q : Rows} (h0 : s.n = n) (hL : ∀ x ∈ L, s.fr x.1 = x.2) (hH : ∀ x ∈ H, s.m.h x.1 = some x.2 ∧ s.m.z x.1 = false)
  (hb : s.m.om b = some c) (hj : j < c.vs.length) (hv : c.vs.getD j .any = .sl (.row kk) es) (hk : s.m.q kk = some (.live k sz e)) (hkd : kk ≠ d) (hqd : q d = some (.live k sz e)) (hqk : q kk = none) (hq : ∀ i, i ≠ d → i ≠ kk → q i = none ∨ q i = s.m.q i)
  (rL : ∀ x ∈ L, ∀ r ∈ x.2.ids, inHq H q r ∧ r ≠ .r d) (rH : ∀ x ∈ H, ∀ c ∈ x.2, ∀ r ∈ c.ids, inHq H q r ∧ r ≠ .r d) (rom : ∀ i, i < c.vs.length → i ≠ j → ∀ r ∈ (c.vs.getD i .any).ids, inHq H q r ∧ r ≠ .r d) :
  Gh s (vst n L H q (omOne b ⟨c.ks, c.vs.set j (.sl (.row d) es)⟩)) := by
 let q1 : Rows := fun i => if i = d then none else if i = kk then some (.live k sz e) else q i
 have in1 : ∀ r, inHq H q r → r ≠ .r d → inHq H q1 r := fun r hr hne => by
  cases r with
  | b i => exact hr
  | r i =>
   show q1 i ≠ none
   have hid : i ≠ d := fun e => hne (by rw [e])
   simp only [q1, if_neg hid]
   split
   ·simp
   ·exact hr
 have g1 : Gh s (vst n L H q1 (omOne b c)) := gh_vst h0 hL hH (fun i => by
   by_cases e1 : i = d
   ·left; simp [q1, e1]
   ·by_cases e2 : i = kk
    ·right; subst e2; simp only [q1, if_neg e1, if_true]; exact hk.symm
    ·simp only [q1, if_neg e1, if_neg e2]; exact hq i e1 e2) (fun i => by
   unfold omOne
   by_cases e : b = i
   ·right; subst e; rw [upd_same]; exact hb.symm
   ·left; exact upd_ne _ _ e) (fun x hx r hr => in1 r (rL x hx r hr).1 (rL x hx r hr).2) (fun x hx c hc r hr => in1 r (rH x hx c hc r hr).1 (rH x hx c hc r hr).2) (fun b' c' hbc p hp r hr => by
   obtain ⟨rfl, rfl⟩ := omOne_of hbc
   obtain ⟨i, hi, rfl⟩ := List.getElem_of_mem hp
   by_cases e : i = j
   ·subst e
    rw [getD_lt hi] at hv
    rw [hv] at hr
    simp only [PV.ids, List.mem_singleton] at hr
    subst hr
    show q1 kk ≠ none
    simp [q1, hkd]
   ·have := rom i hi e r (by rw [getD_lt hi]; exact hr)
    exact in1 r this.1 this.2)
 have g2 := Gh.moveRow (s := vst n L H q1 (omOne b c)) (b := b) (j := j) (k := kk) (d := d) (n := k) (sz := sz) (e := e) (c := c) (es := es) (by show omOne b c b = _; unfold omOne; rw [upd_same]) (by show q1 kk = _; simp [q1, hkd]) (by show q1 d = _; simp [q1]) hj hv
 refine (g1.trans g2).trans (gh_vst rfl (fun x hx => ?_) (fun x hx => ?_) (fun i => ?_) (fun i => ?_) (fun x hx r hr => (rL x hx r hr).1) (fun x hx c hc r hr => (rH x hx c hc r hr).1) (fun b' c' hbc p hp r hr => ?_))
 ·have hc : (L.map (·.1)).contains x.1 = true := by simp only [List.contains_iff_mem, List.mem_map]; exact ⟨x, hx, rfl⟩
  have := upds_all (f := fun _ => PV.any) (R := fun i v => v = s.fr i) (fun y hy => (hL y hy).symm) hc
  show upds L (fun _ => PV.any) x.1 = x.2
  rw [this, hL x hx]
 ·refine ⟨?_, rfl⟩
  have hc : ((H.map fun x => (x.1, some x.2)).map (·.1)).contains x.1 = true := by simp only [List.map_map, List.contains_iff_mem, List.mem_map]; exact ⟨x, hx, rfl⟩
  have := upds_all (f := fun _ => none) (R := fun i v => v = s.m.h i) (fun y hy => by obtain ⟨z, hz, rfl⟩ := List.mem_map.1 hy; exact (hH z hz).1.symm) hc
  show upds (H.map fun x => (x.1, some x.2)) (fun _ => none) x.1 = some x.2
  rw [this, (hH x hx).1]
 ·by_cases e2 : kk = i
  ·left; rw [← e2]; exact hqk
  ·right
   show q i = upd (upd q1 kk (some .dead)) d (some (.live k sz e)) i
   by_cases e1 : d = i
   ·subst e1; rw [upd_same]; exact hqd
   ·rw [upd_ne _ _ e1, upd_ne _ _ e2]
    simp only [q1, if_neg (Ne.symm e1), if_neg (Ne.symm e2)]
 ·right
  show omOne b _ i = upd (omOne b c) b _ i
  unfold omOne
  by_cases e : b = i
  ·subst e; rw [upd_same, upd_same]
  ·rw [upd_ne _ _ e, upd_ne _ _ e, upd_ne _ _ e]
 ·obtain ⟨rfl, rfl⟩ := omOne_of hbc
  obtain ⟨i, hi, rfl⟩ := List.getElem_of_mem hp
  simp only [List.length_set] at hi
  simp only [List.getElem_set] at hr
  by_cases e : j = i
  ·rw [if_pos e] at hr
   simp only [PV.ids, List.mem_singleton] at hr
   subst hr
   show q d ≠ none
   rw [hqd]; simp
  ·rw [if_neg e] at hr
   exact (rom i hi (Ne.symm e) r (by rw [getD_lt hi]; exact hr)).1
theorem vLoopG2 {c : Code} {ι : Type} (I : ι → St) (μ : ι → Nat) (i0 : ι) (h0 : Gh s (I i0)) (round : ∀ i, ∃ s2, Gh (I i) s2 ∧ @vC P ⟨c⟩ ⟨thenQ (NextG I μ i) Q⟩ s2) : awp P (.loop c) Q s :=
 awp_loop_gh I μ i0 h0 fun i => by
  obtain ⟨s2, g, h⟩ := round i
  exact awp_gh g (vc_sound _ _ _ h)
theorem omOne_same (b : Nat) (c : MapC) : omOne b c b = some c := upd_same _ _ _
end
end Go.PL
