/- A logic of values for functions that only read and build, over the model (part 9): no statement of the seat is proved here. -/
import Derived.Test.YtmnibpgmcgdfpaaPlH
import Derived.Test.YtmnibpgmcgdfpaaPlA
set_option linter.unusedSimpArgs false
set_option linter.unusedVariables false
namespace Go.PL
open Go.RowKit
set_option linter.unusedVariables false
section
variable {P : Program} {s : St} {Q : Exit → St → Prop}

/-- a state of which just these slots, blocks, rows, maps and walks are told -/
def mkStO (n : Nat) (L : List (Nat × PV)) (H : List (Nat × List PV × Bool)) (R : List (Nat × Row)) (O : List (Nat × MapC)) (I : List (Nat × IterC)) : St :=
  { fr := upds L fun _ => .any, m := { h := upds (H.map fun x => (x.1, some x.2.1)) fun _ => none, z := upds (H.map fun x => (x.1, x.2.2)) fun _ => false, q := upds (R.map fun x => (x.1, some x.2)) fun _ => none, o := upds (O.map fun x => (x.1, some x.2)) fun _ => none, it := upds (I.map fun x => (x.1, some x.2)) fun _ => none, om := fun _ => none, v := fun _ => none, ph := fun _ => none, pq := fun _ => none, vm := fun _ => false }, n := n }
structure HasO (n : Nat) (L : List (Nat × PV)) (H : List (Nat × List PV × Bool)) (R : List (Nat × Row)) (O : List (Nat × MapC)) (I : List (Nat × IterC)) (s : St) : Prop where
  b : Has n L H R s
  o : ∀ x ∈ O, s.m.o x.1 = some x.2
  it : ∀ x ∈ I, s.m.it x.1 = some x.2
theorem upds_weak {α : Type} (O : List (Nat × α)) (f : Nat → Option α) (h : ∀ x ∈ O, f x.1 = some x.2) (i : Nat) : upds (O.map fun x => (x.1, some x.2)) (fun _ => none) i = none ∨ upds (O.map fun x => (x.1, some x.2)) (fun _ => none) i = f i := by
  have m1 : (O.map fun x => (x.1, some x.2)).map (·.1) = O.map (·.1) := by simp
  by_cases hi : (O.map (·.1)).contains i = true
  · right
    refine upds_all (R := fun i v => v = f i) (fun x hx => ?_) (by rw [m1]; exact hi)
    obtain ⟨y, hy, rfl⟩ := List.mem_map.1 hx; exact (h y hy).symm
  · exact .inl (upds_ne (by rw [m1]; simpa using hi))
theorem HasO.weak {n : Nat} {L : List (Nat × PV)} {H : List (Nat × List PV × Bool)} {R : List (Nat × Row)} {O : List (Nat × MapC)} {I : List (Nat × IterC)} (h : HasO n L H R O I s) : Weak (mkStO n L H R O I) s :=
  ⟨h.b.weak.n, h.b.weak.fr, h.b.weak.h, h.b.weak.q, upds_weak O s.m.o h.o, upds_weak I s.m.it h.it, fun _ => .inl rfl, fun _ => .inl rfl, fun _ => .inl rfl, fun _ => .inl rfl⟩
theorem Refs.mkStO {n : Nat} {L : List (Nat × PV)} {H : List (Nat × List PV × Bool)} {R : List (Nat × Row)} {O : List (Nat × MapC)} {I : List (Nat × IterC)} (h : toldB L H R) : Refs (mkStO n L H R O I) := by
  have k := Refs.mkSt (n := n) h
  have lv : ∀ r, Live (PL.mkSt n L H R).m r → Live (PL.mkStO n L H R O I).m r := fun r hr => by cases r <;> exact hr
  exact ⟨fun i r hr => lv r (k.fr i r hr), fun i cs hi c hc r hr => lv r (k.h i cs hi c hc r hr), fun i es hi => (by cases hi), fun b c hc => (by cases hc)⟩

/-! ### how contracts with maps begin and end -/
def St.initO (args : List PV) (n b : Nat) (c : MapC) : St := ⟨initFr 0 args, ⟨fun _ => none, fun _ => false, fun _ => none, upd (fun _ => none) b (some c), fun _ => none, fun _ => none, fun _ => none, fun _ => none, fun _ => none, fun _ => false⟩, n⟩
def wRetQ (P : Program) (rs : List ResultVar) (r : PV) (b : Nat) (c' : MapC) : Exit → St → Prop
  | .normal, s => vRet P r s [] rs ∧ s.m.o b = some c'
  | .ret, s => vRet P r s [] rs ∧ s.m.o b = some c'
  | _, _ => False
def sRetQ (P : Program) (rs : List ResultVar) (r : PV) : Exit → St → Prop
  | .normal, s => ∃ r', vRet P r' s [] rs ∧ r = r'.shut s.m.o
  | .ret, s => ∃ r', vRet P r' s [] rs ∧ r = r'.shut s.m.o
  | _, _ => False
def mRetQ (t : Nat) (r : Nat → PV) (c : MapC) : Exit → St → Prop
  | .ret, s => ∃ b id cs, s.fr t = .ptr id 0 ∧ s.m.h id = some cs ∧ PV.idsL cs = [] ∧ s.m.o b = some c ∧ r b = .rptr cs
  | _, _ => False
theorem vQ_wret_ret (rs : List ResultVar) (r : PV) (b : Nat) (c' : MapC) (s : St) : @vQ ⟨wRetQ P rs r b c'⟩ .ret s = (vRet P r s [] rs ∧ s.m.o b = some c') := rfl
theorem vQ_wret_normal (rs : List ResultVar) (r : PV) (b : Nat) (c' : MapC) (s : St) : @vQ ⟨wRetQ P rs r b c'⟩ .normal s = (vRet P r s [] rs ∧ s.m.o b = some c') := rfl
theorem vQ_sret_ret (rs : List ResultVar) (r : PV) (s : St) : @vQ ⟨sRetQ P rs r⟩ .ret s = ∃ r', vRet P r' s [] rs ∧ r = r'.shut s.m.o := rfl
theorem vQ_sret_normal (rs : List ResultVar) (r : PV) (s : St) : @vQ ⟨sRetQ P rs r⟩ .normal s = ∃ r', vRet P r' s [] rs ∧ r = r'.shut s.m.o := rfl
theorem vQ_mret_ret (t : Nat) (r : Nat → PV) (c : MapC) (s : St) : @vQ ⟨mRetQ t r c⟩ .ret s = ∃ b id cs, s.fr t = .ptr id 0 ∧ s.m.h id = some cs ∧ PV.idsL cs = [] ∧ s.m.o b = some c ∧ r b = .rptr cs := rfl

theorem init_rep {S : Stable} {vs : List Value} {args : List PV} {n : Nat} (hl : vs.length = args.length) (hr : ∀ i, i < args.length → Rep S (vs.getD i undef) (args.getD i .any)) (i : Nat) :
    Rep S (((⟨vs⟩ : Array Value) ++ Array.replicate (n - vs.length) undef).getD i undef) (initFr 0 args i) := by
  rw [initFr_getD args 0 i (Nat.zero_le _), Nat.sub_zero]
  by_cases hi : i < args.length
  · have := hr i hi
    rw [getD_lt hi] at this ⊢
    rw [getD_lt (by omega)] at this
    have e : ((⟨vs⟩ : Array Value) ++ Array.replicate (n - vs.length) undef).getD i undef = vs[i]'(by omega) := by
      rw [Array.getD_eq_getD_getElem?, Array.getElem?_append_left (by simp; omega)]
      simp [show i < vs.length by omega]
    rw [e]; exact this
  · rw [getD_ge (by omega)]
    have e : ((⟨vs⟩ : Array Value) ++ Array.replicate (n - vs.length) undef).getD i undef = undef := by
      rw [Array.getD_eq_getD_getElem?, Array.getElem?_append_right (by simp; omega)]
      simp only [Array.getElem?_replicate]
      split <;> rfl
    rw [e]
    exact .tup [] [] rfl (fun i hi => by simp at hi)
theorem sim_init {B : Frm} {S : Stable} {w : World} {vs : List Value} {args : List PV} {n : Nat} {o : Nat → Option MapC} (hn : args.length ≤ n) (hl : vs.length = args.length) (hr : ∀ i, i < args.length → Rep S (vs.getD i undef) (args.getD i .any))
    (hB : ∀ k, B k → k < w.heap.size) (hst : Stab B S w o (fun _ => none)) (hz : ∀ k, ¬ B k → S.z k) :
    Sim B S ⟨id, id, id⟩ ⟨initFr 0 args, ⟨fun _ => none, fun _ => false, fun _ => none, o, fun _ => none, fun _ => none, fun _ => none, fun _ => none, fun _ => none, fun _ => false⟩, n⟩ { tmps := ⟨vs⟩ ++ Array.replicate (n - vs.length) undef, defers := [] } w := by
  refine ⟨rfl, ?_, hB, hst, fun i => .clean (init_rep hl hr i), fun i id hid => absurd hid ((init_rep (n := n) hl hr i).clean_ids id), fun id cs hid => ?_, fun id r hid => ?_, fun id id' cs cs' hid => ?_, fun id id' r r' hid => ?_, fun id id' cs r hid => ?_, fun b c hid => ?_, fun i es hid => ?_, ⟨fun _ _ h => by simp at h, fun _ _ _ _ h => by simp at h⟩, hz⟩
  · simp; omega
  · simp at hid
  · simp at hid
  · simp at hid
  · simp at hid
  · simp at hid
  · simp at hid
  · simp at hid

theorem vRet_run {B : Frm} {S : Stable} {M : Maps} {s : St} {a : Act} {w : World} {fn : Func} {r : PV} {rs : List ResultVar} (hs : Sim B S M s a w) (hrs : fn.results = rs.toArray) (h : vRet P r s [] rs) : ∃ v, (results fn a.tmps).run P w = .ok v w ∧ Rep S v r := by
  obtain ⟨g1, g2, g3⟩ := vRet_retP (fn := fn) rs [] h
  have hl : fn.results.toList = rs := by rw [hrs]
  have g1' : allOk (fn.results.toList.map (resV P s)) := by rw [hl]; exact g1
  obtain ⟨v, hv, hrv⟩ := results_sound hs g1'
  rw [hl] at hrv
  refine ⟨v, hv, ?_⟩
  rw [g3]
  simp only [List.reverse_nil, List.nil_append] at g2 ⊢
  exact hrv.give hs g2

theorem Wr.of_v {f : FuncId} {fn : Func} {c : Code} {args : Nat → List PV} {r : PV} {n : Nat} {rs : List ResultVar} {mc mc' : MapC} (hf : P.funcs[f]? = some fn) (hname : fn.name ≠ "runtime.NumGoroutine") (hb : fn.body = some c) (hn : fn.ntmps = n) (hrs : fn.results = rs.toArray) (hl : ∀ b, (args b).length ≤ n) (hi : r.dids = [])
    (h : ∀ b, @vC P ⟨c⟩ ⟨wRetQ P rs r b mc'⟩ (St.initO (args b) n b mc)) : Wr P f args mc r mc' := by
  subst hn
  refine ⟨⟨fn, hf, hname, by rw [hb]; rfl⟩, hi, fun b w S vs hst hyo hzb hSb hmap hlen hr => ?_⟩
  refine calls_of_wp hf hb ?_
  have hs := sim_init (B := fun k => k < w.heap.size ∧ k ≠ b) (w := w) (n := fn.ntmps) (o := upd (fun _ => none) b (some mc)) (hl b) hlen hr (fun k hk => hk.1)
    ⟨hst, fun k d hd => (by
      by_cases e : b = k
      · subst e; rw [upd_same] at hd; cases hd; exact ⟨fun hh => hh.2 rfl, hSb, hmap⟩
      · rw [upd_ne _ _ e] at hd; cases hd), fun k x hx => (by cases hx)⟩
  have hsz : (⟨vs⟩ : Array Value).size = vs.length := by simp
  rw [hsz]
  have hs := hs fun k hk => by
    by_cases e : k = b
    · rw [e]; exact hzb
    · exact hyo k (Nat.le_of_not_lt fun hlt => hk ⟨hlt, e⟩)
  refine wp_mono (vc_sound _ _ _ (h b) _ S _ _ w hs) fun e a' w' hq => ?_
  obtain ⟨s', S', M', h1, h2, h3⟩ := hq
  have fin : vRet P r s' [] rs ∧ s'.m.o b = some mc' → a'.defers = [] ∧ ∃ v, (results fn a'.tmps).run P w' = .ok v w' ∧ ∃ v' S', Ending.returned v = .returned v' ∧ Rep S' v' r ∧ StabS S' w' ∧ SLe S S' ∧ (∀ k, k < w.heap.size → k ≠ b → (∀ o, S' k o = S k o) ∧ S'.m k = S.m k) ∧ S'.m b = none ∧ MapAt S' w' b mc' ∧ BelowF (fun k => k < w.heap.size ∧ k ≠ b) w w' := by
    rintro ⟨g1, g2⟩
    obtain ⟨v, hv, hrv⟩ := vRet_run h2 hrs g1
    obtain ⟨_, k2, k3⟩ := h2.stable.o b mc' g2
    exact ⟨h2.defers, v, hv, v, S', rfl, hrv, h2.stable.s, h3.1, fun k hk hkb => h3.2.1 k ⟨hk, hkb⟩, k2, k3, h3.2.2⟩
  cases e with
  | normal => exact fin h1
  | ret => exact fin h1
  | _ => exact h1.elim

theorem Mk.of_v {f : FuncId} {fn : Func} {c : Code} {args : List PV} {r : Nat → PV} {n t : Nat} {mc : MapC} (hf : P.funcs[f]? = some fn) (hname : fn.name ≠ "runtime.NumGoroutine") (hb : fn.body = some c) (hn : fn.ntmps = n) (hrs : fn.results = #[.tmp t]) (hl : args.length ≤ n) (hi : ∀ b, (r b).dids = [])
    (h : @vC P ⟨c⟩ ⟨mRetQ t r mc⟩ (St.init args n)) : Mk P f args r mc := by
  subst hn
  refine ⟨⟨fn, hf, hname, by rw [hb]; rfl⟩, hi, fun w S vs hst hyo hlen hr => ?_⟩
  refine calls_of_wp hf hb ?_
  have hs := sim_init (B := fun k => k < w.heap.size) (w := w) (n := fn.ntmps) (o := fun _ => none) hl hlen hr (fun k hk => hk) ⟨hst, fun k d hd => (by cases hd), fun k x hx => (by cases hx)⟩ (fun k hk => hyo k (Nat.le_of_not_lt hk))
  have hsz : (⟨vs⟩ : Array Value).size = vs.length := by simp
  rw [hsz]
  refine wp_mono (vc_sound _ _ _ h _ S _ _ w hs) fun e a' w' hq => ?_
  obtain ⟨s', S', M', h1, h2, h3⟩ := hq
  cases e with
  | ret =>
    obtain ⟨b, id, cs, g1, g2, g3, g4, g5⟩ := h1
    obtain ⟨S2, k1, k2⟩ := h2.freeze g2 g3
    have hgiv : (PV.ptr id 0).givable (s'.m.freeze id) := ⟨upd_same _ _ _, by show s'.m.h id ≠ none; rw [g2]; simp⟩
    have hfr := k1.fr t
    have hfr' : RepS S2 M' (s'.with (s'.m.freeze id)).m.q (a'.tmps.getD t undef) (.ptr id 0) := by
      have : (s'.with (s'.m.freeze id)).fr t = .ptr id 0 := g1
      rw [this] at hfr; exact hfr
    have hrep := hfr'.give k1 hgiv
    have hgive : (PV.ptr id 0).give (s'.m.freeze id) = .rptr cs := by
      have e1 : (s'.m.freeze id).z id = true := upd_same _ _ _
      have e2 : (s'.m.freeze id).h id = some cs := g2
      simp [PV.give, e1, e2]
    have hrep' : Rep S2 (a'.tmps.getD t undef) (r b) := by rw [g5, ← hgive]; exact hrep
    obtain ⟨q1, q2, q3⟩ := k1.stable.o b mc g4
    refine ⟨h2.defers, a'.tmps.getD t undef, ?_, a'.tmps.getD t undef, S2, b, rfl, Nat.not_lt.1 q1, hrep', k1.stable.s, h3.1.trans k2.1, fun k hk => ⟨fun o => ((k2.2.1 k hk).1 o).trans ((h3.2.1 k hk).1 o), (k2.2.1 k hk).2.trans (h3.2.1 k hk).2⟩, q2, q3, h3.2.2.to⟩
    simp [results, hrs]
  | _ => exact h1.elim

theorem RepS.row_inv {S : Stable} {M : Maps} {q : Rows} {v : Value} {id : Nat} {es : List PV} (r : RepS S M q v (.sl (.row id) es)) : Rep S v (.sl .no es) ∧
    ∀ n sz e, q id = some (.live n sz e) → es.length ≤ n ∧ (es.length = n → (M.κ id = 0 → v = .slice none 0 0) ∧ (∀ c, M.κ id = c + 1 → v = .slice (some ⟨M.ψ id, 0, none⟩) n c)) := by
  cases r with
  | row _ _ _ r t => exact ⟨r, t⟩
  | clean r => cases r
/-- how a function that hands on a row ends: the row, and one value more -/
def rwRetQ (t u : Nat) (es : List PV) (c : PV) (sz : Nat) (e : TypeId) : Exit → St → Prop
  | .ret, s => ∃ k, s.fr t = .sl (.row k) es ∧ s.m.q k = some (.live es.length sz e) ∧ s.fr u = c
  | _, _ => False
theorem vQ_rwret_ret (t u : Nat) (es : List PV) (c : PV) (sz : Nat) (e : TypeId) (s : St) : @vQ ⟨rwRetQ t u es c sz e⟩ .ret s = ∃ k, s.fr t = .sl (.row k) es ∧ s.m.q k = some (.live es.length sz e) ∧ s.fr u = c := rfl
theorem Rw.of_v {f : FuncId} {fn : Func} {co : Code} {args : List PV} {es : List PV} {c : PV} {n t u sz : Nat} {e : TypeId} (hf : P.funcs[f]? = some fn) (hname : fn.name ≠ "runtime.NumGoroutine") (hb : fn.body = some co) (hn : fn.ntmps = n) (hrs : fn.results = #[.tmp t, .tmp u]) (hl : args.length ≤ n) (hi : c.ids = [])
    (h : @vC P ⟨co⟩ ⟨rwRetQ t u es c sz e⟩ (St.init args n)) : Rw P f args (fun d => .tup [.sl (.row d) es, c]) es.length sz e := by
  subst hn
  refine ⟨⟨fn, hf, hname, by rw [hb]; rfl⟩, fun d i hi' => ?_, fun w S vs hst hyo hlen hr => ?_⟩
  · simpa [PV.ids, PV.idsL, hi] using hi'
  refine calls_of_wp hf hb ?_
  have hs := sim_init (B := fun k => k < w.heap.size) (w := w) (n := fn.ntmps) (o := fun _ => none) hl hlen hr (fun k hk => hk) ⟨hst, fun k d hd => (by cases hd), fun k x hx => (by cases hx)⟩ (fun k hk => hyo k (Nat.le_of_not_lt hk))
  have hsz : (⟨vs⟩ : Array Value).size = vs.length := by simp
  rw [hsz]
  refine wp_mono (vc_sound _ _ _ h _ S _ _ w hs) fun en a' w' hq => ?_
  obtain ⟨s', S', M', h1, h2, h3⟩ := hq
  cases en with
  | ret =>
    obtain ⟨k, g1, g2, g3⟩ := h1
    have hrt := h2.fr t
    rw [g1] at hrt
    have hru := h2.fr u
    rw [g3] at hru
    have hcu : Rep S' (a'.tmps.getD u undef) c := hru.alone hi
    have hrow := h2.row k _ g2
    refine ⟨h2.defers, .tuple ⟨[a'.tmps.getD t undef, a'.tmps.getD u undef]⟩, ?_, .tuple ⟨[a'.tmps.getD t undef, a'.tmps.getD u undef]⟩, S', M'.κ k, M'.ψ k, rfl, fun d M q hκ hψ hq => ?_, hrow, h2.stable.s, h3.1, fun j hj => h3.2.1 j hj, h3.2.2.to⟩
    · simp [results, hrs]
    · refine .tup _ _ rfl fun i hi' => ?_
      match i, hi' with
      | 0, _ =>
        obtain ⟨rr, tt⟩ := hrt.row_inv
        refine .row d _ es rr fun n' sz' e' hq' => ?_
        rw [hq] at hq'
        cases hq'
        refine ⟨Nat.le_refl _, fun _ => ?_⟩
        rw [hκ, hψ]
        exact (tt _ _ _ g2).2 rfl
      | 1, _ => exact .clean hcu
  | _ => exact h1.elim
end
attribute [go_sem] vQ_rwret_ret
attribute [go_sem] vQ_wret_ret vQ_wret_normal vQ_sret_ret vQ_sret_normal vQ_mret_ret mkStO St.initO
end Go.PL

namespace Go.PL
open Go.RowKit
set_option linter.unusedVariables false
/-- the same, or a row told as a plain slice -/
def Plain (p q : PV) : Prop := q = p ∨ ∃ d es, p = .sl (.row d) es ∧ q = .sl .no es
theorem Plain.row (d : Nat) (es : List PV) : Plain (.sl (.row d) es) (.sl .no es) := .inr ⟨d, es, rfl, rfl⟩
structure WeakP (s' s : St) : Prop where
  n : s'.n = s.n
  fr : ∀ i, s'.fr i = .any ∨ Plain (s.fr i) (s'.fr i)
  h : ∀ i, s'.m.h i = none ∨ (s'.m.h i = s.m.h i ∧ s'.m.z i = s.m.z i)
  q : ∀ i, s'.m.q i = none ∨ s'.m.q i = s.m.q i
  o : ∀ i, s'.m.o i = none ∨ s'.m.o i = s.m.o i
  it : ∀ i, s'.m.it i = none ∨ s'.m.it i = s.m.it i
  om : ∀ i, s'.m.om i = none ∨ s'.m.om i = s.m.om i
  v : ∀ i, s'.m.v i = none ∨ (s'.m.v i = s.m.v i ∧ s'.m.q i = s.m.q i)
  ph : ∀ i, s'.m.ph i = none ∨ (s'.m.ph i = s.m.ph i ∧ s'.m.h i = s.m.h i)
  pq : ∀ i, s'.m.pq i = none ∨ (s'.m.pq i = s.m.pq i ∧ s'.m.q i = s.m.q i)
section
variable {P : Program} {B : Frm} {S : Stable} {M : Maps} {s s' : St} {a : Act} {w : World} {Q Q' : Exit → St → Prop}
structure HasP (n : Nat) (L : List (Nat × PV)) (H : List (Nat × List PV × Bool)) (R : List (Nat × Row)) (s : St) : Prop where
  n : s.n = n
  fr : ∀ x ∈ L, Plain (s.fr x.1) x.2
  h : ∀ x ∈ H, s.m.h x.1 = some x.2.1 ∧ s.m.z x.1 = x.2.2
  q : ∀ x ∈ R, s.m.q x.1 = some x.2
theorem HasP.weak {n : Nat} {L : List (Nat × PV)} {H : List (Nat × List PV × Bool)} {R : List (Nat × Row)} (h : HasP n L H R s) : WeakP (mkSt n L H R) s := by
  have hk : Has n [] H R s := ⟨h.n, fun x hx => (by cases hx), h.h, h.q⟩
  refine ⟨h.n.symm, fun i => ?_, hk.weak.h, hk.weak.q, fun _ => .inl rfl, fun _ => .inl rfl, fun _ => .inl rfl, fun _ => .inl rfl, fun _ => .inl rfl, fun _ => .inl rfl⟩
  by_cases hi : (L.map (·.1)).contains i = true
  · exact .inr (upds_all (R := fun i v => Plain (s.fr i) v) (fun x hx => h.fr x hx) hi)
  · exact .inl (upds_ne (by simpa using hi))
end
end Go.PL

namespace Go.PL
set_option linter.unusedVariables false
set_option linter.unusedSimpArgs false
/-! whole numbers as floats: all of at most 53 digits are there, exactly -/

end Go.PL

namespace Go.PL
open Go.RowKit
set_option linter.unusedVariables false
/-! ### a function that ends in raw steps: its first k parts told by the logic, the rest by the kit (a sort of the row that it hands back) -/
def dropC : Nat → Code → Code
  | 0, c => c
  | k + 1, .seq _ b => dropC k b
  | _ + 1, c => c
/-- the first k parts, told; behind them Q1 -/
def tawp (P : Program) (Q1 : St → Prop) : Nat → Code → St → Prop
  | 0, _, s => Q1 s
  | k + 1, .seq a b, s => awp P a (thenQ (tawp P Q1 k b) fun _ _ => False) s
  | _ + 1, _, _ => False
theorem tawp_sound {P : Program} {Q1 : St → Prop} {Φ : Exit → Act → World → Prop} {B : Frm} {S0 : Stable} {w0 : World} : ∀ (k : Nat) (c : Code) (s : St) (S : Stable) (M : Maps) (a : Act) (w : World), tawp P Q1 k c s → Sim B S M s a w → Ext B S0 S w0 w →
    (∀ s' S' M' a' w', Q1 s' → Sim B S' M' s' a' w' → Ext B S0 S' w0 w' → (dropC k c).wp P Φ a' w') → c.wp P Φ a w
  | 0, c, s, S, M, a, w, h, hs, hx, hk => hk s S M a w h hs hx
  | k + 1, .seq x y, s, S, M, a, w, h, hs, hx, hk => by
    refine wp_seq (wp_mono (h B S M a w hs) fun e a' w' hq => ?_)
    obtain ⟨s', S', M', h1, h2, h3⟩ := hq
    cases e with
    | normal => exact tawp_sound k y s' S' M' a' w' h1 h2 (hx.trans h3) hk
    | _ => exact absurd h1 id
  | k + 1, .skip, s, S, M, a, w, h, _, _, _ => absurd h id
  | k + 1, .label _, s, S, M, a, w, h, _, _, _ => absurd h id
  | k + 1, .ret, s, S, M, a, w, h, _, _, _ => absurd h id
  | k + 1, .exit _, s, S, M, a, w, h, _, _, _ => absurd h id
  | k + 1, .goto _, s, S, M, a, w, h, _, _, _ => absurd h id
  | k + 1, .block _ _, s, S, M, a, w, h, _, _, _ => absurd h id
  | k + 1, .loop _, s, S, M, a, w, h, _, _, _ => absurd h id
  | k + 1, .scope _, s, S, M, a, w, h, _, _, _ => absurd h id
  | k + 1, .cond _ _ _, s, S, M, a, w, h, _, _, _ => absurd h id
  | k + 1, .region _ _ _, s, S, M, a, w, h, _, _, _ => absurd h id

/-- how elements of k cells are told, and how they lie -/
structure Flat (α : Type) [Inhabited α] where
  p : α → PV
  v : α → List Value
  sz : Nat
  pos : 0 < sz
  hp : ∀ x, (p x).cells.length = sz
  hv : ∀ x, (v x).length = sz
  to : ∀ (S : Stable) x j u, j < sz → Rep S u ((p x).cells.getD j .any) → u = (v x).getD j undef
  of : ∀ (S : Stable) x j, j < sz → Rep S ((v x).getD j undef) ((p x).cells.getD j .any)
/-- a slice over a row that lies at a block not below lo -/
def RawRow {α : Type} [Inhabited α] (F : Flat α) (w : World) (lo : Nat) (xs : List α) (v : Value) : Prop :=
  (xs.length = 0 ∧ v = .slice none 0 0) ∨ ∃ b c e vs, lo ≤ b ∧ v = .slice (some ⟨b, 0, none⟩) xs.length c ∧ xs.length ≤ c ∧ w.heap[b]? = some (.cells ⟨vs⟩ e (0, 0)) ∧ xs.length * F.sz ≤ vs.length ∧
    ∀ i j, i < xs.length → j < F.sz → vs.getD (i * F.sz + j) undef = (F.v (xs.getD i default)).getD j undef
section
variable {P : Program} {B : Frm} {S : Stable} {M : Maps} {s : St} {a : Act} {w : World} {α : Type} [Inhabited α]
theorem row_raw (F : Flat α) {i d n : Nat} {e : TypeId} {xs : List α} {lo : Nat} (hs : Sim B S M s a w) (hlo : ∀ k, k < lo → B k) (hi : s.fr i = .sl (.row d) (xs.map F.p)) (hq : s.m.q d = some (.live n F.sz e)) (hn : xs.length = n) : RawRow F w lo xs (a.tmps.getD i undef) := by
  have hf := hs.fr i
  rw [hi] at hf
  have ho := hs.row d _ hq
  obtain ⟨o1, o2⟩ := ho
  generalize a.tmps.getD i undef = v at hf
  cases hf with
  | clean r => cases r
  | row _ _ _ r t =>
    obtain ⟨_, t2⟩ := t n F.sz e hq
    obtain ⟨t3, t4⟩ := t2 (by rw [List.length_map]; exact hn)
    cases hk : M.κ d with
    | zero => exact .inl ⟨by rw [hn]; exact o1 hk, t3 hk⟩
    | succ c =>
      obtain ⟨p1, p2, p3, ⟨vs, p4, p5⟩, p6⟩ := o2 c hk
      have hv := t4 c hk
      refine .inr ⟨M.ψ d, c, e, vs, ?_, by rw [hn]; exact hv, by omega, p4, ?_, fun i j hi hj => ?_⟩
      · exact Nat.le_of_not_lt fun h => p3 (hlo _ h)
      · rw [p5, hn]; exact Nat.mul_le_mul_right _ p1
      · rw [hv] at r
        generalize hes : xs.map F.p = es at r
        cases r with
        | sl0 => 
          have : xs.length = 0 := by
            have := congrArg List.length hes
            simpa using this
          omega
        | sl b o cap sz es vals hsz hcap hS hR =>
          have hlen : es.length = xs.length := by rw [← hes]; simp
          have hi' : i < es.length := by omega
          have hcell : es.getD i .any = F.p (xs.getD i default) := by
            rw [← hes, getD_lt (l := xs.map F.p) (by simpa using hi), getD_lt hi]; simp
          have hsz' : sz = F.sz := by have := hsz i hi'; rw [hcell, F.hp] at this; exact this.symm
          subst hsz'
          have hst := hs.stable.s.c _ _ _ (hS i j hi' hj)
          have hr := hR i j hi' hj
          rw [hcell] at hr
          have hval := F.to S _ j _ hj hr
          rw [← hval]
          have hidx : i * F.sz + j < vs.length := by
            have q1 : (i + 1) * F.sz ≤ c * F.sz := Nat.mul_le_mul_right _ (by omega)
            rw [Nat.succ_mul] at q1
            omega
          rw [cell_of p4] at hst
          rw [Nat.zero_add] at hst
          rw [List.getElem?_eq_getElem hidx] at hst
          rw [getD_lt hidx]
          exact Option.some.inj hst

/-- A FUNCTION THAT HANDS BACK A ROW OF ITS OWN, turned in place by raw steps at the end: what they make of it is G's f -/
theorem Pure.tail (F : Flat α) {f : FuncId} {fn : Func} {c : Code} {args : List PV} {r : PV} (k i d N : Nat) {Q1 : St → Prop} (G : List α → Prop) (g : List α → List α) (hf : P.funcs[f]? = some fn) (hname : fn.name ≠ "runtime.NumGoroutine") (hb : fn.body = some c) (hl : args.length ≤ fn.ntmps) (hi : r.dids = [])
    (h1 : tawp P Q1 k c (St.init args fn.ntmps))
    (hQ : ∀ s, Q1 s → ∃ xs e, G xs ∧ s.n = N ∧ s.fr i = .sl (.row d) (xs.map F.p) ∧ s.m.q d = some (.live xs.length F.sz e))
    (h2 : ∀ xs lo (a : Act) (w : World), G xs → a.defers = [] → a.tmps.size = N → RawRow F w lo xs (a.tmps.getD i undef) → lo ≤ w.heap.size →
      (dropC k c).wp P (fun ex a' w' => (ex = .normal ∨ ex = .ret) ∧ a'.defers = [] ∧ ∃ v', (results fn a'.tmps).run P w' = .ok v' w' ∧ RawRow F w' lo (g xs) v' ∧ BelowF (fun k => k < lo) w w') a w)
    (hr : ∀ xs, G xs → r = .sl .no ((g xs).map F.p)) : Pure P f args r := by
  refine ⟨⟨fn, hf, hname, by rw [hb]; rfl⟩, hi, fun w S vs hst hyo hlen hrep => ?_⟩
  refine calls_of_wp hf hb ?_
  have hs := sim_init (B := fun k => k < w.heap.size) (w := w) (n := fn.ntmps) (o := fun _ => none) hl hlen hrep (fun k hk => hk) ⟨hst, fun b c hc => by simp at hc, fun b x hx => by simp at hx⟩ (fun k hk => hyo k (Nat.le_of_not_lt hk))
  have hsz : (⟨vs⟩ : Array Value).size = vs.length := by simp
  rw [hsz]
  refine tawp_sound (B := fun k => k < w.heap.size) (S0 := S) (w0 := w) k c _ S _ _ w h1 hs (Ext.refl _ _ _) fun s' S' M' a' w' hq hs' hx => ?_
  obtain ⟨xs, e, hg, hsn, hfr, hrow⟩ := hQ s' hq
  have hsize : w.heap.size ≤ w'.heap.size := hx.2.2.size
  have hraw := row_raw F (lo := w.heap.size) hs' (fun k hk => hk) hfr hrow rfl
  have hn : a'.tmps.size = N := by rw [hs'.hn, hsn]
  refine wp_mono (h2 xs w.heap.size a' w' hg hs'.defers hn hraw hsize) fun ex a2 w2 ⟨hex, hdf, v', hv', hrr, hbl⟩ => ?_
  have hr' := hr xs hg
  have hbel : BelowF (fun k => k < w.heap.size) w w2 := hx.2.2.trans hbl
  have fin : ∃ v S', Ending.returned v' = .returned v ∧ Rep S' v r ∧ StabS S' w2 ∧ SLe S S' ∧ (∀ b, b < w.heap.size → (∀ o, S' b o = S b o) ∧ S'.m b = S.m b) ∧ Below w.heap.size w w2 := by
    rw [hr']
    have hold : StabS S w2 := ⟨fun b o u h => by
      have h1 := hst.c b o u h
      have hbl := cell_lt h1
      rw [World.cell?_of_block (w := w) (hbel.block b hbl)]
      exact h1, fun b es h => by
      have h1 := hst.m b es h
      have hbl := (Array.getElem?_eq_some_iff.1 h1).1
      rw [hbel.block b hbl]
      exact h1, fun b h => by
      obtain ⟨vs1, t1, h1⟩ := hst.y b h
      exact ⟨vs1, t1, by rw [hbel.block b (Array.getElem?_eq_some_iff.1 h1).1]; exact h1⟩⟩
    rcases hrr with ⟨h0, hv0⟩ | ⟨b, c', e', us, hb1, hb2, hb3, hb4, hb5, hb6⟩
    · refine ⟨v', S, rfl, ?_, hold, SLe.refl S, fun b _ => ⟨fun _ => rfl, rfl⟩, hbel.to⟩
      have : g xs = [] := List.length_eq_zero_iff.1 h0
      rw [this, hv0]
      exact .sl0 none 0
    · let S2 : Stable := ⟨fun b' o => if b' = b ∧ o < (g xs).length * F.sz then some (us.getD o undef) else S b' o, S.m, S.z, S.y⟩
      have fresh : ∀ o, S b o = none := fun o => by
        cases hc : S b o with
        | none => rfl
        | some u => have := cell_lt (hst.c b o u hc); omega
      refine ⟨v', S2, rfl, ?_, ⟨fun b' o u h => ?_, fun b' es h => hold.m b' es h, hold.y⟩, ⟨fun b' o u h => ?_, fun b' es h => h, rfl, fun _ h => h⟩, fun b' hb' => ⟨fun o => ?_, rfl⟩, hbel.to⟩
      · rw [hb2]
        have hmap : ((g xs).map F.p).length = (g xs).length := by simp
        rw [← hmap]
        refine .sl b 0 c' F.sz _ (fun i j => us.getD (i * F.sz + j) undef) (fun i hi => ?_) (by rw [hmap]; exact hb3) (fun i j hi hj => ?_) (fun i j hi hj => ?_)
        · rw [hmap] at hi
          rw [getD_lt (l := (g xs).map F.p) (by simpa using hi), List.getElem_map, F.hp]
        · rw [hmap] at hi
          show (if b = b ∧ 0 + i * F.sz + j < (g xs).length * F.sz then some (us.getD (0 + i * F.sz + j) undef) else S b (0 + i * F.sz + j)) = _
          have q1 : (i + 1) * F.sz ≤ (g xs).length * F.sz := Nat.mul_le_mul_right _ (by omega)
          rw [Nat.succ_mul] at q1
          rw [if_pos ⟨rfl, by omega⟩, Nat.zero_add]
        · rw [hmap] at hi
          have e1 : ((g xs).map F.p).getD i .any = F.p ((g xs).getD i default) := by
            rw [getD_lt (l := (g xs).map F.p) (by simpa using hi), getD_lt hi]; simp
          rw [e1]
          show Rep _ (us.getD (i * F.sz + j) undef) _
          rw [hb6 i j hi hj]
          exact F.of _ _ _ hj
      · have h9 : (if b' = b ∧ o < (g xs).length * F.sz then some (us.getD o undef) else S b' o) = some u := h
        clear h
        by_cases hc : b' = b ∧ o < (g xs).length * F.sz
        · rw [if_pos hc] at h9
          rw [hc.1, cell_of hb4, List.getElem?_eq_getElem (by omega), ← h9, getD_lt (by omega)]
        · rw [if_neg hc] at h9
          exact hold.c b' o u h9
      · show (if b' = b ∧ o < (g xs).length * F.sz then some (us.getD o undef) else S b' o) = some u
        have : b' ≠ b := fun e => by subst e; rw [fresh o] at h; cases h
        rw [if_neg (fun hc => this hc.1)]
        exact h
      · show (if b' = b ∧ o < (g xs).length * F.sz then some (us.getD o undef) else S b' o) = S b' o
        rw [if_neg (fun hc => by have := hc.1; omega)]
  rcases hex with rfl | rfl
  · exact ⟨hdf, v', hv', fin⟩
  · exact ⟨hdf, v', hv', fin⟩
end
end Go.PL

namespace Go.PL
open Go.RowKit
set_option linter.unusedVariables false
section
variable {P : Program} {a : Act} {w : World} {Q : Exit → Act → World → Prop}
end
end Go.PL

namespace Go.PL
open Go.RowKit
set_option linter.unusedVariables false
section
variable {P : Program} {a : Act} {w : World} {Q : Exit → Act → World → Prop}
end
end Go.PL

namespace Go.PL
open Go.RowKit
set_option linter.unusedVariables false

/-- A value as it is handed back: what is not kept is told as memory that is written no more -/
inductive Pub (K : Ref → Prop) (m : Hp) : PV → PV → Prop
  | keep (p : PV) (h : ∀ i ∈ p.ids, K i) : Pub K m p p
  | row (id : Nat) (es : List PV) : Pub K m (.sl (.row id) es) (.sl .no es)
  | rowf (id n sz : Nat) (e : TypeId) (es : List PV) (hq : m.q id = some (.live n sz e)) (hn : es.length = n) : Pub K m (.sl (.row id) es) (.sl .fr es)
  | vecf (id n sz : Nat) (es es' : List PV) (hv : m.v id = some es) (hn : es.length = n) (h : Pub K m (.vsl id n sz) (.sl .no es')) : Pub K m (.vsl id n sz) (.sl .fr es')
  | vec (id n sz : Nat) (es es' : List PV) (hk : ¬ K (.r id)) (hv : m.v id = some es) (hn : es.length = n) (hl : es'.length = es.length) (hc : ∀ p ∈ es', p.ids = []) (h : ∀ i, i < es.length → Pub K m (es.getD i .any) (es'.getD i .any)) : Pub K m (.vsl id n sz) (.sl .no es')
  | blk (id off : Nat) (cs cs' : List PV) (hk : ¬ K (.b id)) (hh : m.h id = some cs) (hz : m.z id = false) (hl : cs'.length = cs.length) (hc : ∀ p ∈ cs', p.ids = []) (h : ∀ i, i < cs.length → Pub K m (cs.getD i .any) (cs'.getD i .any)) : Pub K m (.ptr id off) (.rptr (cs'.drop off))
  | frozen (id off : Nat) (cs : List PV) (hh : m.h id = some cs) (hz : m.z id = true) : Pub K m (.ptr id off) (.rptr (cs.drop off))
  | agg (cs cs' : List PV) (hl : cs'.length = cs.length) (h : ∀ i, i < cs.length → Pub K m (cs.getD i .any) (cs'.getD i .any)) : Pub K m (.agg cs) (.agg cs')
  | tup (cs cs' : List PV) (hl : cs'.length = cs.length) (h : ∀ i, i < cs.length → Pub K m (cs.getD i .any) (cs'.getD i .any)) : Pub K m (.tup cs) (.tup cs')
  | fn (f : FuncId) (cs cs' : List PV) (hl : cs'.length = cs.length) (h : ∀ i, i < cs.length → Pub K m (cs.getD i .any) (cs'.getD i .any)) : Pub K m (.fn f cs) (.fn f cs')

theorem Pub.clean {K : Ref → Prop} {m : Hp} {p : PV} (h : p.ids = []) : Pub K m p p := .keep p (by rw [h]; simp)
/-- a vec whose elements lean on nothing -/
theorem Pub.vec0 {K : Ref → Prop} {m : Hp} {id n sz : Nat} {es : List PV} (hk : ¬ K (.r id)) (hv : m.v id = some es) (hn : es.length = n) (hc : ∀ p ∈ es, p.ids = []) : Pub K m (.vsl id n sz) (.sl .no es) :=
  .vec id n sz es es hk hv hn rfl hc fun i hi => .clean (hc _ (getD_mem hi))
theorem Pub.agg_of {K : Ref → Prop} {m : Hp} {cs : List PV} {p : PV} (h : Pub K m (.agg cs) p) : ∃ cs', p = .agg cs' ∧ cs'.length = cs.length := by
  cases h with
  | keep _ h => exact ⟨cs, rfl, rfl⟩
  | agg _ cs' hl h => exact ⟨cs', rfl, hl⟩
theorem Pub.not_agg {K : Ref → Prop} {m : Hp} {p p' : PV} (h : Pub K m p p') (hp : ∀ cs, p ≠ .agg cs) : p.cells = [p] ∧ p'.cells = [p'] := by
  cases h with
  | keep _ h => cases p <;> first | exact ⟨rfl, rfl⟩ | exact absurd rfl (hp _)
  | agg cs => exact absurd rfl (hp _)
  | _ => exact ⟨rfl, rfl⟩

section
variable {P : Program} {B : Frm} {S : Stable} {M : Maps} {s : St} {a : Act} {w : World}
/-- the blocks that are handed out -/
def pubB (K : Ref → Prop) (M : Maps) (m : Hp) (b : Nat) : Prop :=
  (∃ id es, m.v id = some es ∧ ¬ K (.r id) ∧ 0 < M.κ id ∧ M.ψ id = b) ∨ ∃ id cs, m.h id = some cs ∧ m.z id = false ∧ ¬ K (.b id) ∧ M.φ id = b
open Classical in
noncomputable def pubS (K : Ref → Prop) (S : Stable) (M : Maps) (m : Hp) (w : World) : Stable := ⟨fun b o => if pubB K M m b then w.cell? ⟨b, o, none⟩ else S b o, S.m, S.z, fun b => S.y b ∨ ∃ id r, m.q id = some r ∧ r.own = true ∧ 0 < M.κ id ∧ M.ψ id = b⟩
theorem pubS_in {K : Ref → Prop} {m : Hp} {b o : Nat} (h : pubB K M m b) : (pubS K S M m w).c b o = w.cell? ⟨b, o, none⟩ := by simp [pubS, h]
theorem pubS_out {K : Ref → Prop} {m : Hp} {b o : Nat} (h : ¬ pubB K M m b) : (pubS K S M m w).c b o = S b o := by simp [pubS, h]
theorem pubB_spec {K : Ref → Prop} (hs : Sim B S M s a w) {b : Nat} (h : pubB K M s.m b) : ¬ B b ∧ (∀ o, S b o = none) := by
  rcases h with ⟨id, es, h1, _, h3, rfl⟩ | ⟨id, cs, h1, h2, _, rfl⟩
  · obtain ⟨sz, e, q⟩ := hs.vec_q h1
    obtain ⟨_, g⟩ := hs.row id _ q
    obtain ⟨_, _, g3, _, g5⟩ := g (M.κ id - 1) (by omega)
    exact ⟨g3, g5⟩
  · obtain ⟨g1, g2, _⟩ := hs.own h1 h2
    exact ⟨g1, g2⟩
theorem pubS_le {K : Ref → Prop} (hs : Sim B S M s a w) : SLe S (pubS K S M s.m w) := .cells rfl (fun b o v hv => by
  rw [pubS_out]
  · exact hv
  · intro h; rw [(pubB_spec hs h).2 o] at hv; cases hv) rfl fun b h => .inl h
theorem pubS_stab {K : Ref → Prop} (hs : Sim B S M s a w) : StabS (pubS K S M s.m w) w := ⟨fun b o v hv => by
  by_cases h : pubB K M s.m b
  · rw [pubS_in h] at hv; exact hv
  · rw [pubS_out h] at hv; exact hs.stable b o v hv, hs.stable.s.m, fun b hb => by
  rcases hb with hb | ⟨id, r, h1, h2, h3, rfl⟩
  · exact hs.stable.s.y b hb
  · have h4 := hs.row id r h1
    cases r with
    | dead => cases h2
    | live n sz e => obtain ⟨_, _, _, ⟨vs, h5, _⟩, _⟩ := h4.2 (M.κ id - 1) (by omega); exact ⟨_, _, h5⟩
    | vec n sz e => obtain ⟨_, _, _, ⟨vs, h5, _⟩, _⟩ := h4.2 (M.κ id - 1) (by omega); exact ⟨_, _, h5⟩⟩
theorem pubS_B {K : Ref → Prop} (hs : Sim B S M s a w) {b : Nat} (h : B b) : (∀ o, (pubS K S M s.m w).c b o = S b o) ∧ (pubS K S M s.m w).m b = S.m b :=
  ⟨fun o => pubS_out fun hp => (pubB_spec hs hp).1 h, rfl⟩

theorem Pub.rep {K : Ref → Prop} (hs : Sim B S M s a w) {p p' : PV} (hp : Pub K s.m p p') : ∀ v, RepS S M s.m.q v p → RepS (pubS K S M s.m w) M s.m.q v p' := by
  have mono : ∀ {v p}, RepS S M s.m.q v p → RepS (pubS K S M s.m w) M s.m.q v p := fun r => r.heap (pubS_le hs) (fun _ _ => rfl) (fun _ _ => .refl _ _ _)
  -- a row of cells, element by element
  have cells : ∀ {e e' : PV} {us : List Value}, Pub K s.m e e' → (∀ v, RepS S M s.m.q v e → RepS (pubS K S M s.m w) M s.m.q v e') → us.length = e.cells.length → (∀ j, j < e.cells.length → RepS S M s.m.q (us.getD j undef) (e.cells.getD j .any)) →
      e'.cells.length = e.cells.length ∧ ∀ j, j < e.cells.length → RepS (pubS K S M s.m w) M s.m.q (us.getD j undef) (e'.cells.getD j .any) := by
    intro e e' us hp ih hl hr
    by_cases he : ∃ cs, e = .agg cs
    · obtain ⟨cs, rfl⟩ := he
      obtain ⟨cs', rfl, hl'⟩ := hp.agg_of
      obtain ⟨us', e1, e2, e3⟩ := (ih (.agg ⟨us⟩) (.agg us cs hl hr)).agg_inv
      simp only [Value.agg.injEq, Array.mk.injEq] at e1
      subst e1
      exact ⟨hl', fun j hj => e3 j (by simp only [PV.cells] at hj; omega)⟩
    · obtain ⟨c1, c2⟩ := hp.not_agg (fun cs e => he ⟨cs, e⟩)
      rw [c1] at hl hr ⊢
      rw [c2]
      refine ⟨rfl, fun j hj => ?_⟩
      have hj0 : j = 0 := by simpa using hj
      subst hj0
      exact ih _ (hr 0 hj)
  induction hp with
  | keep p h => exact fun v r => mono r
  | row id es => exact fun v r => .clean ((r.sl_inv).mono (pubS_le hs))
  | rowf id n sz e es hq hn =>
    intro v r
    refine .clean (.slf v es ((r.sl_inv).mono (pubS_le hs)) fun b o n' c hv hpos => ?_)
    obtain ⟨o1, o2⟩ := hs.row id _ hq
    obtain ⟨t1, t2⟩ := r.row_tok n sz e hq
    obtain ⟨t3, t4⟩ := t2 hn
    cases hκ : M.κ id with
    | zero => rw [t3 hκ] at hv; cases hv
    | succ c0 =>
      rw [t4 c0 hκ] at hv
      cases hv
      exact ⟨hs.hz _ (o2 _ hκ).2.2.1, .inr ⟨id, _, hq, rfl, by omega, rfl⟩⟩
  | vecf id n sz es es' hv hn h ih =>
    intro v r
    have r1 := ih v r
    refine .clean (.slf v es' r1.sl_inv fun b o n' c hvv hpos => ?_)
    subst hn
    obtain ⟨sz', e, q1, _⟩ := hs.vc id es hv
    obtain ⟨_, t⟩ := r.vsl_inv
    obtain ⟨_, t2⟩ := t _ _ _ q1
    obtain ⟨rfl, t3, t4⟩ := t2 rfl
    obtain ⟨o1, o2⟩ := hs.row id _ q1
    cases hκ : M.κ id with
    | zero => rw [t3 hκ] at hvv; cases hvv
    | succ c0 =>
      rw [t4 c0 hκ] at hvv
      cases hvv
      exact ⟨hs.hz _ (o2 _ hκ).2.2.1, .inr ⟨id, _, q1, rfl, by omega, rfl⟩⟩
  | vec id n sz es es' hk hv hn hl hc h ih =>
    intro v r
    subst hn
    obtain ⟨sz', e, q1, r1, r2, r4⟩ := hs.vc id es hv
    obtain ⟨_, t⟩ := r.vsl_inv
    obtain ⟨_, t2⟩ := t _ _ _ q1
    obtain ⟨rfl, t3, t4⟩ := t2 rfl
    obtain ⟨o1, o2⟩ := hs.row id _ q1
    cases hκ : M.κ id with
    | zero =>
      have h0 := o1 hκ
      rw [t3 hκ, List.eq_nil_of_length_eq_zero (hl.trans h0)]
      exact .clean (.sl0 none 0)
    | succ c =>
      obtain ⟨k1, k2, k3, ⟨vs, k5, k6⟩, k4⟩ := o2 c hκ
      have k7 := r4 c hκ vs e (0, 0) k5
      have hb : pubB K M s.m (M.ψ id) := .inl ⟨id, es, hv, hk, by omega, rfl⟩
      have ix : ∀ {i j}, i < es.length → j < sz' → i * sz' + j < vs.length := fun {i j} hi hj => by
        rw [k6]
        calc i * sz' + j < i * sz' + sz' := by omega
          _ = (i + 1) * sz' := by rw [Nat.add_mul, Nat.one_mul]
          _ ≤ c * sz' := Nat.mul_le_mul_right _ (by omega)
      have el : ∀ i, i < es.length → (es'.getD i .any).cells.length = sz' ∧ ∀ j, j < sz' → RepS (pubS K S M s.m w) M s.m.q (vs.getD (i * sz' + j) undef) ((es'.getD i .any).cells.getD j .any) := fun i hi => by
        have hlen := (r1 _ (getD_mem (d := .any) hi)).1
        have := cells (us := (vs.drop (i * sz')).take sz') (h i hi) (ih i hi) (by
          rw [hlen, List.length_take, List.length_drop]
          have : i * sz' + sz' ≤ vs.length := by
            rw [k6]
            calc i * sz' + sz' = (i + 1) * sz' := by rw [Nat.add_mul, Nat.one_mul]
              _ ≤ c * sz' := Nat.mul_le_mul_right _ (by omega)
          omega) (fun j hj => by
          rw [getD_take (by omega), getD_drop]
          exact k7 i j hi (by omega))
        obtain ⟨a1, a2⟩ := this
        refine ⟨a1.trans hlen, fun j hj => ?_⟩
        have := a2 j (by omega)
        rw [getD_take hj, getD_drop] at this
        exact this
      rw [t4 c hκ]
      have hsl : Rep (pubS K S M s.m w) (.slice (some ⟨M.ψ id, 0, none⟩) es'.length c) (.sl .no es') :=
        .sl (M.ψ id) 0 c sz' es' (fun i j => vs.getD (i * sz' + j) undef) (fun i hi => (el i (by omega)).1) (by omega) (fun i j hi hj => by
          rw [pubS_in hb, cell_of k5, Nat.zero_add, List.getElem?_eq_getElem (ix (by omega) hj), getD_lt (ix (by omega) hj)]) (fun i j hi hj => by
          refine ((el i (by omega)).2 j hj).alone ?_
          have hid := hc _ (getD_mem (d := .any) hi)
          cases hids : ((es'.getD i .any).cells.getD j .any).ids with
          | nil => rfl
          | cons x xs =>
            have := cells_ids (p := es'.getD i .any) (getD_mem (d := .any) (by rw [(el i (by omega)).1]; exact hj)) (k := x) (by rw [hids]; simp)
            rw [hid] at this; cases this)
      rw [hl] at hsl
      exact .clean hsl
  | blk id off cs cs' hk hh hz hl hc h ih =>
    intro v r
    rw [r.ptr_inv]
    obtain ⟨g1, g2, ⟨vs, t, g3, g4, g5⟩, g6⟩ := hs.own hh hz
    have hb : pubB K M s.m (M.φ id) := .inr ⟨id, cs, hh, hz, hk, rfl⟩
    refine .clean (.rptr (M.φ id) off _ (fun j => vs.getD (off + j) undef) (fun j hj => ?_) (fun j hj => ?_))
    · simp only [List.length_drop] at hj
      rw [pubS_in hb, cell_of g3, List.getElem?_eq_getElem (by omega), getD_lt (by omega)]
    · simp only [List.length_drop] at hj
      rw [getD_drop]
      exact (ih (off + j) (by omega) _ (g5 (off + j) (by omega))).alone (hc _ (getD_mem (by omega)))
  | frozen id off cs hh hz =>
    intro v r
    have := (r.give hs ⟨hz, by rw [hh]; simp⟩)
    simp only [PV.give, hz, hh] at this
    exact .clean (this.mono (pubS_le hs))
  | agg cs cs' hl h ih =>
    intro v r
    obtain ⟨vs, rfl, hl', hr⟩ := r.agg_inv
    exact .agg vs cs' (by omega) fun i hi => ih i (by omega) _ (hr i (by omega))
  | tup cs cs' hl h ih =>
    intro v r
    obtain ⟨vs, rfl, hl', hr⟩ := r.tup_inv
    exact .tup vs cs' (by omega) fun i hi => ih i (by omega) _ (hr i (by omega))
  | fn f cs cs' hl h ih =>
    intro v r
    obtain ⟨vs, rfl, hl', hr⟩ := r.fn_inv
    exact .fn f vs cs' (by omega) fun i hi => ih i (by omega) _ (hr i (by omega))

theorem Pub.cells_shape {K : Ref → Prop} {m : Hp} {p p' : PV} (h : Pub K m p p') : p'.cells.length = p.cells.length ∧ (p.cells.all PV.atom = true → p'.cells.all PV.atom = true) := by
  have at1 : ∀ {x y : PV}, Pub K m x y → x.atom = true → y.atom = true := fun h hx => by
    cases h <;> first | exact hx | rfl | (simp [PV.atom] at hx)
  by_cases he : ∃ cs, p = .agg cs
  · obtain ⟨cs, rfl⟩ := he
    cases h with
    | keep _ h => exact ⟨rfl, fun h => h⟩
    | agg _ cs' hl h =>
      refine ⟨hl, fun hall => ?_⟩
      simp only [PV.cells, List.all_eq_true] at hall ⊢
      intro y hy
      obtain ⟨i, hi, rfl⟩ := List.getElem_of_mem hy
      have := h i (by omega)
      rw [getD_lt (by omega), getD_lt hi] at this
      exact at1 this (hall _ (List.getElem_mem _))
  · obtain ⟨c1, c2⟩ := h.not_agg (fun cs e => he ⟨cs, e⟩)
    rw [c1, c2]
    exact ⟨rfl, fun hx => by simpa using at1 h (by simpa using hx)⟩
theorem Pub.cells_rep {K : Ref → Prop} (hs : Sim B S M s a w) {e e' : PV} {us : List Value} (hp : Pub K s.m e e') (hl : us.length = e.cells.length) (hr : ∀ j, j < e.cells.length → RepS S M s.m.q (us.getD j undef) (e.cells.getD j .any)) :
    ∀ j, j < e.cells.length → RepS (pubS K S M s.m w) M s.m.q (us.getD j undef) (e'.cells.getD j .any) := by
  by_cases he : ∃ cs, e = .agg cs
  · obtain ⟨cs, rfl⟩ := he
    obtain ⟨cs', rfl, hl'⟩ := hp.agg_of
    obtain ⟨us', e1, e2, e3⟩ := (hp.rep hs (.agg ⟨us⟩) (.agg us cs hl hr)).agg_inv
    simp only [Value.agg.injEq, Array.mk.injEq] at e1
    subst e1
    exact fun j hj => e3 j (by simp only [PV.cells] at hj; omega)
  · obtain ⟨c1, c2⟩ := hp.not_agg (fun cs e => he ⟨cs, e⟩)
    rw [c1] at hl hr ⊢
    rw [c2]
    intro j hj
    have hj0 : j = 0 := by simpa using hj
    subst hj0
    exact hp.rep hs _ (hr 0 hj)

/-- the values of the results -/
def vRet0 (P : Program) (r : PV) (s : St) : List PV → List ResultVar → Prop
  | acc, [] => r = pack acc.reverse
  | acc, .tmp t :: rs => vRet0 P r s (s.fr t :: acc) rs
  | acc, .cell t ty :: rs => tkn P ty = true ∧ (aLoad P ty (s.fr t) s.m).ok ∧ vRet0 P r s ((aLoad P ty (s.fr t) s.m).v :: acc) rs
theorem vRet0_retP {r : PV} {s : St} : ∀ (rs : List ResultVar) (acc : List PV), vRet0 P r s acc rs →
    allOk (rs.map (resV P s)) ∧ r = pack (acc.reverse ++ rs.map fun x => (resV P s x).v)
  | [], acc, h => by simpa [vRet0, allOk] using h
  | .tmp t :: rs, acc, h => by
    obtain ⟨h1, h2⟩ := vRet0_retP rs _ h
    exact ⟨⟨trivial, h1⟩, by simpa [resV] using h2⟩
  | .cell t ty :: rs, acc, h => by
    obtain ⟨h0, h0', h⟩ := h
    obtain ⟨h1, h2⟩ := vRet0_retP rs _ h
    refine ⟨⟨?_, h1⟩, ?_⟩
    · simpa [resV, h0] using h0'
    · simpa [resV, h0] using h2
theorem vRet0_run {fn : Func} {r : PV} {rs : List ResultVar} (hs : Sim B S M s a w) (hrs : fn.results = rs.toArray) (h : vRet0 P r s [] rs) : ∃ v, (results fn a.tmps).run P w = .ok v w ∧ RepS S M s.m.q v r := by
  obtain ⟨g1, g2⟩ := vRet0_retP rs [] h
  have hl : fn.results.toList = rs := by rw [hrs]
  have g1' : allOk (fn.results.toList.map (resV P s)) := by rw [hl]; exact g1
  obtain ⟨v, hv, hrv⟩ := results_sound hs g1'
  rw [hl] at hrv
  refine ⟨v, hv, ?_⟩
  rw [g2]
  simpa using hrv

/-- how a function ends that hands back memory of its own, which it wrote till then -/
def pRetQ (P : Program) (rs : List ResultVar) (r : PV) : Exit → St → Prop
  | .normal, s => ∃ r0, vRet0 P r0 s [] rs ∧ Pub (fun _ => False) s.m r0 r
  | .ret, s => ∃ r0, vRet0 P r0 s [] rs ∧ Pub (fun _ => False) s.m r0 r
  | _, _ => False
theorem vQ_pret_ret (rs : List ResultVar) (r : PV) (s : St) : @vQ ⟨pRetQ P rs r⟩ .ret s = ∃ r0, vRet0 P r0 s [] rs ∧ Pub (fun _ => False) s.m r0 r := rfl
theorem vQ_pret_normal (rs : List ResultVar) (r : PV) (s : St) : @vQ ⟨pRetQ P rs r⟩ .normal s = ∃ r0, vRet0 P r0 s [] rs ∧ Pub (fun _ => False) s.m r0 r := rfl

/-- these slots make vecs -/
def St.vms (s : St) (l : List Nat) : St := s.with { s.m with vm := upds (l.map fun i => (i, true)) fun _ => false }
/-- which slots make vecs, told anew -/
theorem awp_vm {c : Code} {Q : Exit → St → Prop} (f : Nat → Bool) (h : awp P c Q (s.with { s.m with vm := f })) : awp P c Q s := fun B S M a w hs => by
  have live : ∀ i, Live s.m i → Live { s.m with vm := f } i := fun i h => by cases i <;> exact h
  refine h B S M a w ⟨hs.defers, hs.hn, hs.hB, hs.stable, hs.fr, fun i k hk => live k (hs.ids i k hk), fun i b hb => ?_, hs.row, hs.inj, hs.injq, hs.injx, fun b c hc => ?_, fun i es he => ?_, ⟨hs.pn.h, hs.pn.q⟩, hs.hz⟩
  · have hb' := hs.blk i b hb
    show BlkOk _ _ _ _ _ _ _ (s.m.z i)
    cases hz : s.m.z i with
    | false =>
      rw [hz] at hb'
      obtain ⟨h1, h2, ⟨us, t', h3, h4, h5⟩, h6⟩ := hb'
      exact ⟨h1, h2, ⟨us, t', h3, h4, h5⟩, fun c hc k hk => live k (h6 c hc k hk)⟩
    | true => rw [hz] at hb'; exact hb'
  · obtain ⟨g1, g2, g3, g4⟩ := hs.rm b c hc
    exact ⟨g1, g2, g3, g4.move (SLe.refl _) rfl (fun v p r _ => r) live⟩
  · exact (hs.vc i es he).move (fun _ _ _ h => h) rfl rfl (fun _ => rfl) (fun v p r _ => r) live
theorem Pure.of_p (vm : List Nat) {f : FuncId} {fn : Func} {c : Code} {args : List PV} {r : PV} {n : Nat} {rs : List ResultVar} (hf : P.funcs[f]? = some fn) (hname : fn.name ≠ "runtime.NumGoroutine") (hb : fn.body = some c) (hn : fn.ntmps = n) (hrs : fn.results = rs.toArray) (hl : args.length ≤ n) (hi : r.dids = [])
    (h : @vC P ⟨c⟩ ⟨pRetQ P rs r⟩ ((St.init args n).vms vm)) : Pure P f args r := by
  subst hn
  refine ⟨⟨fn, hf, hname, by rw [hb]; rfl⟩, hi, fun w S vs hst hyo hlen hr => ?_⟩
  refine calls_of_wp hf hb ?_
  have hs := sim_init (B := fun k => k < w.heap.size) (w := w) (n := fn.ntmps) (o := fun _ => none) hl hlen hr (fun k hk => hk) ⟨hst, fun k d hd => (by cases hd), fun k x hx => (by cases hx)⟩ (fun k hk => hyo k (Nat.le_of_not_lt hk))
  have hsz : (⟨vs⟩ : Array Value).size = vs.length := by simp
  rw [hsz]
  refine wp_mono (awp_vm _ (vc_sound _ _ _ h) _ S _ _ w hs) fun e a' w' hq => ?_
  obtain ⟨s', S', M', h1, h2, h3⟩ := hq
  have fin : (∃ r0, vRet0 P r0 s' [] rs ∧ Pub (fun _ => False) s'.m r0 r) → a'.defers = [] ∧ ∃ v, (results fn a'.tmps).run P w' = .ok v w' ∧ ∃ v' S', Ending.returned v = .returned v' ∧ Rep S' v' r ∧ StabS S' w' ∧ SLe S S' ∧ (∀ b, b < w.heap.size → (∀ o, S' b o = S b o) ∧ S'.m b = S.m b) ∧ Below w.heap.size w w' := by
    rintro ⟨r0, g1, g2⟩
    obtain ⟨v, hv, hrv⟩ := vRet0_run h2 hrs g1
    have hp := (g2.rep h2 v hrv).alone (List.eq_nil_iff_forall_not_mem.2 fun k hk => by have := ids_dids _ hk; rw [hi] at this; cases this)
    refine ⟨h2.defers, v, hv, v, _, rfl, hp, pubS_stab h2, h3.1.trans (pubS_le h2), fun b hb => ?_, h3.2.2.to⟩
    obtain ⟨q1, q2⟩ := pubS_B (K := fun _ => False) h2 (b := b) hb
    obtain ⟨q3, q4⟩ := h3.2.1 b hb
    exact ⟨fun o => (q1 o).trans (q3 o), q2.trans q4⟩
  cases e with
  | normal => exact fin h1
  | ret => exact fin h1
  | _ => exact h1.elim

/-- the memory in which a function begins, its blocks and rows pinned: where they lie is P's and Q's to say -/
def MemL.hpP (m : MemL) (p : Nat → Nat) (q : Nat → Option (Nat × Nat × Nat)) : Hp := { m.hp with ph := upds (m.H.map fun x => (x.1, some (p x.1))) fun _ => none, pq := upds (m.R.map fun x => (x.1, q x.1)) fun _ => none }
theorem upds_if {α β : Type} {L : List (Nat × α)} {F : Nat → Option β} {i : Nat} {y : β} (h : upds (L.map fun x => (x.1, F x.1)) (fun _ => none) i = some y) : F i = some y ∧ ∃ x ∈ L, x.1 = i := by
  induction L with
  | nil => cases h
  | cons x L ih =>
    have h' : upd (upds (L.map fun x => (x.1, F x.1)) fun _ => none) x.1 (F x.1) i = some y := h
    by_cases e : x.1 = i
    · rw [e, upd_same] at h'; exact ⟨h', x, by simp, e⟩
    · rw [upd_ne _ _ e] at h'
      obtain ⟨h1, z, hz, hzi⟩ := ih h'
      exact ⟨h1, z, by simp [hz], hzi⟩
/-- how a function ends that hands memory on -/
structure ERet (P : Program) (rs : List ResultVar) (r : PV) (m0 m1 : MemL) (ph : Nat → Nat) (pq : Nat → Option (Nat × Nat × Nat)) (s : St) : Prop where
  r : ∃ r0, vRet0 P r0 s [] rs ∧ Pub m1.has s.m r0 r
  h : ∀ x ∈ m1.H, ∃ cs, s.m.h x.1 = some cs ∧ s.m.z x.1 = false ∧ x.2.length = cs.length ∧ ∀ i, i < cs.length → Pub m1.has s.m (cs.getD i .any) (x.2.getD i .any)
  q : ∀ x ∈ m1.R, s.m.q x.1 = some x.2
  v : ∀ x ∈ m1.V, ∃ es, s.m.v x.1 = some es ∧ x.2.length = es.length ∧ ∀ i, i < es.length → Pub m1.has s.m (es.getD i .any) (x.2.getD i .any)
  ph : ∀ x ∈ m0.H, s.m.ph x.1 = some (ph x.1)
  pq : ∀ x ∈ m0.R, s.m.pq x.1 = pq x.1
def eRetQ (P : Program) (rs : List ResultVar) (r : PV) (m0 m1 : MemL) (ph : Nat → Nat) (pq : Nat → Option (Nat × Nat × Nat)) : Exit → St → Prop
  | .normal, s => ERet P rs r m0 m1 ph pq s
  | .ret, s => ERet P rs r m0 m1 ph pq s
  | _, _ => False
theorem vQ_eret_ret (rs : List ResultVar) (r : PV) (m0 m1 : MemL) (ph : Nat → Nat) (pq : Nat → Option (Nat × Nat × Nat)) (s : St) : @vQ ⟨eRetQ P rs r m0 m1 ph pq⟩ .ret s = ERet P rs r m0 m1 ph pq s := rfl
theorem vQ_eret_normal (rs : List ResultVar) (r : PV) (m0 m1 : MemL) (ph : Nat → Nat) (pq : Nat → Option (Nat × Nat × Nat)) (s : St) : @vQ ⟨eRetQ P rs r m0 m1 ph pq⟩ .normal s = ERet P rs r m0 m1 ph pq s := rfl

/-- a row keeps its kind, or dies -/
def Row.compat : Row → Row → Prop
  | .live _ sz e, .live _ sz' e' => sz = sz' ∧ e = e'
  | .vec _ sz e, .vec _ sz' e' => sz = sz' ∧ e = e'
  | _, .dead => True
  | _, _ => False

theorem initS_rep {q : Rows} {vs : List Value} {args : List PV} {n : Nat} (hl : vs.length = args.length) (hr : ∀ i, i < args.length → RepS S M q (vs.getD i undef) (args.getD i .any)) (i : Nat) :
    RepS S M q (((⟨vs⟩ : Array Value) ++ Array.replicate (n - vs.length) undef).getD i undef) (initFr 0 args i) := by
  rw [initFr_getD args 0 i (Nat.zero_le _), Nat.sub_zero]
  by_cases hi : i < args.length
  · have := hr i hi
    rw [getD_lt hi] at this ⊢
    rw [getD_lt (by omega)] at this
    have e : ((⟨vs⟩ : Array Value) ++ Array.replicate (n - vs.length) undef).getD i undef = vs[i]'(by omega) := by
      rw [Array.getD_eq_getD_getElem?, Array.getElem?_append_left (by simp; omega)]
      simp [show i < vs.length by omega]
    rw [e]; exact this
  · rw [getD_ge (by omega)]
    have e : ((⟨vs⟩ : Array Value) ++ Array.replicate (n - vs.length) undef).getD i undef = undef := by
      rw [Array.getD_eq_getD_getElem?, Array.getElem?_append_right (by simp; omega)]
      simp only [Array.getElem?_replicate]
      split <;> rfl
    rw [e]
    exact .clean (.tup [] [] rfl (fun i hi => by simp at hi))
theorem initS_ids {args : List PV} {m : MemL} (ca : ∀ p ∈ args, ∀ i ∈ p.ids, m.has i) (i : Nat) (k : Ref) (hk : k ∈ (initFr 0 args i).ids) : m.has k := by
  rw [initFr_getD args 0 i (Nat.zero_le _), Nat.sub_zero] at hk
  by_cases hi : i < args.length
  · rw [getD_lt hi] at hk; exact ca _ (List.getElem_mem hi) k hk
  · rw [getD_ge (by omega)] at hk; simp [PV.ids, PV.idsL] at hk

open Classical in
theorem Eff.of_v (vm : List Nat) {f : FuncId} {fn : Func} {c : Code} {args : List PV} {m0 m1 : MemL} {r : PV} {n : Nat} {rs : List ResultVar} (hf : P.funcs[f]? = some fn) (hname : fn.name ≠ "runtime.NumGoroutine") (hb : fn.body = some c) (hn : fn.ntmps = n) (hrs : fn.results = rs.toArray) (hl : args.length ≤ n)
    (ok0 : m0.Ok) (ok1 : m1.Ok) (ca : ∀ p ∈ args, ∀ i ∈ p.ids, m0.has i) (cr : ∀ i ∈ r.ids, m1.has i) (kh : ∀ x ∈ m0.H, ∃ y ∈ m1.H, y.1 = x.1) (kr : ∀ x ∈ m0.R, ∃ y ∈ m1.R, y.1 = x.1 ∧ Row.compat x.2 y.2)
    (h : ∀ ph pq, @vC P ⟨c⟩ ⟨eRetQ P rs r m0 m1 ph pq⟩ (St.vms ⟨initFr 0 args, m0.hpP ph pq, n⟩ vm)) : Eff P f args m0 r m1 := by
  subst hn
  refine ⟨⟨fn, hf, hname, by rw [hb]; rfl⟩, ok0, ok1, ca, cr, fun i hi => ?_, fun B S M w vs hs0 hlen hr => ?_⟩
  · cases i with
    | b i => obtain ⟨y, hy, rfl⟩ := hi; exact kh y hy
    | r i => obtain ⟨y, hy, rfl⟩ := hi; obtain ⟨z, hz, e, _⟩ := kr y hy; exact ⟨z, hz, e⟩
  refine calls_of_wp hf hb ?_
  let ph : Nat → Nat := M.φ
  let pq : Nat → Option (Nat × Nat × Nat) := fun i => match m0.hp.q i with | some r => (match r.len with | some n => some (n, M.κ i, M.ψ i) | none => none) | none => none
  have hs : Sim B S M ⟨initFr 0 args, m0.hpP ph pq, fn.ntmps⟩ { tmps := ⟨vs⟩ ++ Array.replicate (fn.ntmps - vs.length) undef, defers := [] } w := by
    refine ⟨rfl, by simp; omega, hs0.hB, hs0.stable, fun i => initS_rep hlen hr i, fun i k hk => ?_, hs0.blk, hs0.row, hs0.inj, hs0.injq, hs0.injx, hs0.rm, hs0.vc, ⟨fun i b hb => ?_, fun i n k b hb => ?_⟩, hs0.hz⟩
    · have := ok0.live (initS_ids ca i k hk)
      cases k <;> exact this
    · have hb : upds (m0.H.map fun x => (x.1, some (ph x.1))) (fun _ => none) i = some b := hb
      obtain ⟨h1, x, hx, rfl⟩ := upds_if (F := fun i => some (ph i)) hb
      cases h1
      exact ⟨ok0.live (i := .b x.1) ⟨x, hx, rfl⟩, rfl⟩
    · have hb : upds (m0.R.map fun x => (x.1, pq x.1)) (fun _ => none) i = some (n, k, b) := hb
      have hb := (upds_if (F := pq) hb).1
      simp only [pq] at hb
      cases hq0 : m0.hp.q i with
      | none => rw [hq0] at hb; cases hb
      | some r0 =>
        rw [hq0] at hb
        cases hl0 : r0.len with
        | none => simp only [hl0] at hb; cases hb
        | some n0 =>
          simp only [hl0, Option.some.injEq, Prod.mk.injEq] at hb
          obtain ⟨rfl, rfl, rfl⟩ := hb
          refine ⟨fun e => (by have e : m0.hp.q i = none := e; rw [hq0] at e; cases e), fun r1 n1 h1 h2 => ?_⟩
          have h1 : m0.hp.q i = some r1 := h1
          rw [hq0] at h1
          cases h1
          rw [hl0] at h2
          cases h2
          exact ⟨Nat.le_refl _, fun _ => ⟨rfl, rfl⟩⟩
  have hsz : (⟨vs⟩ : Array Value).size = vs.length := by simp
  rw [hsz]
  refine wp_mono (awp_vm _ (vc_sound _ _ _ (h ph pq)) _ S _ _ w hs) fun e a' w' hq => ?_
  obtain ⟨s', S', M', h1, h2, h3⟩ := hq
  have fin : ERet P rs r m0 m1 ph pq s' → a'.defers = [] ∧ ∃ v, (results fn a'.tmps).run P w' = .ok v w' ∧ ∃ v' S1 M1, Ending.returned v = .returned v' ∧ RepS S1 M1 m1.hp.q v' r ∧ Sim B S1 M1 (stNo m1.hp) actNo w' ∧ Ext B S S1 w w' ∧ (∀ x ∈ m0.H, M1.φ x.1 = M.φ x.1) ∧ ∀ x ∈ m0.R, RowLe M M1 x.1 (m0.hp.q x.1) (m1.hp.q x.1) := by
    rintro ⟨⟨r0, g1, g2⟩, gh, gq, gv, gph, gpq⟩
    obtain ⟨v, hv, hrv⟩ := vRet0_run h2 hrs g1
    -- what is kept, told by the smaller memory
    have down : ∀ {v p}, RepS (pubS m1.has S' M' s'.m w') M' s'.m.q v p → (∀ i ∈ p.ids, m1.has i) → RepS (pubS m1.has S' M' s'.m w') M' m1.hp.q v p := fun rr hids =>
      rr.heap (SLe.refl _) (fun _ _ => rfl) fun i hi => by
        obtain ⟨y, hy, rfl⟩ := hids _ hi
        rw [ok1.q_at hy, gq y hy]; exact .refl _ _ _
    have hP : ∀ {i}, m1.has (.b i) → ∀ {cs}, s'.m.h i = some cs → s'.m.z i = false → ¬ pubB m1.has M' s'.m (M'.φ i) := fun {i} hi {cs} hc hz hp => by
      rcases hp with ⟨id, es, e1, e2, e3, e4⟩ | ⟨id, cs', e1, e2, e3, e4⟩
      · obtain ⟨sz, e, q⟩ := h2.vec_q e1
        exact h2.injx i id _ _ hc hz q rfl e3 e4.symm
      · exact h2.inj id i _ _ e1 hc e2 hz (fun e => e3 (e ▸ hi)) e4
    have hPr : ∀ {i}, m1.has (.r i) → ∀ {r0}, s'.m.q i = some r0 → r0.own = true → 0 < M'.κ i → ¬ pubB m1.has M' s'.m (M'.ψ i) := fun {i} hi {r0} hq ho hk hp => by
      rcases hp with ⟨id, es, e1, e2, e3, e4⟩ | ⟨id, cs', e1, e2, e3, e4⟩
      · obtain ⟨sz, e, q⟩ := h2.vec_q e1
        exact h2.injq id i _ _ q hq rfl ho e3 hk (fun e => e2 (e ▸ hi)) e4
      · exact h2.injx id i _ _ e1 e2 hq ho hk e4
    refine ⟨h2.defers, v, hv, v, pubS m1.has S' M' s'.m w', M', rfl, down (g2.rep h2 v hrv) cr, ⟨rfl, rfl, h2.hB, ⟨pubS_stab h2, fun b c hc => (by cases hc), fun b x hx => (by cases hx)⟩, fun i => .clean (.any _), fun i id h => (by simp [stNo, PV.ids] at h), fun id cs hc => ?_, fun id r1 hc => ?_, fun id id' cs cs' hc hc' _ _ hne => ?_, fun id id' r1 r2 hc hc' o o' k k' hne => ?_, fun id id' cs r1 hc _ hc' o k => ?_, fun b c hc => (by cases hc), fun id es hc => ?_, ⟨fun _ _ h => (by cases h), fun _ _ _ _ h => (by cases h)⟩, h2.hz⟩,
      ⟨h3.1.trans (pubS_le h2), fun b hb => ?_, h3.2.2⟩, fun x hx => ?_, fun x hx => ?_⟩
    · have hx := MemL.h_mem hc
      obtain ⟨cs0, e1, e2, e3, e4⟩ := gh _ hx
      obtain ⟨k1, k2, ⟨us, t, k3, k4, k5⟩, k6⟩ := h2.own e1 e2
      have hcl : ∀ c ∈ cs, ∀ i ∈ c.ids, m1.has i := ok1.ch _ hx
      have e3 : cs.length = cs0.length := e3
      refine ⟨k1, fun o => by rw [pubS_out (hP ⟨_, hx, rfl⟩ e1 e2)]; exact k2 o, ⟨us, t, k3, by omega, fun j hj => ?_⟩, fun c hc' i hi => ok1.live (hcl c hc' i hi)⟩
      exact down ((e4 j (by omega)).rep h2 _ (k5 j (by omega))) (hcl _ (getD_mem hj))
    · have hx := MemL.q_mem hc
      have hq := gq _ hx
      have hrow := h2.row _ _ hq
      cases r1 with
      | dead => trivial
      | live n sz e =>
        obtain ⟨o1, o2⟩ := hrow
        refine ⟨o1, fun c hc' => ?_⟩
        obtain ⟨k1, k2, k3, k4, k5⟩ := o2 c hc'
        exact ⟨k1, k2, k3, k4, fun o ho => by rw [pubS_out (hPr ⟨_, hx, rfl⟩ hq rfl (by simp only at hc' ⊢; omega))]; exact k5 o ho⟩
      | vec n sz e =>
        obtain ⟨o1, o2⟩ := hrow
        refine ⟨o1, fun c hc' => ?_⟩
        obtain ⟨k1, k2, k3, k4, k5⟩ := o2 c hc'
        exact ⟨k1, k2, k3, k4, fun o => by rw [pubS_out (hPr ⟨_, hx, rfl⟩ hq rfl (by simp only at hc' ⊢; omega))]; exact k5 o⟩
    · obtain ⟨_, e1, e2, _⟩ := gh _ (MemL.h_mem hc)
      obtain ⟨_, e3, e4, _⟩ := gh _ (MemL.h_mem hc')
      exact h2.inj _ _ _ _ e1 e3 e2 e4 hne
    · exact h2.injq _ _ _ _ (gq _ (MemL.q_mem hc)) (gq _ (MemL.q_mem hc')) o o' k k' hne
    · obtain ⟨_, e1, e2, _⟩ := gh _ (MemL.h_mem hc)
      exact h2.injx _ _ _ _ e1 e2 (gq _ (MemL.q_mem hc')) o k
    · have hx := MemL.v_mem hc
      obtain ⟨es0, e1, e3, e4⟩ := gv _ hx
      obtain ⟨sz, e, q1, r1, r2, r4⟩ := h2.vc _ _ e1
      have e3 : es.length = es0.length := e3
      obtain ⟨y, hy, hyx⟩ := ok1.vr _ hx
      have hyx : y.1 = id := hyx
      have hq := gq y hy
      rw [hyx] at hq
      have hcl : ∀ c ∈ es, ∀ i ∈ c.ids, m1.has i := ok1.cv _ hx
      have hq2 : m1.hp.q id = some (.vec es.length sz e) := by
        have h1 := ok1.q_at hy
        rw [hyx] at h1
        rw [h1, ← hq, q1, e3]
      -- element by element
      have shape : ∀ i, i < es0.length → (es.getD i .any).cells.length = (es0.getD i .any).cells.length ∧ ((es0.getD i .any).cells.all PV.atom = true → (es.getD i .any).cells.all PV.atom = true) := fun i hi => by
        have hp := e4 i hi
        have hp : Pub m1.has s'.m (es0.getD i .any) (es.getD i .any) := hp
        generalize es0.getD i .any = x at hp
        generalize es.getD i .any = y at hp
        exact hp.cells_shape
      refine ⟨sz, e, hq2, fun p hp => ?_, fun p hp i hi => ok1.live (hcl p hp i hi), fun c hc' us t fz hus i j hi hj => ?_⟩
      · obtain ⟨i, hi, rfl⟩ := List.getElem_of_mem hp
        obtain ⟨a1, a2⟩ := shape i (by omega)
        have hx0 := r1 _ (getD_mem (d := .any) (by omega : i < es0.length))
        rw [getD_lt hi] at a1 a2
        exact ⟨a1.trans hx0.1, a2 hx0.2⟩
      · have hi : i < es.length := hi
        have hx0 := r1 _ (getD_mem (d := .any) (by omega : i < es0.length))
        have hp : Pub m1.has s'.m (es0.getD i .any) (es.getD i .any) := e4 i (by omega)
        have := hp.cells_rep h2 (us := (us.drop (i * sz)).take sz) (by
          obtain ⟨o1, o2⟩ := h2.row _ _ q1
          obtain ⟨k1, k2, k3, ⟨us', k4, k5⟩, _⟩ := o2 c hc'
          have hus : w'.heap[M'.ψ id]? = some (.cells ⟨us⟩ t fz) := hus
          rw [k4] at hus
          cases hus
          rw [hx0.1, List.length_take, List.length_drop]
          have : i * sz + sz ≤ us.length := by
            rw [k5]
            calc i * sz + sz = (i + 1) * sz := by rw [Nat.add_mul, Nat.one_mul]
              _ ≤ c * sz := Nat.mul_le_mul_right _ (by omega)
          omega) (fun l hl => by
          rw [getD_take (by omega), getD_drop]
          exact r4 c hc' us t fz hus i l (by omega) (by omega)) j (by omega)
        rw [getD_take hj, getD_drop] at this
        have hl2 := (shape i (by omega)).1
        exact down this fun k hk => hcl (es.getD i .any) (getD_mem hi) k (cells_ids (getD_mem (by omega)) hk)
    · obtain ⟨q1, q2⟩ := pubS_B (K := m1.has) h2 (b := b) hb
      obtain ⟨q3, q4⟩ := h3.2.1 b hb
      exact ⟨fun o => (q1 o).trans (q3 o), q2.trans q4⟩
    · exact (h2.pn.h x.1 _ (gph x hx)).2
    · obtain ⟨y, hy, hyx, hk⟩ := kr x hx
      have hq0 := ok0.q_at hx
      have hq1 := ok1.q_at hy
      have hs1 := gq y hy
      rw [hyx] at hq1 hs1
      rw [hq0, hq1]
      have pin : ∀ n0 n1, x.2.len = some n0 → y.2.len = some n1 → n0 ≤ n1 ∧ (n0 = n1 → M'.κ x.1 = M.κ x.1 ∧ M'.ψ x.1 = M.ψ x.1) := fun n0 n1 l0 l1 => by
        have hb : pq x.1 = some (n0, M.κ x.1, M.ψ x.1) := by simp only [pq, hq0, l0]
        exact (h2.pn.q x.1 _ _ _ ((gpq x hx).trans hb)).2 y.2 n1 hs1 l1
      obtain ⟨xi, xr⟩ := x
      obtain ⟨yi, yr⟩ := y
      simp only at hk pin ⊢
      refine ⟨fun n sz e h => ?_, fun n sz e h => ?_⟩
      · cases h
        cases xr with
        | live n0 sz0 e0 =>
          obtain ⟨rfl, rfl⟩ := hk
          obtain ⟨p1, p2⟩ := pin n0 n rfl rfl
          by_cases e : n0 = n
          · subst e; exact .inl ⟨rfl, p2 rfl⟩
          · exact .inr ⟨n0, _, _, rfl, by omega⟩
        | vec => exact hk.elim
        | dead => exact hk.elim
      · cases h
        cases xr with
        | vec n0 sz0 e0 =>
          obtain ⟨rfl, rfl⟩ := hk
          obtain ⟨p1, p2⟩ := pin n0 n rfl rfl
          by_cases e : n0 = n
          · subst e; exact .inl ⟨_, rfl, p2 rfl⟩
          · exact .inr ⟨n0, _, _, rfl, by omega⟩
        | live => exact hk.elim
        | dead => exact hk.elim
  cases e with
  | normal => exact fin h1
  | ret => exact fin h1
  | _ => exact h1.elim

/-! ### States and loops in which vecs, maps of rows and pins are told too -/
def mkStX (n : Nat) (L : List (Nat × PV)) (H : List (Nat × List PV × Bool)) (R : List (Nat × Row)) (O : List (Nat × MapC)) (I : List (Nat × IterC)) (V : List (Nat × List PV)) (OM : List (Nat × MapC)) (p : List (Nat × Nat)) (q : List (Nat × Option (Nat × Nat × Nat))) (vm : List Nat) : St :=
  { fr := upds L fun _ => .any, m := { h := upds (H.map fun x => (x.1, some x.2.1)) fun _ => none, z := upds (H.map fun x => (x.1, x.2.2)) fun _ => false, q := upds (R.map fun x => (x.1, some x.2)) fun _ => none, o := upds (O.map fun x => (x.1, some x.2)) fun _ => none, it := upds (I.map fun x => (x.1, some x.2)) fun _ => none, om := upds (OM.map fun x => (x.1, some x.2)) fun _ => none, v := upds (V.map fun x => (x.1, some x.2)) fun _ => none, ph := upds (p.map fun x => (x.1, some x.2)) fun _ => none, pq := upds q fun _ => none, vm := upds (vm.map fun i => (i, true)) fun _ => false }, n := n }
structure HasX (n : Nat) (L : List (Nat × PV)) (H : List (Nat × List PV × Bool)) (R : List (Nat × Row)) (O : List (Nat × MapC)) (I : List (Nat × IterC)) (V : List (Nat × List PV)) (OM : List (Nat × MapC)) (p : List (Nat × Nat)) (q : List (Nat × Option (Nat × Nat × Nat))) (s : St) : Prop where
  b : Has n L H R s
  o : ∀ x ∈ O, s.m.o x.1 = some x.2
  it : ∀ x ∈ I, s.m.it x.1 = some x.2
  v : ∀ x ∈ V, s.m.v x.1 = some x.2
  om : ∀ x ∈ OM, s.m.om x.1 = some x.2
  ph : ∀ x ∈ p, s.m.ph x.1 = some x.2
  pq : ∀ x ∈ q, s.m.pq x.1 = x.2
/-- what is told is told with what it leans on: each vec with its row, each pin with its block or row -/
structure WholeX (L : List (Nat × PV)) (H : List (Nat × List PV × Bool)) (R : List (Nat × Row)) (V : List (Nat × List PV)) (OM : List (Nat × MapC)) (p : List (Nat × Nat)) (q : List (Nat × Option (Nat × Nat × Nat))) : Prop where
  t : toldB L H R
  v : ∀ x ∈ V, (PV.idsL x.2).all (refInM H R) = true
  om : ∀ x ∈ OM, (PV.idsL x.2.vs).all (refInM H R) = true
  vr : ∀ x ∈ V, (R.map (·.1)).contains x.1 = true
  pr : ∀ x ∈ p, (H.map (·.1)).contains x.1 = true
  qr : ∀ x ∈ q, (R.map (·.1)).contains x.1 = true
theorem upds_weak' {α : Type} (O : List (Nat × Option α)) (f : Nat → Option α) (h : ∀ x ∈ O, f x.1 = x.2) (i : Nat) : upds O (fun _ => none) i = none ∨ (upds O (fun _ => none) i = f i ∧ ∃ x ∈ O, x.1 = i) := by
  by_cases hi : (O.map (·.1)).contains i = true
  · right
    refine ⟨upds_all (R := fun i v => v = f i) (fun x hx => (h x hx).symm) hi, ?_⟩
    simp only [List.contains_iff_mem, List.mem_map] at hi
    exact hi
  · exact .inl (upds_ne (by simpa using hi))
theorem HasX.weak {n : Nat} {L : List (Nat × PV)} {H : List (Nat × List PV × Bool)} {R : List (Nat × Row)} {O : List (Nat × MapC)} {I : List (Nat × IterC)} {V : List (Nat × List PV)} {OM : List (Nat × MapC)} {p : List (Nat × Nat)} {q : List (Nat × Option (Nat × Nat × Nat))} {vm : List Nat} (hw : WholeX L H R V OM p q) (h : HasX n L H R O I V OM p q s) : Weak (mkStX n L H R O I V OM p q vm) s := by
  have hin : ∀ {i : Nat}, (R.map (·.1)).contains i = true → (mkStX n L H R O I V OM p q vm).m.q i = s.m.q i := fun {i} hi => by
    refine upds_all (R := fun i v => v = s.m.q i) (fun x hx => ?_) (by rw [map1 R some]; exact hi)
    obtain ⟨y, hy, rfl⟩ := List.mem_map.1 hx; exact (h.b.q y hy).symm
  have hih : ∀ {i : Nat}, (H.map (·.1)).contains i = true → (mkStX n L H R O I V OM p q vm).m.h i = s.m.h i := fun {i} hi => by
    refine upds_all (R := fun i v => v = s.m.h i) (fun x hx => ?_) (by rw [map1 H (fun x => some x.1)]; exact hi)
    obtain ⟨y, hy, rfl⟩ := List.mem_map.1 hx; exact (h.b.h y hy).1.symm
  refine ⟨h.b.weak.n, h.b.weak.fr, h.b.weak.h, h.b.weak.q, upds_weak O s.m.o h.o, upds_weak I s.m.it h.it, upds_weak OM s.m.om h.om, fun i => ?_, fun i => ?_, fun i => ?_⟩
  · rcases upds_weak' (V.map fun x => (x.1, some x.2)) s.m.v (fun x hx => by obtain ⟨y, hy, rfl⟩ := List.mem_map.1 hx; exact h.v y hy) i with h1 | ⟨h1, x, hx, rfl⟩
    · exact .inl h1
    · obtain ⟨y, hy, rfl⟩ := List.mem_map.1 hx
      exact .inr ⟨h1, hin (hw.vr y hy)⟩
  · rcases upds_weak' (p.map fun x => (x.1, some x.2)) s.m.ph (fun x hx => by obtain ⟨y, hy, rfl⟩ := List.mem_map.1 hx; exact h.ph y hy) i with h1 | ⟨h1, x, hx, rfl⟩
    · exact .inl h1
    · obtain ⟨y, hy, rfl⟩ := List.mem_map.1 hx
      exact .inr ⟨h1, hih (hw.pr y hy)⟩
  · rcases upds_weak' q s.m.pq h.pq i with h1 | ⟨h1, x, hx, rfl⟩
    · exact .inl h1
    · exact .inr ⟨h1, hin (hw.qr x hx)⟩
theorem Refs.mkStX {n : Nat} {L : List (Nat × PV)} {H : List (Nat × List PV × Bool)} {R : List (Nat × Row)} {O : List (Nat × MapC)} {I : List (Nat × IterC)} {V : List (Nat × List PV)} {OM : List (Nat × MapC)} {p : List (Nat × Nat)} {q : List (Nat × Option (Nat × Nat × Nat))} {vm : List Nat} (hw : WholeX L H R V OM p q) : Refs (mkStX n L H R O I V OM p q vm) := by
  have k := Refs.mkSt (n := n) hw.t
  have lv : ∀ r, Live (PL.mkSt n L H R).m r → Live (PL.mkStX n L H R O I V OM p q vm).m r := fun r hr => by cases r <;> exact hr
  have live : ∀ r, refInM H R r = true → Live (PL.mkStX n L H R O I V OM p q vm).m r := fun r hr => by
    cases r with
    | b i =>
      show upds (H.map fun x => (x.1, some x.2.1)) (fun _ => none) i ≠ none
      exact upds_all (R := fun i v => v ≠ none) (fun x hx => by obtain ⟨y, hy, rfl⟩ := List.mem_map.1 hx; simp) (by rw [map1 H (fun x => some x.1)]; exact hr)
    | r i =>
      show upds (R.map fun x => (x.1, some x.2)) (fun _ => none) i ≠ none
      exact upds_all (R := fun i v => v ≠ none) (fun x hx => by obtain ⟨y, hy, rfl⟩ := List.mem_map.1 hx; simp) (by rw [map1 R some]; exact hr)
  refine ⟨fun i r hr => lv r (k.fr i r hr), fun i cs hi c hc r hr => lv r (k.h i cs hi c hc r hr), fun i es hi pv hp r hr => ?_, fun b c hc pv hp r hr => ?_⟩
  · have hm := (upds_some hi).resolve_right (by simp)
    exact live r (List.all_eq_true.1 (hw.v _ hm) r (PV.mem_idsL.2 ⟨pv, hp, hr⟩))
  · have hm := (upds_some hc).resolve_right (by simp)
    exact live r (List.all_eq_true.1 (hw.om _ hm) r (PV.mem_idsL.2 ⟨pv, hp, hr⟩))

def NextX {ι : Type} (n : Nat) (L : ι → List (Nat × PV)) (H : ι → List (Nat × List PV × Bool)) (R : ι → List (Nat × Row)) (O : ι → List (Nat × MapC)) (I : ι → List (Nat × IterC)) (V : ι → List (Nat × List PV)) (OM : ι → List (Nat × MapC)) (p : List (Nat × Nat)) (q : List (Nat × Option (Nat × Nat × Nat))) (μ : ι → Nat) (i : ι) (s' : St) : Prop :=
  ∃ j, μ j < μ i ∧ HasX n (L j) (H j) (R j) (O j) (I j) (V j) (OM j) p q s'
/-- A LOOP, by what is told at its head, of vecs too -/
theorem vLoopX {c : Code} {Q : Exit → St → Prop} {ι : Type} (n : Nat) (L : ι → List (Nat × PV)) (H : ι → List (Nat × List PV × Bool)) (R : ι → List (Nat × Row)) (O : ι → List (Nat × MapC)) (I : ι → List (Nat × IterC)) (V : ι → List (Nat × List PV)) (OM : ι → List (Nat × MapC)) (p : List (Nat × Nat)) (q : List (Nat × Option (Nat × Nat × Nat))) (vm : List Nat) (μ : ι → Nat) (i0 : ι)
    (h0 : HasX n (L i0) (H i0) (R i0) (O i0) (I i0) (V i0) (OM i0) p q s) (hr : ∀ i, WholeX (L i) (H i) (R i) (V i) (OM i) p q)
    (round : ∀ i, @vC P ⟨c⟩ ⟨thenQ (NextX n L H R O I V OM p q μ i) Q⟩ (mkStX n (L i) (H i) (R i) (O i) (I i) (V i) (OM i) p q vm)) : awp P (.loop c) Q s :=
  awp_loop_gen (fun i => mkStX n (L i) (H i) (R i) (O i) (I i) (V i) (OM i) p q vm) μ i0 (h0.weak (hr i0)) (fun _ i => Refs.mkStX (hr i)) fun i => awp_mono (fun e s' h => by
    cases e with
    | normal => obtain ⟨j, hj, hm⟩ := h; exact ⟨j, hj, hm.weak (hr j)⟩
    | _ => exact h) (vc_sound _ _ _ (round i))
/-! ### Steps that no code takes: a slice told as a vec -/
/-- a nil slice -/
theorem awp_nilVec {c : Code} {Q : Exit → St → Prop} (i d sz : Nat) (e : TypeId) (hi : s.fr i = .sl .nil []) (hd : s.m.q d = none) (h : awp P c Q ({ s with fr := upd s.fr i (.vsl d 0 sz) }.with { s.m.setq d (.vec 0 sz e) with v := upd s.m.v d (some []) })) : awp P c Q s := fun B S M a w hs => by
  have hs1 := hs.nilVec (sz := sz) (e := e) hd
  have hv : a.tmps.getD i undef = .slice none 0 0 := by
    have := hs.fr i
    rw [hi] at this
    exact this.slnil_inv
  refine h B S _ a w ⟨hs1.defers, hs1.hn, hs1.hB, hs1.stable, fun k => ?_, fun k r hr => ?_, hs1.blk, hs1.row, hs1.inj, hs1.injq, hs1.injx, hs1.rm, hs1.vc, hs1.pn, hs1.hz⟩
  · show RepS _ _ _ _ (upd s.fr i (.vsl d 0 sz) k)
    by_cases e : i = k
    · subst e
      rw [upd_same, hv]
      refine .vsl d 0 sz _ ⟨none, 0, rfl, Nat.le_refl _, fun h => absurd h (Nat.lt_irrefl _)⟩ fun n' sz' e' hq => ?_
      simp only [St.with, Hp.setq, upd_same] at hq
      cases hq
      exact ⟨Nat.le_refl _, fun _ => ⟨rfl, fun _ => rfl, fun c hc => by simp [upd_same] at hc⟩⟩
    · rw [upd_ne _ _ e]; exact hs1.fr k
  · have hr' : r ∈ (upd s.fr i (.vsl d 0 sz) k).ids := hr
    by_cases e : i = k
    · subst e
      rw [upd_same] at hr'
      simp only [PV.ids, List.mem_singleton] at hr'
      subst hr'
      simp [Live, St.with, Hp.setq, upd_same]
    · rw [upd_ne _ _ e] at hr'; exact hs1.ids k r hr'
end
attribute [go_sem] mkStX St.vms MemL.hpP MemL.hp
attribute [go_sem] vQ_pret_ret vQ_pret_normal vQ_eret_ret vQ_eret_normal vRet0
end Go.PL
