/- A logic of values for functions that only read and build, over the model (part 3): no statement of the seat is proved here. -/
import Derived.Test.YtbojhapdidieoaaPlB
import Derived.WideKeyRuns
import Derived.Scope
import Derived.ScopeJumps
import Derived.Orders
import Derived.LoopN
import Derived.Maps.RangeRun
set_option linter.unusedSimpArgs false
set_option linter.unusedVariables false
namespace Go.PL
open Go.RowKit
set_option linter.unusedVariables false
section
variable {P : Program} {B : Frm} {S : Stable} {M : Maps} {s : St} {a : Act} {w : World}

theorem idsL_nil {cs : List PV} (h : PV.idsL cs = []) {i : Nat} (hi : i < cs.length) : (cs.getD i .any).ids = [] := by
  have hm := getD_mem (d := PV.any) hi
  apply List.eq_nil_iff_forall_not_mem.2
  intro r hr
  have := PV.mem_idsL.2 ⟨_, hm, hr⟩
  rw [h] at this
  cases this

/-- a value that leans on nothing of the call's own -/
theorem RepS.alone {q : Rows} {v : Value} {p : PV} (r : RepS S M q v p) (h : p.ids = []) : Rep S v p := by
  induction r with
  | clean r => exact r
  | ptr id off => simp [PV.ids] at h
  | osl id off len cap sz hc => simp [PV.ids] at h
  | row id v es r _ => simp [PV.ids] at h
  | agg vs cs hl _ ih => exact .agg vs cs hl (fun i hi => ih i hi (idsL_nil h hi))
  | tup vs cs hl _ ih => exact .tup vs cs hl (fun i hi => ih i hi (idsL_nil h hi))
  | fn f vs cs hl _ ih => exact .fn f vs cs hl (fun i hi => ih i hi (idsL_nil h hi))

theorem Sim.freeze (hs : Sim B S M s a w) {id : Nat} {cs : List PV} (hid : s.m.h id = some cs) (hp : PV.idsL cs = []) :
    ∃ S', Sim B S' M (s.with (s.m.freeze id)) a w ∧ Ext B S S' w w := by
  cases hz : s.m.z id with
  | true =>
    have e : s.m.freeze id = s.m := by
      have : upd s.m.z id true = s.m.z := by
        funext k; by_cases e : id = k
        · subst e; simp [upd, hz]
        · simp [upd, e]
      unfold Hp.freeze
      rw [this]
    exact ⟨S, by rw [e]; exact hs, Ext.refl _ _ _⟩
  | false =>
    obtain ⟨h1, h2, ⟨vs, t, h3, h4, h5⟩, h6⟩ := hs.own hid hz
    have hle : SLe S (addS S (M.φ id) vs.length vs) := .cells rfl fun b o v hv => by
      rw [addS_c]
      rw [if_neg]
      · exact hv
      · rintro ⟨rfl, _⟩; rw [h2 o] at hv; cases hv
    have rep : ∀ {v p}, RepS S M s.m.q v p → RepS (addS S (M.φ id) vs.length vs) M s.m.q v p := fun r => r.heap hle (fun _ _ => rfl) (fun _ _ n sz e h => .inl ⟨h, rfl, rfl⟩)
    have e4 : ∀ i, i ≠ id → (s.m.freeze id).z i = s.m.z i := fun i h => upd_ne _ _ (Ne.symm h)
    have n2 : (s.m.freeze id).z id = true := upd_same _ _ _
    have other : ∀ {b o}, b ≠ M.φ id → addS S (M.φ id) vs.length vs b o = S b o := fun {b o} h => by
      rw [addS_c, if_neg (fun hh => h hh.1)]
    refine ⟨addS S (M.φ id) vs.length vs, ⟨hs.defers, hs.hn, hs.hB, hs.stable.move hle (fun b c hc => (hs.stable.o b c hc).2.1) ⟨fun b o v hv => ?_, hs.stable.s.m⟩ (fun _ _ _ => rfl) (fun _ _ _ => rfl), fun i => rep (hs.fr i), hs.ids, fun i ds hd => ?_, fun i r hr => ?_, ?_, hs.injq, ?_⟩, hle, ?_, BelowF.refl _ _⟩
    · rw [addS_c] at hv
      split at hv
      · rename_i hb
        obtain ⟨rfl, ho⟩ := hb
        rw [cell_of h3, List.getElem?_eq_getElem ho, ← hv, getD_lt ho]
      · exact hs.stable b o v hv
    · simp only [St.with] at hd ⊢
      by_cases e : i = id
      · subst e
        rw [n2]
        have : ds = cs := by
          have hd' : s.m.h i = some ds := hd
          rw [hid] at hd'
          exact (Option.some.inj hd').symm
        subst this
        refine ⟨fun j => vs.getD j undef, fun j hj => ⟨?_, ?_⟩⟩
        · rw [addS_c, if_pos ⟨rfl, by omega⟩]
        · exact ((h5 j hj).alone (idsL_nil hp hj)).mono hle
      · rw [e4 i e]
        have hb' := hs.blk i ds hd
        cases hzi : s.m.z i with
        | false =>
          rw [hzi] at hb'
          obtain ⟨g1, g2, ⟨us, t', g3, g4, g5⟩, g6⟩ := hb'
          have hne := hs.inj i id _ _ hd hid hzi hz e
          exact ⟨g1, fun o => by rw [other hne]; exact g2 o, ⟨us, t', g3, g4, fun k hk => rep (g5 k hk)⟩, g6⟩
        | true =>
          rw [hzi] at hb'
          obtain ⟨vals, hv⟩ := hb'; exact ⟨vals, fun j hj => ⟨hle _ _ _ (hv j hj).1, (hv j hj).2.mono hle⟩⟩
    · have hr' := hs.row i r hr
      cases r with
      | live n sz et =>
        obtain ⟨g1, g2⟩ := hr'
        refine ⟨g1, fun c hk => ?_⟩
        obtain ⟨k0, k0', k1, ⟨us, k2, k3⟩, k4⟩ := g2 c hk
        have hne := hs.injx id i _ _ _ _ hid hz hr (by omega)
        exact ⟨k0, k0', k1, ⟨us, k2, k3⟩, fun o ho => by rw [other (Ne.symm hne)]; exact k4 o ho⟩
      | dead => trivial
    · intro i k b b' hbi hbk zi zk hik
      simp only [St.with] at zi zk
      have hi' : i ≠ id := fun e => by subst e; rw [n2] at zi; cases zi
      have hk' : k ≠ id := fun e => by subst e; rw [n2] at zk; cases zk
      rw [e4 i hi'] at zi; rw [e4 k hk'] at zk
      exact hs.inj i k _ _ hbi hbk zi zk hik
    · intro i k b n sz e hbi zi hq hk
      simp only [St.with] at zi
      have hi' : i ≠ id := fun e => by subst e; rw [n2] at zi; cases zi
      rw [e4 i hi'] at zi
      exact hs.injx i k _ _ _ _ hbi zi hq hk
    · intro b hb
      exact ⟨fun o => other (fun e => h1 (e ▸ hb)), rfl⟩

/-- what a function value captures is handed out -/
def frozenBy (m : Hp) : List PV → Hp
  | [] => m
  | .ptr id _ :: cs => frozenBy (m.freeze id) cs
  | _ :: cs => frozenBy m cs
def capsOk (m : Hp) : List PV → Prop
  | [] => True
  | .ptr id _ :: cs => (match m.h id with | some ds => PV.idsL ds = [] | none => False) ∧ capsOk m cs
  | c :: cs => c.ids = [] ∧ capsOk m cs

theorem capsOk_freeze {m : Hp} (d : Nat) : ∀ {cs : List PV}, capsOk m cs → capsOk (m.freeze d) cs
  | [], _ => trivial
  | c :: cs, h => by
    cases c <;> exact ⟨h.1, capsOk_freeze d h.2⟩

theorem Sim.frozenBy (hs : Sim B S M s a w) : ∀ (cs : List PV), capsOk s.m cs → ∃ S', Sim B S' M (s.with (frozenBy s.m cs)) a w ∧ Ext B S S' w w := by
  intro cs
  induction cs generalizing s S with
  | nil => intro _; exact ⟨S, hs, Ext.refl _ _ _⟩
  | cons c cs ih =>
    intro hok
    have skip : ∀ m', PL.frozenBy s.m (c :: cs) = PL.frozenBy m' cs → (∃ S1, Sim B S1 M (s.with m') a w ∧ Ext B S S1 w w) → capsOk m' cs → ∃ S', Sim B S' M (s.with (PL.frozenBy s.m (c :: cs))) a w ∧ Ext B S S' w w := by
      intro m' e h1 h2
      obtain ⟨S1, hs1, he1⟩ := h1
      obtain ⟨S2, hs2, he2⟩ := ih hs1 h2
      refine ⟨S2, ?_, he1.trans he2⟩
      rw [e]
      exact hs2
    cases c with
    | ptr id off =>
      obtain ⟨h1, h2⟩ := hok
      cases hid : s.m.h id with
      | none => rw [hid] at h1; exact h1.elim
      | some ds =>
        rw [hid] at h1
        exact skip (s.m.freeze id) rfl (hs.freeze hid h1) (capsOk_freeze id h2)
    | _ => exact skip s.m rfl ⟨S, hs, Ext.refl _ _ _⟩ hok.2

theorem frozenBy_h (m : Hp) : ∀ cs, (frozenBy m cs).h = m.h
  | [] => rfl
  | c :: cs => by
    cases c <;> first | exact frozenBy_h m cs | exact frozenBy_h (m.freeze _) cs
theorem frozenBy_q (m : Hp) : ∀ cs, (frozenBy m cs).q = m.q
  | [] => rfl
  | c :: cs => by
    cases c <;> first | exact frozenBy_q m cs | exact frozenBy_q (m.freeze _) cs

mutual
/-- the value as it is handed to a callee: no row is told; a block that is handed out is told by what it holds -/
def PV.give (m : Hp) : PV → PV
  | .sl _ es => .sl .no es
  | .ptr id off => match m.z id, m.h id with
    | true, some cs => .rptr (cs.drop off)
    | _, _ => .ptr id off
  | .agg cs => .agg (PV.giveL m cs)
  | .tup cs => .tup (PV.giveL m cs)
  | .fn f cs => .fn f (PV.giveL m cs)
  | p => p
def PV.giveL (m : Hp) : List PV → List PV
  | [] => []
  | c :: cs => PV.give m c :: PV.giveL m cs
end
mutual
def PV.givable (m : Hp) : PV → Prop
  | .ptr id _ => m.z id = true ∧ m.h id ≠ none
  | .osl _ _ _ _ => False
  | .agg cs => PV.givableL m cs
  | .tup cs => PV.givableL m cs
  | .fn _ cs => PV.givableL m cs
  | _ => True
def PV.givableL (m : Hp) : List PV → Prop
  | [] => True
  | c :: cs => PV.givable m c ∧ PV.givableL m cs
end

theorem PV.giveL_length (m : Hp) : ∀ (cs : List PV), (PV.giveL m cs).length = cs.length
  | [] => rfl
  | c :: cs => by simp [PV.giveL, PV.giveL_length m cs]
theorem PV.giveL_getD (m : Hp) : ∀ (cs : List PV) (i : Nat), i < cs.length → (PV.giveL m cs).getD i .any = (cs.getD i .any).give m
  | [], i, h => by simp at h
  | c :: cs, 0, _ => by simp [PV.giveL]
  | c :: cs, i + 1, h => by simpa [PV.giveL] using PV.giveL_getD m cs i (by simpa using h)
theorem PV.givableL_getD {m : Hp} : ∀ {cs : List PV} (h : PV.givableL m cs) (i : Nat), i < cs.length → (cs.getD i .any).givable m
  | [], _, i, h => by simp at h
  | c :: cs, hc, 0, _ => by simpa using hc.1
  | c :: cs, hc, i + 1, h => by simpa using PV.givableL_getD hc.2 i (by simpa using h)

theorem Rep.give (m : Hp) {v : Value} {p : PV} (r : Rep S v p) : Rep S v (p.give m) := by
  induction r with
  | agg vs cs hl _ ih => exact .agg vs _ (by rw [PV.giveL_length]; exact hl) (fun i hi => by rw [PV.giveL_length] at hi; rw [PV.giveL_getD m cs i hi]; exact ih i hi)
  | tup vs cs hl _ ih => exact .tup vs _ (by rw [PV.giveL_length]; exact hl) (fun i hi => by rw [PV.giveL_length] at hi; rw [PV.giveL_getD m cs i hi]; exact ih i hi)
  | fn f vs cs hl _ ih => exact .fn f vs _ (by rw [PV.giveL_length]; exact hl) (fun i hi => by rw [PV.giveL_length] at hi; rw [PV.giveL_getD m cs i hi]; exact ih i hi)
  | any v => exact .any v
  | int k n => exact .int k n
  | bool b => exact .bool b
  | str l => exact .str l
  | flt k b => exact .flt k b
  | cpx k a b => exact .cpx k a b
  | sl0 a cap => exact .sl0 a cap
  | slnil => exact .sl0 none 0
  | sl b o cap sz es vals h1 h2 h3 h4 _ => exact .sl b o cap sz es vals h1 h2 h3 h4
  | rptr b o cs vals h1 h2 _ => exact .rptr b o cs vals h1 h2
  | nilp => exact .nilp
  | nilfn => exact .nilfn
  | nilmap => exact .nilmap
  | mref b => exact .mref b
  | iptr b => exact .iptr b
  | rmap b es ks vs h1 h2 h3 h4 h5 h6 _ _ => exact .rmap b es ks vs h1 h2 h3 h4 h5 h6

theorem RepS.give (hs : Sim B S M s a w) {v : Value} {p : PV} (r : RepS S M s.m.q v p) (h : p.givable s.m) : Rep S v (p.give s.m) := by
  induction r with
  | clean r => exact r.give s.m
  | ptr id off =>
    obtain ⟨h1, h2⟩ := h
    cases hid : s.m.h id with
    | none => exact absurd hid h2
    | some cs =>
      have hb := hs.blk id cs hid
      rw [h1] at hb
      obtain ⟨vals, hv⟩ := hb
      simp only [PV.give, h1, hid]
      refine .rptr (M.φ id) off _ (fun j => vals (off + j)) (fun j hj => ?_) (fun j hj => ?_)
      · simp only [List.length_drop] at hj
        exact (hv (off + j) (by omega)).1
      · simp only [List.length_drop] at hj
        rw [getD_drop]
        exact (hv (off + j) (by omega)).2
  | osl id off len cap sz hc => exact h.elim
  | row id v es r _ => exact r
  | agg vs cs hl _ ih => exact .agg vs _ (by rw [PV.giveL_length]; exact hl) (fun i hi => by rw [PV.giveL_length] at hi; rw [PV.giveL_getD s.m cs i hi]; exact ih i hi (PV.givableL_getD h i hi))
  | tup vs cs hl _ ih => exact .tup vs _ (by rw [PV.giveL_length]; exact hl) (fun i hi => by rw [PV.giveL_length] at hi; rw [PV.giveL_getD s.m cs i hi]; exact ih i hi (PV.givableL_getD h i hi))
  | fn f vs cs hl _ ih => exact .fn f vs _ (by rw [PV.giveL_length]; exact hl) (fun i hi => by rw [PV.giveL_length] at hi; rw [PV.giveL_getD s.m cs i hi]; exact ih i hi (PV.givableL_getD h i hi))

end
end Go.PL

namespace Go.PL
open Go.RowKit
set_option linter.unusedVariables false

def basicB (P : Program) (t : TypeId) : Bool := match P.underlying t with | some (.int _) | some .string | some .bool => true | _ => false
/-- a map's type: the leaves of its keys, the zero value of what it holds -/
def tmap (P : Program) (t : TypeId) : Option (List Leaf × PV) :=
  match P.underlying t with
  | some (.map kt et) => match P.underlying kt with
    | some (.struct fs) => match leaves P eqDepth kt, P.info? et with
      | some ls, some i => match i.zero with
        | some z => if fs.toList.all fun f => basicB P f.type && (decide (f.offset < ls.length) && decide (tsz P f.type = 1)) then some (ls, ofVal z) else none
        | none => none
      | _, _ => none
    | _ => none
  | _ => none
/-- what a map holds -/
def mapOf (m : Hp) : PV → Option MapC
  | .rmap ks vs => some ⟨ks, vs⟩
  | .mref b => m.o b
  | _ => none
/-- where a key stands -/
def findP (ls : List Leaf) (a : List PV) : List PV → Nat → Option (Option Nat)
  | [], _ => some none
  | .agg b :: xs, i => match eqLeaves ls a b with
    | some true => some (some i)
    | some false => findP ls a xs (i + 1)
    | none => none
  | _ :: _, _ => none
def lookV (z : PV) (vs : List PV) (ok : Bool) : Option Nat → PV
  | some i => if ok then .tup [vs.getD i .any, .bool true] else vs.getD i .any
  | none => if ok then .tup [z, .bool false] else z
def aLookup (P : Program) (t : TypeId) (x k : PV) (ok : Bool) (m : Hp) : ARes :=
  match tmap P t, mapOf m x, k with
  | some (ls, z), some c, .agg a => match findP ls a c.ks 0 with
    | some r => ⟨a.length = ls.length, lookV z c.vs ok r, m⟩
    | none => .fail
  | _, _, _ => .fail
def aMapUpdate (P : Program) (t : TypeId) (x k v : PV) (m : Hp) : ARes :=
  match x with
  | .mref b => match tmap P t, m.o b, k with
    | some (ls, _), some c, .agg a => match findP ls a c.ks 0 with
      | some (some i) => ⟨a.length = ls.length ∧ PV.cleanL a = true ∧ v.clean = true, .tup [], { m with o := upd m.o b (some ⟨c.ks, c.vs.set i v.share⟩) }⟩
      | some none => ⟨a.length = ls.length ∧ PV.cleanL a = true ∧ v.clean = true, .tup [], { m with o := upd m.o b (some ⟨c.ks ++ [.agg (PV.shareL a)], c.vs ++ [v.share]⟩) }⟩
      | none => .fail
    | _, _, _ => .fail
  | _ => .fail
/-- the entry at which a walk stands -/
def aEntry (x : PV) (m : Hp) : ARes :=
  match x with
  | .iptr b => match m.it b with
    | some it => match m.o it.b, it.seen.getLast? with
      | some c, some i => ⟨c.ks.length = it.n ∧ i < c.ks.length, .tup [c.ks.getD i .any, c.vs.getD i .any], m⟩
      | _, _ => .fail
    | none => .fail
  | _ => .fail

def isMapPV : PV → Bool
  | .mref _ => true
  | .rmap _ _ => true
  | _ => false
def tmapB (P : Program) (t : TypeId) : Bool := match P.underlying t with | some (.map _ _) => true | _ => false
def aMapLen (P : Program) (t : TypeId) (x : PV) (m : Hp) : ARes :=
  match mapOf m x with
  | some c => ⟨tmapB P t = true, .int .i64 c.ks.length, m⟩
  | none => .fail

section
variable {P : Program} {B : Frm} {S : Stable} {M : Maps} {s : St} {a : Act} {w : World}

theorem tmap_spec {t : TypeId} {ls : List Leaf} {z : PV} (h : tmap P t = some (ls, z)) : ∃ kt et fs i zv, P.underlying t = some (.map kt et) ∧ P.underlying kt = some (.struct fs) ∧ leaves P eqDepth kt = some ls ∧ P.info? et = some i ∧ i.zero = some zv ∧ z = ofVal zv ∧
    ∀ f ∈ fs.toList, basicB P f.type = true ∧ f.offset < ls.length ∧ tsz P f.type = 1 := by
  unfold tmap at h
  split at h
  · rename_i kt et h1
    split at h
    · rename_i fs h2
      split at h
      · rename_i l i h3 h4
        split at h
        · rename_i zv h5
          split at h
          · rename_i h6
            simp only [Option.some.injEq, Prod.mk.injEq] at h
            obtain ⟨rfl, rfl⟩ := h
            exact ⟨kt, et, fs, i, zv, h1, h2, h3, h4, h5, rfl, fun f hf => by
              have := List.all_eq_true.1 h6 f hf
              simpa using this⟩
          · cases h
        · cases h
      · cases h
    · cases h
  · cases h

theorem mapOf_spec (hs : Sim B S M s a w) {v : Value} {x : PV} {c : MapC} (hr : RepS S M s.m.q v x) (hm : mapOf s.m x = some c) :
    ∃ b es, v = .map (some b) ∧ w.heap[b]? = some (.map ⟨es⟩ es.length) ∧ es.length = c.ks.length ∧ c.vs.length = c.ks.length ∧
      (∀ i, i < c.ks.length → (es.getD i default).born = i) ∧ (∀ i, i < c.ks.length → Rep S (es.getD i default).key (c.ks.getD i .any)) ∧ (∀ i, i < c.ks.length → Rep S (es.getD i default).val (c.vs.getD i .any)) := by
  cases x with
  | rmap ks vs =>
    simp only [mapOf, Option.some.injEq] at hm
    subst hm
    cases hr with
    | clean r =>
      cases r with
      | rmap b es _ _ hS hk hv hb hK hV => exact ⟨b, es, rfl, hs.stable.s.m b es hS, hk, hv, hb, hK, hV⟩
  | mref b =>
    simp only [mapOf] at hm
    obtain ⟨_, _, es, h1, h2, h3, h4, h5, h6⟩ := hs.stable.o b c hm
    have e : v = .map (some b) := by cases hr with | clean r => cases r; rfl
    exact ⟨b, es, e, h1, h2, h3, h4, h5, h6⟩
  | _ => simp [mapOf] at hm

theorem sound_mapLen (hs : Sim B S M s a w) {t ty : TypeId} {u : Value} {p : PV} (hu : RepS S M s.m.q u p) (hok : (aMapLen P t p s.m).ok) : Snd P B S s a w (Builtin.len_ #[t] ty #[u]) (aMapLen P t p s.m) := by
  revert hok
  unfold aMapLen
  split
  · rename_i c hm
    intro hk
    simp only at hk
    obtain ⟨b, es, rfl, e1, e2, _⟩ := mapOf_spec hs hu hm
    unfold tmapB at hk
    split at hk
    · rename_i k e h1
      have hg := MapKept.run_getObj_map (P := P) e1
      refine Snd.clean hs (v := .int .i64 c.ks.length) ?_ (.int _ _)
      simp [Builtin.len_, run_underlying h1, hg, goInt, e2]
    · cases hk
  · exact fun h => h.elim

theorem run_checkKey_flat {kt : TypeId} {fs : Array Field} {vs : List Value} (hu : P.underlying kt = some (.struct fs)) (hf : ∀ f ∈ fs.toList, basicB P f.type = true ∧ f.offset < vs.length ∧ tsz P f.type = 1) (em : Bool) (n : Nat) (w : World) :
    (Instr.checkKey em (n + 2) kt (.agg ⟨vs⟩)).run P w = .ok () w := by
  obtain ⟨fs⟩ := fs
  have step : ∀ f ∈ fs, ∃ v, (part f.type ⟨vs⟩ f.offset).run P w = .ok v w ∧ (Instr.checkKey em (n + 1) f.type v).run P w = .ok () w := fun f hm => by
    obtain ⟨h1, h2, h3⟩ := hf f hm
    have hb : ∃ d, P.underlying f.type = some d ∧ tagg P f.type = false ∧ ∀ v, (Instr.checkKey em (n + 1) f.type v).run P w = .ok () w := by
      unfold basicB at h1
      split at h1
      · rename_i k hk; exact ⟨_, hk, by simp [tagg, hk], fun v => by simp [Instr.checkKey, run_underlying hk]⟩
      · rename_i hk; exact ⟨_, hk, by simp [tagg, hk], fun v => by simp [Instr.checkKey, run_underlying hk]⟩
      · rename_i hk; exact ⟨_, hk, by simp [tagg, hk], fun v => by simp [Instr.checkKey, run_underlying hk]⟩
      · cases h1
    obtain ⟨d, hd, ht, hc⟩ := hb
    exact ⟨_, run_part_val hd (by omega) (fun _ => h3) w, hc _⟩
  have loop : ∀ (l : List Field), (∀ f ∈ l, f ∈ fs) → (forIn l PUnit.unit (fun f (_ : PUnit) => (if f.name ≠ "_" then (do let x ← part f.type ⟨vs⟩ f.offset; Instr.checkKey em (n + 1) f.type x; Pure.pure (ForInStep.yield PUnit.unit)) else Pure.pure (ForInStep.yield PUnit.unit) : Sem (ForInStep PUnit)))).run P w = .ok PUnit.unit w := by
    intro l
    induction l with
    | nil => intro _; simp
    | cons f l ih =>
      intro hl
      obtain ⟨v, h1, h2⟩ := step f (hl f (by simp))
      rw [List.forIn_cons]
      by_cases hn : f.name ≠ "_"
      · simp only [hn, ne_eq, not_false_eq_true, if_true, Sem.run_bind, h1, h2, Result.andThen_ok, Sem.run_pure]
        simpa using ih (fun g hg => hl g (by simp [hg]))
      · simp only [hn, if_false, Sem.run_bind, Result.andThen_ok, Sem.run_pure]
        simpa using ih (fun g hg => hl g (by simp [hg]))
  have := loop fs (fun _ h => h)
  unfold Instr.checkKey
  simp only [Sem.run_bind, run_underlying hu, Result.andThen_ok]
  simp at this ⊢
  rw [this]
  rfl

theorem find_ok {kt : TypeId} {ls : List Leaf} {vs : List Value} {cs : List PV} {q : Rows} (hl : leaves P eqDepth kt = some ls) (ht : tagg P kt = true) (hk : RepL S M q vs cs) (w : World) :
    ∀ (es : List MapEntry) (ks : List PV) (i : Nat) (r : Option Nat), es.length = ks.length → (∀ j, j < ks.length → Rep S (es.getD j default).key (ks.getD j .any)) → findP ls cs ks i = some r →
      (Instr.findAsking kt (.agg ⟨vs⟩) es i).run P w = .ok (r.map fun j => (j, (es.getD (j - i) default).val)) w ∧ (∀ j, r = some j → i ≤ j ∧ j < i + ks.length ∧ ∃ ds, ks.getD (j - i) .any = .agg ds ∧ eqLeaves ls cs ds = some true)
  | [], [], i, r, _, _, h => by
    simp only [findP, Option.some.injEq] at h
    subst h
    exact ⟨by simp [Instr.findAsking], by simp⟩
  | e :: es, k :: ks, i, r, hlen, hK, h => by
    have hk0 := hK 0 (by simp)
    simp only [List.getD_cons_zero] at hk0
    cases k with
    | agg ds =>
      simp only [findP] at h
      obtain ⟨us, hus, hl2, hru⟩ := (RepS.clean (S := S) (M := M) (q := q) hk0).agg_inv
      have heq : ∀ {b}, eqLeaves ls cs ds = some b → (Op.equal kt (.agg ⟨vs⟩) e.key).run P w = .ok b w := fun {b} hb => by
        have := eq_ok (S := S) (M := M) (h := q) eqDepth kt ls hl Op.maxDepth (by decide) vs us cs ds b hk ⟨hl2, hru⟩ hb w
        rw [hus]
        simpa [cellsVal, ht, Op.equal] using this
      cases hb : eqLeaves ls cs ds with
      | none => rw [hb] at h; cases h
      | some b =>
        rw [hb] at h
        cases b with
        | true =>
          simp only [Option.some.injEq] at h
          subst h
          refine ⟨by simp [Instr.findAsking, heq hb], fun j hj => ?_⟩
          cases hj
          exact ⟨Nat.le_refl _, by simp, ds, by simp, hb⟩
        | false =>
          simp only at h
          obtain ⟨h1, h2⟩ := find_ok hl ht hk w es ks (i + 1) r (by simpa using hlen) (fun j hj => by simpa using hK (j + 1) (by simpa using hj)) h
          refine ⟨?_, fun j hj => ?_⟩
          · simp only [Instr.findAsking, Sem.run_bind, heq hb, Result.andThen_ok, Bool.false_eq_true, if_false, h1]
            cases r with
            | none => rfl
            | some j =>
              obtain ⟨g1, g2, _⟩ := h2 j rfl
              have : j - i = (j - (i + 1)) + 1 := by omega
              simp only [Option.map_some, this, List.getD_cons_succ]
          · obtain ⟨g1, g2, ds', g3, g4⟩ := h2 j hj
            have : j - i = (j - (i + 1)) + 1 := by omega
            exact ⟨by omega, by simp; omega, ds', by rw [this, List.getD_cons_succ]; exact g3, g4⟩
    | _ => simp [findP] at h
  | [], _ :: _, _, _, hlen, _, _ => by simp at hlen
  | _ :: _, [], _, _, hlen, _, _ => by simp at hlen

theorem sound_lookup (hs : Sim B S M s a w) {t : TypeId} {u v : Value} {x k : PV} {ok : Bool} (hu : RepS S M s.m.q u x) (hv : RepS S M s.m.q v k) (hok : (aLookup P t x k ok s.m).ok) : Snd P B S s a w (Instr.lookup t u v ok) (aLookup P t x k ok s.m) := by
  revert hok
  unfold aLookup
  split
  · rename_i ls z c cs h1 h2
    split
    · rename_i r hr
      intro hlen
      obtain ⟨kt, et, fs, i, zv, t1, t2, t3, t4, t5, rfl, t6⟩ := tmap_spec h1
      obtain ⟨b, es, rfl, e1, e2, e3, e4, e5, e6⟩ := mapOf_spec hs hu h2
      obtain ⟨vs, rfl, hl, hrv⟩ := hv.agg_inv
      have ht : tagg P kt = true := by simp [tagg, t2]
      obtain ⟨f1, f2⟩ := find_ok (S := S) (M := M) (q := s.m.q) t3 ht ⟨hl, hrv⟩ w es c.ks 0 r e2 e5 hr
      have hck := run_checkKey_flat (vs := vs) t2 (fun f hf => by rw [hl, hlen]; exact t6 f hf) (⟨es⟩ : Array MapEntry).isEmpty 9998 w
      have hfk : (Instr.findKey kt (.agg ⟨vs⟩) es).run P w = .ok (r.map fun j => (j, (es.getD (j - 0) default).val)) w := by
        rw [run_findKey_eq w (by rw [t2]) (.agg ⟨vs⟩) es]; exact f1
      have hz : (zeroValue et).run P w = .ok zv w := by simp [zeroValue, run_inf t4, t5]
      have hg := MapKept.run_getObj_map (P := P) e1
      cases r with
      | none =>
        refine Snd.clean hs (v := if ok then .tuple #[zv, .bool false] else zv) ?_ ?_
        · simp only [Instr.lookup, Sem.run_bind, run_underlying t1, Result.andThen_ok, hg, Sem.run_pure, hck, hfk, Option.map_none, hz]
        · cases ok
          · exact rep_ofVal S zv
          · refine .tup [zv, .bool false] [ofVal zv, .bool false] rfl (fun i hi => ?_)
            match i, hi with
            | 0, _ => exact rep_ofVal S zv
            | 1, _ => exact .bool _
      | some j =>
        obtain ⟨_, g2, _⟩ := f2 j rfl
        have hval := e6 j (by omega)
        refine Snd.clean hs (v := if ok then .tuple #[(es.getD j default).val, .bool true] else (es.getD j default).val) ?_ ?_
        · simp only [Instr.lookup, Sem.run_bind, run_underlying t1, Result.andThen_ok, hg, Sem.run_pure, hck, hfk, Option.map_some, Nat.sub_zero]
        · cases ok
          · exact hval
          · refine .tup [_, .bool true] [_, .bool true] rfl (fun i hi => ?_)
            match i, hi with
            | 0, _ => exact hval
            | 1, _ => exact .bool _
    · exact fun h => h.elim
  · exact fun h => h.elim

/-- a block that holds a map or a walk, laid anew -/
theorem Sim.special (hs : Sim B S M s a w) {w' : World} {b : Nat} (hb : ∀ vs t f, w.heap[b]? ≠ some (.cells vs t f)) (hw : ∀ k, k ≠ b → w'.heap[k]? = w.heap[k]?) (hsz : w'.heap.size = w.heap.size)
    {o' : Nat → Option MapC} {it' : Nat → Option IterC} (hst : Stab B S w' o' it') : Sim B S M (s.with { s.m with o := o', it := it' }) a w' := by
  refine ⟨hs.defers, hs.hn, fun k hk => by rw [hsz]; exact hs.hB k hk, hst, hs.fr, hs.ids, fun i cs hi => ?_, fun i r hi => ?_, hs.inj, hs.injq, hs.injx⟩
  · have h' := hs.blk i cs hi
    show BlkOk _ _ _ _ _ _ _ (s.m.z i)
    cases hz : s.m.z i with
    | false =>
      rw [hz] at h'
      obtain ⟨g1, g2, ⟨us, t', g3, g4, g5⟩, g6⟩ := h'
      exact ⟨g1, g2, ⟨us, t', by rw [hw _ (fun e => hb _ _ _ (e ▸ g3))]; exact g3, g4, g5⟩, g6⟩
    | true => rw [hz] at h'; exact h'
  · have h' := hs.row i r hi
    cases r with
    | live n sz e =>
      obtain ⟨g1, g2⟩ := h'
      refine ⟨g1, fun c hc => ?_⟩
      obtain ⟨k0, k1, k2, ⟨us, k3, k4⟩, k5⟩ := g2 c hc
      exact ⟨k0, k1, k2, ⟨us, by rw [hw _ (fun e => hb _ _ _ (e ▸ k3))]; exact k3, k4⟩, k5⟩
    | dead => trivial

theorem setObj_at {w : World} {b : Nat} {o o' : Obj} (h : w.heap[b]? = some o) : ({ w with heap := w.heap.setIfInBounds b o' } : World).heap[b]? = some o' ∧ ∀ k, k ≠ b → ({ w with heap := w.heap.setIfInBounds b o' } : World).heap[k]? = w.heap[k]? :=
  MapKept.heap_set h
theorem stabS_special {w' : World} {b : Nat} (hs : StabS S w) (hb : ∀ vs t f, w.heap[b]? ≠ some (.cells vs t f)) (hm : S.m b = none) (hw : ∀ k, k ≠ b → w'.heap[k]? = w.heap[k]?) : StabS S w' := by
  refine ⟨fun k o v h => ?_, fun k es h => ?_⟩
  · have h' := hs.c k o v h
    have hk : k ≠ b := fun e => by
      subst e
      unfold World.cell? at h'
      simp only at h'
      cases h'
    rw [← h']; exact World.cell?_of_block (hw k hk)
  · rw [hw k (fun e => by subst e; rw [hm] at h; cases h)]; exact hs.m k es h

theorem eqLeaf_same {l : Leaf} {c d : PV} {q : Rows} {u v : Value} (h : eqLeaf l c d = some true) (hu : RepS S M q u c) (hv : RepS S M q v d) : u = v ∧ ∀ n, Instr.sameBits n v v = true := by
  cases l with
  | int =>
    obtain ⟨k, x, y, rfl, rfl, e⟩ := eqLeaf_int h
    have e : x = y := by simpa using e.symm
    subst e
    exact ⟨by rw [hu.int_inv, hv.int_inv], fun n => by rw [hv.int_inv]; simp [Instr.sameBits]⟩
  | bool =>
    obtain ⟨x, y, rfl, rfl, e⟩ := eqLeaf_bool h
    have e : x = y := by simpa using e.symm
    subst e
    exact ⟨by rw [hu.bool_inv, hv.bool_inv], fun n => by rw [hv.bool_inv]; simp [Instr.sameBits]⟩
  | str =>
    obtain ⟨x, y, rfl, rfl, e⟩ := eqLeaf_str h
    have e : x = y := by simpa using e.symm
    subst e
    exact ⟨by rw [hu.str_inv, hv.str_inv], fun n => by rw [hv.str_inv]; simp only [Instr.sameBits]; exact (MapKept.bytes_beq _ _).2 rfl⟩
theorem eqLeaves_same {q : Rows} : ∀ {ls : List Leaf} {cs ds : List PV} {us vs : List Value}, eqLeaves ls cs ds = some true → RepL S M q us cs → RepL S M q vs ds → us = vs ∧ ∀ v ∈ vs, ∀ n, Instr.sameBits n v v = true
  | [], [], [], us, vs, _, hu, hv => by
    have e1 : us = [] := by have := hu.1; simpa using this
    have e2 : vs = [] := by have := hv.1; simpa using this
    subst e1; subst e2
    exact ⟨rfl, fun v hv => by cases hv⟩
  | l :: ls, c :: cs, d :: ds, u :: us, v :: vs, h, hu, hv => by
    simp only [eqLeaves] at h
    split at h
    · rename_i x y h1 h2
      simp only [Option.some.injEq, Bool.and_eq_true] at h
      obtain ⟨rfl, rfl⟩ := h
      obtain ⟨a1, a2⟩ := hu.cons
      obtain ⟨b1, b2⟩ := hv.cons
      obtain ⟨rfl, e1⟩ := eqLeaf_same h1 a1 b1
      obtain ⟨rfl, e2⟩ := eqLeaves_same h2 a2 b2
      refine ⟨rfl, fun x hx => ?_⟩
      rcases List.mem_cons.1 hx with rfl | hx
      · exact e1
      · exact e2 x hx
    · cases h
  | [], c :: cs, _, _, _, h, _, _ => by simp [eqLeaves] at h
  | [], [], d :: ds, _, _, h, _, _ => by simp [eqLeaves] at h
  | l :: ls, [], _, _, _, h, _, _ => by simp [eqLeaves] at h
  | l :: ls, c :: cs, [], _, _, h, _, _ => by simp [eqLeaves] at h
  | l :: ls, c :: cs, d :: ds, [], _, _, hu, _ => by have := hu.1; simp at this
  | l :: ls, c :: cs, d :: ds, _ :: _, [], _, _, hv => by have := hv.1; simp at this

theorem sound_mapUpdate (hs : Sim B S M s a w) {t : TypeId} {u v z : Value} {x k y : PV} (hu : RepS S M s.m.q u x) (hv : RepS S M s.m.q v k) (hy : RepS S M s.m.q z y) (hok : (aMapUpdate P t x k y s.m).ok) :
    SndU P B S s a w (Instr.mapUpdate t u v z) (aMapUpdate P t x k y s.m) := by
  revert hok
  unfold aMapUpdate
  split
  · rename_i b
    split
    · rename_i ls zz c cs h1 h2
      obtain ⟨kt, et, fs, i, zv, t1, t2, t3, t4, t5, rfl, t6⟩ := tmap_spec h1
      have hu' : u = .map (some b) := by cases hu with | clean r => cases r; rfl
      subst hu'
      obtain ⟨o1, o2, es, e1, e2, e3, e4, e5, e6⟩ := hs.stable.o b c h2
      obtain ⟨vs, rfl, hl, hrv⟩ := hv.agg_inv
      have ht : tagg P kt = true := by simp [tagg, t2]
      have hg := MapKept.run_getObj_map (P := P) e1
      have hnc : ∀ vs t f, w.heap[b]? ≠ some (.cells vs t f) := fun vs t f h => by rw [e1] at h; cases h
      have hck : ∀ (hlen : cs.length = ls.length), (Instr.checkKey false 10000 kt (.agg ⟨vs⟩)).run P w = .ok () w := fun hlen => run_checkKey_flat (vs := vs) t2 (fun f hf => by rw [hl, hlen]; exact t6 f hf) false 9998 w
      have main : ∀ (es' : List MapEntry) (c' : MapC), (Instr.mapUpdate t (.map (some b)) (.agg ⟨vs⟩) z).run P w = .ok () { w with heap := w.heap.setIfInBounds b (.map ⟨es'⟩ es'.length) } →
          es'.length = c'.ks.length → c'.vs.length = c'.ks.length → (∀ i, i < c'.ks.length → (es'.getD i default).born = i) → (∀ i, i < c'.ks.length → Rep S (es'.getD i default).key (c'.ks.getD i .any)) → (∀ i, i < c'.ks.length → Rep S (es'.getD i default).val (c'.vs.getD i .any)) →
          SndU P B S s a w (Instr.mapUpdate t (.map (some b)) (.agg ⟨vs⟩) z) ⟨cs.length = ls.length ∧ PV.cleanL cs = true ∧ y.clean = true, .tup [], { s.m with o := upd s.m.o b (some c') }⟩ := by
        intro es' c' hrun g1 g2 g3 g4 g5
        obtain ⟨w1, w2⟩ := setObj_at (o' := .map ⟨es'⟩ es'.length) e1
        refine ⟨_, S, M, hrun, hs.special hnc w2 (by simp) ⟨stabS_special hs.stable.s hnc o2 w2, fun b2 c2 hc2 => ?_, fun b2 x2 hx2 => ?_⟩, rfl, SLe.refl _, fun _ _ => ⟨fun _ => rfl, rfl⟩, ⟨rfl, rfl, rfl, by simp, fun k hk => w2 k (fun e => o1 (e ▸ hk))⟩⟩
        · by_cases e : b = b2
          · subst e
            rw [upd_same] at hc2
            cases hc2
            exact ⟨o1, o2, es', w1, g1, g2, g3, g4, g5⟩
          · rw [upd_ne _ _ e] at hc2
            obtain ⟨q1, q2, q3⟩ := hs.stable.o b2 c2 hc2
            exact ⟨q1, q2, q3.move (SLe.refl _) (w2 b2 (Ne.symm e))⟩
        · obtain ⟨q1, q2⟩ := hs.stable.i b2 x2 hx2
          refine ⟨q1, ?_⟩
          unfold IterAt at q2 ⊢
          rw [w2 b2 (fun e => by subst e; rw [e1] at q2; cases q2)]
          exact q2
      split
      · rename_i j hf
        rintro ⟨hlen, hc1, hc2⟩
        obtain ⟨f1, f2⟩ := find_ok (S := S) (M := M) (q := s.m.q) t3 ht ⟨hl, hrv⟩ w es c.ks 0 _ e2 e5 hf
        obtain ⟨_, g2, ds, g3, g4⟩ := f2 j rfl
        have hj : j < c.ks.length := by omega
        rw [Nat.sub_zero] at g3
        have hkj := e5 j hj
        rw [g3] at hkj
        obtain ⟨us, hus, hul, hru⟩ := (RepS.clean (S := S) (M := M) (q := s.m.q) hkj).agg_inv
        obtain ⟨hsame, hbits⟩ := eqLeaves_same g4 ⟨hl, hrv⟩ ⟨hul, hru⟩
        subst hsame
        have hjl : j < es.length := by omega
        have hkey : (es.getD j default).key = .agg ⟨vs⟩ := hus
        have hsb : Instr.sameBits 10000 (.agg ⟨vs⟩) (.agg ⟨vs⟩) = true := by
          simp only [Instr.sameBits, BEq.rfl, Bool.true_and]
          rw [List.all_eq_true]
          rintro ⟨p, q⟩ hpq
          rw [List.zip_eq_zipWith] at hpq
          simp only at hpq ⊢
          obtain ⟨n, hn, hpn⟩ := List.getElem_of_mem hpq
          simp only [List.getElem_zipWith] at hpn
          cases hpn
          exact hbits _ (List.getElem_mem _) _
        have hfk : (Instr.findKey kt (.agg ⟨vs⟩) es).run P w = .ok (some (j, (es.getD j default).val)) w := by
          rw [run_findKey_eq w (by rw [t2]) (.agg ⟨vs⟩) es]; simpa using f1
        have hej : (⟨es⟩ : Array MapEntry)[j]? = some (es.getD j default) := by
          rw [getD_lt hjl]; simp [hjl]
        have hmod : (⟨es⟩ : Array MapEntry).modify j (fun e => { e with key := .agg ⟨vs⟩, val := z }) = ⟨es.set j { es.getD j default with key := .agg ⟨vs⟩, val := z }⟩ := by
          apply Array.ext'
          apply List.ext_getElem?
          intro n
          rw [Array.getElem?_toList, Array.getElem?_modify]
          simp only [List.getElem?_set]
          by_cases e : j = n
          · subst e; simp [hjl, getD_lt hjl]
          · simp [e]
        have hrun : (Instr.mapUpdate t (.map (some b)) (.agg ⟨vs⟩) z).run P w = .ok () { w with heap := w.heap.setIfInBounds b (.map ⟨es.set j { es.getD j default with key := .agg ⟨vs⟩, val := z }⟩ es.length) } := by
          have hks : (Instr.keyThatStays (.agg ⟨vs⟩) (.agg ⟨vs⟩)).run P w = .ok (.agg ⟨vs⟩) w := by simp [Instr.keyThatStays, hsb]
          simp only [Instr.mapUpdate, Sem.run_bind, run_underlying t1, Result.andThen_ok, hg, hck hlen, hfk, hej, Option.map_some, Option.getD_some, hkey, hks, hmod]
          exact MapKept.run_setObj_map _ e1
        have hsetlen : (es.set j { es.getD j default with key := .agg ⟨vs⟩, val := z }).length = es.length := by simp
        have hget : ∀ i, i < c.ks.length → (es.set j { es.getD j default with key := .agg ⟨vs⟩, val := z }).getD i default = if i = j then { es.getD j default with key := .agg ⟨vs⟩, val := z } else es.getD i default := fun i hi => by
          rw [getD_lt (by simp; omega), List.getElem_set]
          by_cases e : j = i
          · subst e; simp
          · rw [if_neg e, if_neg (Ne.symm e)]; exact (getD_lt (by omega)).symm
        refine main (es.set j { es.getD j default with key := .agg ⟨vs⟩, val := z }) ⟨c.ks, c.vs.set j y.share⟩ (by rw [hsetlen]; exact hrun) (by rw [hsetlen]; exact e2) (by simp [e3]) (fun i hi => ?_) (fun i hi => ?_) (fun i hi => ?_)
        · rw [hget i hi]
          split
          · rename_i e; subst e; exact e4 i hi
          · exact e4 i hi
        · rw [hget i hi]
          split
          · rename_i e; subst e; rw [← hkey]; exact e5 i hi
          · exact e5 i hi
        · rw [hget i hi]
          have hgv : (c.vs.set j y.share).getD i .any = if i = j then y.share else c.vs.getD i .any := by
            simp only at hi
            rw [getD_lt (by simp; omega), List.getElem_set]
            by_cases e : j = i
            · subst e; simp
            · rw [if_neg e, if_neg (Ne.symm e)]; exact (getD_lt (by omega)).symm
          show Rep S _ ((c.vs.set j y.share).getD i .any)
          rw [hgv]
          split
          · exact hy.share hc2
          · exact e6 i hi
      · rename_i hf
        rintro ⟨hlen, hc1, hc2⟩
        obtain ⟨f1, f2⟩ := find_ok (S := S) (M := M) (q := s.m.q) t3 ht ⟨hl, hrv⟩ w es c.ks 0 _ e2 e5 hf
        have hfk : (Instr.findKey kt (.agg ⟨vs⟩) es).run P w = .ok none w := by
          rw [run_findKey_eq w (by rw [t2]) (.agg ⟨vs⟩) es]; simpa using f1
        have hrun : (Instr.mapUpdate t (.map (some b)) (.agg ⟨vs⟩) z).run P w = .ok () { w with heap := w.heap.setIfInBounds b (.map ⟨es ++ [{ key := .agg ⟨vs⟩, val := z, born := es.length }]⟩ (es.length + 1)) } := by
          simp only [Instr.mapUpdate, Sem.run_bind, run_underlying t1, Result.andThen_ok, hg, hck hlen, hfk, List.push_toArray]
          exact MapKept.run_setObj_map _ e1
        have hget : ∀ i, i < c.ks.length + 1 → (es ++ [({ key := .agg ⟨vs⟩, val := z, born := es.length } : MapEntry)]).getD i default = if i < c.ks.length then es.getD i default else { key := .agg ⟨vs⟩, val := z, born := es.length } := fun i hi => by
          by_cases e : i < c.ks.length
          · rw [if_pos e, getD_append_left (by omega)]
          · rw [if_neg e, getD_append_right (by omega)]
            have : i - es.length = 0 := by omega
            simp [this]
        have hkc : Rep S (.agg ⟨vs⟩) (.agg (PV.shareL cs)) := (RepS.agg (S := S) (M := M) (q := s.m.q) vs cs hl hrv).share hc1
        refine main (es ++ [{ key := .agg ⟨vs⟩, val := z, born := es.length }]) ⟨c.ks ++ [.agg (PV.shareL cs)], c.vs ++ [y.share]⟩ (by simpa using hrun) (by simp [e2]) (by simp [e3]) (fun i hi => ?_) (fun i hi => ?_) (fun i hi => ?_)
        · simp only [List.length_append, List.length_cons, List.length_nil] at hi
          rw [hget i (by omega)]
          split
          · rename_i e; exact e4 i e
          · show es.length = i; omega
        · simp only [List.length_append, List.length_cons, List.length_nil] at hi
          rw [hget i (by omega)]
          show Rep S _ ((c.ks ++ [PV.agg (PV.shareL cs)]).getD i .any)
          split
          · rename_i e; rw [getD_append_left e]; exact e5 i e
          · rename_i e
            rw [getD_append_right (by omega)]
            have : i - c.ks.length = 0 := by omega
            simpa [this] using hkc
        · simp only [List.length_append, List.length_cons, List.length_nil] at hi
          rw [hget i (by omega)]
          show Rep S _ ((c.vs ++ [y.share]).getD i .any)
          split
          · rename_i e; rw [getD_append_left (by omega)]; exact e6 i e
          · rename_i e
            rw [getD_append_right (by omega)]
            have : i - c.vs.length = 0 := by omega
            simpa [this] using hy.share hc2
      · exact fun h => h.elim
    · exact fun h => h.elim
  · exact fun h => h.elim

theorem sound_entry (hs : Sim B S M s a w) {u : Value} {x : PV} (hu : RepS S M s.m.q u x) (hok : (aEntry x s.m).ok) : Snd P B S s a w (Instr.entry u) (aEntry x s.m) := by
  revert hok
  unfold aEntry
  split
  · rename_i b
    split
    · rename_i it h1
      split
      · rename_i c i h2 h3
        rintro ⟨g1, g2⟩
        have hu' : u = .pointer (some ⟨b, 0, none⟩) := by cases hu with | clean r => cases r; rfl
        subst hu'
        obtain ⟨_, i2⟩ := hs.stable.i b it h1
        obtain ⟨o1, o2, es, e1, e2, e3, e4, e5, e6⟩ := hs.stable.o it.b c h2
        unfold IterAt at i2
        have hgi : (getObj b).run P w = .ok (.mapIter (some it.b) it.n ⟨it.seen⟩ it.n) w := by simp [getObj, Sem.run, i2]
        have hg := MapKept.run_getObj_map (P := P) e1
        have hlast : (⟨it.seen⟩ : Array Nat).back? = some i := by rw [List.getLast?_eq_getElem?] at h3; simpa [Array.back?] using h3
        have hfind : (⟨es⟩ : Array MapEntry).find? (fun e => e.born == i) = some (es.getD i default) := by
          simp only [List.find?_toArray]
          have hle : i < es.length := by omega
          rw [List.find?_eq_some_iff_getElem]
          refine ⟨by simpa using e4 i g2, i, hle, (getD_lt hle).symm, fun j hj => ?_⟩
          have := e4 j (by omega)
          rw [getD_lt (by omega)] at this
          simp [this]; omega
        refine Snd.clean hs (v := .tuple #[(es.getD i default).key, (es.getD i default).val]) ?_ ?_
        · have hcl : (es.length != it.n) = false := by simp; omega
          simp only [Instr.entry, Sem.run_bind, hgi, Result.andThen_ok, hlast, hg, hcl, Bool.false_eq_true, if_false, hfind, Sem.run_pure]
        · refine .tup [_, _] [_, _] rfl (fun j hj => ?_)
          match j, hj with
          | 0, _ => exact e5 i g2
          | 1, _ => exact e6 i g2
      · exact fun h => h.elim
    · exact fun h => h.elim
  · exact fun h => h.elim
end
end Go.PL

namespace Go.PL
open Go.RowKit
set_option linter.unusedVariables false

/-- the type has a shape -/
def tkn (P : Program) (t : TypeId) : Bool := (P.underlying t).isSome
/-- a type's zero cells -/
def tzero (P : Program) (t : TypeId) : Option (List PV) := aMakeFull.tbdz P t

def aBuiltin (P : Program) (b : Builtin) (ts : List TypeId) (d : Option Nat) (xs : List PV) (m : Hp) : ARes :=
  match b, ts, xs with
  | .len, [t], [x] => if isMapPV x then aMapLen P t x m else aLen P t x m
  | .append, [t, tx], [x, y] => match d with
    | some d => aAppend P d t tx x y m
    | none => .fail
  | .max, _, [x, y] => aMax x y m
  | .min, _, [x, y] => aMin x y m
  | _, _, _ => .fail

def aop (P : Program) (o : Oper) (ρ : Operand → PV) (m : Hp) : ARes :=
  match o.op with
  | .move x => ⟨True, ρ x, m⟩
  | .assign x => ⟨True, ρ x, m⟩
  | .pick c x y => aPick (ρ c) (ρ x) (ρ y) m
  | .alloc t => match o.dst, tzero P t with
    | some d, some z => ⟨m.h d = none, .ptr d 0, m.new d z⟩
    | _, _ => .fail
  | .box _ x => match o.dst with
    | some d => ⟨m.h d = none ∧ (ρ x).known = true, .ptr d 0, m.new d (ρ x).cells⟩
    | none => .fail
  | .build t parts => aBuild P t (parts.toList.map fun x => (x.1, ρ x.2)) m
  | .buildSlice t len parts => match o.dst with
    | some d => aBuildSlice P d t len (parts.toList.map fun x => (x.1, ρ x.2)) m
    | none => .fail
  | .load t x => if tkn P t then aLoad P t (ρ x) m else .fail
  | .store t x y => if tkn P t then aStore P t (ρ x) (ρ y) m else .fail
  | .nilCheck x => aNilCheck (ρ x) m
  | .binOp op t x y _ => aBin P op t (ρ x) (ρ y) m
  | .unOp op _ x => aUn op (ρ x) m
  | .convert src dst x => aConv P src dst (ρ x) m
  | .makeFunc (.func f) first caps => if first.isEmpty then ⟨capsOk m (caps.toList.map ρ), .fn f (caps.toList.map ρ), frozenBy m (caps.toList.map ρ)⟩ else .fail
  | .makeSlice t l c => match o.dst with
    | some d => match l with
      | .const (.int _ 0) => aMakeRow P d t (ρ c) m
      | _ => aMakeFull P d t (ρ l) (ρ c) m
    | none => .fail
  | .slice t x lo hi mx => if mx.isNone then aSlice P t (ρ x) (lo.map ρ) (hi.map ρ) m else .fail
  | .fieldAddr t x f => aFieldAddr P t (ρ x) f m
  | .field t x f => aField P t (ρ x) f m
  | .indexAddr t x i => aIndexAddr P t (ρ x) (ρ i) m
  | .index t x i => aIndex P t (ρ x) (ρ i) m
  | .extract x i => aExtract (ρ x) i m
  | .lookup t x k ok => aLookup P t (ρ x) (ρ k) ok m
  | .mapUpdate t x k v => aMapUpdate P t (ρ x) (ρ k) (ρ v) m
  | .entry x => aEntry (ρ x) m
  | .call { callee := .builtin b, args, argTypes } => aBuiltin P b argTypes.toList o.dst (args.toList.map ρ) m
  | _ => .fail

mutual
/-- what a value leans on, all that lies below it too -/
def PV.dids : PV → List Ref
  | .ptr id _ => [.b id]
  | .osl id _ _ _ => [.b id]
  | .sl (.row id) es => .r id :: PV.didsL es
  | .sl _ es => PV.didsL es
  | .rptr cs => PV.didsL cs
  | .rmap ks vs => PV.didsL ks ++ PV.didsL vs
  | .agg cs => PV.didsL cs
  | .tup cs => PV.didsL cs
  | .fn _ cs => PV.didsL cs
  | _ => []
def PV.didsL : List PV → List Ref
  | [] => []
  | c :: cs => PV.dids c ++ PV.didsL cs
end

/-- what a function of one way does, told of values: WHATEVER MEMORY IT IS CALLED IN -/
def Callable (P : Program) (f : FuncId) : Prop := ∃ fn, P.funcs[f]? = some fn ∧ fn.name ≠ "runtime.NumGoroutine" ∧ fn.body.isSome = true

def Pure (P : Program) (f : FuncId) (args : List PV) (r : PV) : Prop :=
  Callable P f ∧ r.dids = [] ∧ ∀ (w : World) (S : Stable) (vs : List Value), StabS S w → vs.length = args.length → (∀ i, i < args.length → Rep S (vs.getD i undef) (args.getD i .any)) →
    Calls P f ⟨vs⟩ w fun e w' => ∃ v S', e = .returned v ∧ Rep S' v r ∧ StabS S' w' ∧ SLe S S' ∧ (∀ b, b < w.heap.size → (∀ o, S' b o = S b o) ∧ S'.m b = S.m b) ∧ Below w.heap.size w w'

/-- a call: what is called, with what -/
def calleeOf (ρ : Operand → PV) (c : Call) : Option (FuncId × List PV) :=
  match c.callee with
  | .value f => match ρ f with
    | .fn g caps => some (g, c.args.toList.map ρ ++ caps)
    | _ => none
  | _ => none

/-- one operation: the value, and the call's own memory behind it -/
def StepM (P : Program) (o : Oper) (ρ : Operand → PV) (m : Hp) (v : PV) (m' : Hp) : Prop :=
  ((aop P o ρ m).ok ∧ v = (aop P o ρ m).v ∧ m' = (aop P o ρ m).m) ∨
  (∃ c g args, o.op = .call c ∧ calleeOf ρ c = some (g, args) ∧ PV.givableL m args ∧ Pure P g (PV.giveL m args) v ∧ m' = m)

section
variable {P : Program} {B : Frm} {S : Stable} {M : Maps} {s : St} {a : Act} {w : World}

/-- what an operation comes to -/
def Done (P : Program) (B : Frm) (S : Stable) (s : St) (a : Act) (w : World) (o : Oper) (p : PV) (m' : Hp) : Prop :=
  ∀ (next : Act → World → Prop) (Q : Exit → Act → World → Prop), (∀ v w' S' M', Sim B S' M' ((s.with m').put o.dst p) (a.put o.dst v) w' → Ext B S S' w w' → next (a.put o.dst v) w') → o.wp P a w next Q

theorem Done.of_snd {o : Oper} {sm : Sem Value} {r : ARes} (he : (execOp a.eval o).run P w = (sm.run P w).andThen fun v w' => .ok (.value v) w') (hd : ∀ x, o.dst = some x → x < s.n) (h : Snd P B S s a w sm r) : Done P B S s a w o r.v r.m := by
  intro next Q hn
  obtain ⟨v, w', S', M', h1, h2, h3, h4, h5⟩ := h
  unfold Oper.wp
  rw [he, h1]
  exact hn v w' S' M' (h2.put hd h3 h4) h5

theorem Done.of_sndU {o : Oper} {sm : Sem Unit} {r : ARes} (he : (execOp a.eval o).run P w = (sm.run P w).andThen fun _ w' => .ok .skip w') (hd : ∀ x, o.dst = some x → x < s.n) (h : SndU P B S s a w sm r) : Done P B S s a w o r.v r.m := by
  intro next Q hn
  obtain ⟨w', S', M', h1, h2, h3, h4⟩ := h
  unfold Oper.wp
  rw [he, h1]
  refine hn undef w' S' M' (h2.put hd ?_ ?_) h4
  · rw [h3]; exact .clean (.tup [] [] rfl (fun i hi => by simp at hi))
  · rw [h3]; simp [PV.ids, PV.idsL]

theorem map_getD {f : Operand → PV} {g : Operand → Value} {l : List Operand} (h : ∀ x, RepS S M s.m.q (g x) (f x)) : ∀ i, i < (l.map f).length → RepS S M s.m.q ((l.map g).getD i undef) ((l.map f).getD i .any) := by
  intro i hi
  simp only [List.length_map] at hi
  rw [getD_lt (by simpa using hi), getD_lt (by simpa using hi)]
  simp only [List.getElem_map]
  exact h _

theorem run_v {sm : Sem Value} : (do Pure.pure (Next.value (← sm)) : Sem Next).run P w = (sm.run P w).andThen fun v w' => .ok (.value v) w' := by
  simp
theorem run_u {sm : Sem Unit} : (do sm; Pure.pure Next.skip : Sem Next).run P w = (sm.run P w).andThen fun _ w' => .ok .skip w' := by
  simp

theorem parts_ok (hs : Sim B S M s a w) (parts : List (Nat × Operand)) : (parts.map fun x => (x.1, a.eval x.2)).length = (parts.map fun x => (x.1, s.eval x.2)).length ∧
    (∀ i, i < (parts.map fun x => (x.1, s.eval x.2)).length → ((parts.map fun x => (x.1, a.eval x.2)).getD i (0, undef)).1 = ((parts.map fun x => (x.1, s.eval x.2)).getD i (0, .any)).1 ∧
      RepS S M s.m.q ((parts.map fun x => (x.1, a.eval x.2)).getD i (0, undef)).2 ((parts.map fun x => (x.1, s.eval x.2)).getD i (0, .any)).2) ∧
    ∀ x ∈ (parts.map fun x => (x.1, s.eval x.2)), ∀ i ∈ x.2.ids, Live s.m i := by
  refine ⟨by simp, fun i hi => ?_, fun x hx i hi => ?_⟩
  · simp only [List.length_map] at hi
    rw [getD_lt (by simpa using hi), getD_lt (by simpa using hi)]
    simp only [List.getElem_map]
    exact ⟨trivial, hs.eval _⟩
  · obtain ⟨y, hy, rfl⟩ := List.mem_map.1 hx
    exact hs.eval_ids _ i hi

set_option maxHeartbeats 1000000 in
theorem aop_sound (hs : Sim B S M s a w) {o : Oper} (hd : ∀ x, o.dst = some x → x < s.n) (hok : (aop P o s.eval s.m).ok) : Done P B S s a w o (aop P o s.eval s.m).v (aop P o s.eval s.m).m := by
  have E := hs.eval
  have I := hs.eval_ids
  obtain ⟨dst, op, ty, pos, after, guard⟩ := o
  unfold aop at hok ⊢
  simp only at hok ⊢ hd
  have mv : ∀ x : Operand, op = .move x ∨ op = .assign x → Done P B S s a w ⟨dst, op, ty, pos, after, guard⟩ (s.eval x) s.m := by
    intro x hx next Q hn
    unfold Oper.wp
    have : (execOp a.eval ⟨dst, op, ty, pos, after, guard⟩).run P w = .ok (.value (a.eval x)) w := by rcases hx with rfl | rfl <;> rfl
    rw [this]
    exact hn _ w S M (hs.put hd (E x) (I x)) (Ext.refl _ _ _)
  cases op with
  | move x => exact mv x (.inl rfl)
  | assign x => exact mv x (.inr rfl)
  | pick c x y =>
    have ec := E c
    revert hok
    show (aPick (s.eval c) (s.eval x) (s.eval y) s.m).ok → Done P B S s a w _ (aPick (s.eval c) (s.eval x) (s.eval y) s.m).v (aPick (s.eval c) (s.eval x) (s.eval y) s.m).m
    unfold aPick
    split
    · rename_i hc
      intro _ next Q hn
      rw [hc] at ec
      unfold Oper.wp
      have : (execOp a.eval ⟨dst, .pick c x y, ty, pos, after, guard⟩).run P w = .ok (.value (a.eval x)) w := by simp [execOp, ec.bool_inv, asBool]
      rw [this]
      exact hn _ w S M (hs.put hd (E x) (I x)) (Ext.refl _ _ _)
    · rename_i hc
      intro _ next Q hn
      rw [hc] at ec
      unfold Oper.wp
      have : (execOp a.eval ⟨dst, .pick c x y, ty, pos, after, guard⟩).run P w = .ok (.value (a.eval y)) w := by simp [execOp, ec.bool_inv, asBool]
      rw [this]
      exact hn _ w S M (hs.put hd (E y) (I y)) (Ext.refl _ _ _)
    · exact fun h => h.elim
  | alloc t =>
    simp only at hok ⊢
    cases dst with
    | none => exact hok.elim
    | some d =>
      cases hz : tzero P t with
      | none => simp only [hz] at hok; exact hok.elim
      | some z =>
        simp only [hz] at hok ⊢
        unfold tzero aMakeFull.tbdz at hz
        split at hz
        · rename_i i hi
          split at hz
          · rename_i zv hzv
            split at hz
            · rename_i hk
              cases hz
              exact Done.of_snd (sm := Instr.alloc t true (.tuple #[])) run_v hd (sound_alloc hs hi hzv hok hk (s.m.h d = none))
            · cases hz
          · cases hz
        · cases hz
  | box t x =>
    simp only at hok ⊢
    cases dst with
    | none => exact hok.elim
    | some d => exact Done.of_snd (sm := Instr.box t (a.eval x)) run_v hd (sound_box hs (E x) (I x) hok.1 hok.2 _)
  | build t parts =>
    obtain ⟨parts⟩ := parts
    simp only at hok ⊢
    obtain ⟨p1, p2, p3⟩ := parts_ok hs parts
    exact Done.of_snd (sm := Instr.build t ⟨parts.map fun x => (x.1, a.eval x.2)⟩) (by simp [execOp]) hd (sound_build hs p1 p2 p3 hok)
  | buildSlice t len parts =>
    obtain ⟨parts⟩ := parts
    simp only at hok ⊢
    cases dst with
    | none => exact hok.elim
    | some d =>
      obtain ⟨p1, p2, p3⟩ := parts_ok hs parts
      exact Done.of_snd (sm := Instr.buildSlice t len ⟨parts.map fun x => (x.1, a.eval x.2)⟩) (by simp [execOp]) hd (sound_buildSlice hs p1 p2 hok)
  | load t x =>
    simp only at hok ⊢
    split at hok
    · rename_i hk
      rw [if_pos hk]
      exact Done.of_snd (sm := Instr.loadAt t (a.eval x)) run_v hd (sound_load hs (E x) (by intro h; simp [tkn, h] at hk) hok)
    · exact hok.elim
  | store t x y =>
    simp only at hok ⊢
    split at hok
    · rename_i hk
      rw [if_pos hk]
      exact Done.of_sndU (sm := Instr.storeAt t (a.eval x) (a.eval y)) run_u hd (sound_store hs (E x) (E y) (I y) (by intro h; simp [tkn, h] at hk) hok)
    · exact hok.elim
  | nilCheck x =>
    simp only at hok ⊢
    revert hok
    have ex := E x
    have ix := I x
    unfold aNilCheck
    have fin : ∀ {p : PV}, s.eval x = p → (execOp a.eval ⟨dst, .nilCheck x, ty, pos, after, guard⟩).run P w = .ok (.value (a.eval x)) w → Done P B S s a w ⟨dst, .nilCheck x, ty, pos, after, guard⟩ p s.m := by
      intro p hp hrun next Q hn
      unfold Oper.wp
      rw [hrun]
      exact hn _ w S M (hs.put hd (hp ▸ E x) (hp ▸ I x)) (Ext.refl _ _ _)
    split
    · rename_i id off hx
      intro _
      rw [hx] at ex
      exact fin hx (by simp [execOp, ex.ptr_inv])
    · rename_i cs hx
      intro _
      rw [hx] at ex
      obtain ⟨b, o, vals, e, _⟩ := ex.rptr_inv
      exact fin hx (by simp [execOp, e])
    · rename_i f cs hx
      intro _
      rw [hx] at ex
      obtain ⟨vs, e, _⟩ := ex.fn_inv
      exact fin hx (by simp [execOp, e])
    · exact fun h => h.elim
  | binOp op t x y yt => exact Done.of_snd (sm := do eqGuard op t x y (a.eval x) (a.eval y); binOp op t (a.eval x) (a.eval y)) run_v hd (sound_bin hs (E x) (E y) hok)
  | unOp op t x => exact Done.of_snd (sm := Op.unary op (a.eval x)) run_v hd (sound_un hs (E x) hok)
  | convert src d x => exact Done.of_snd (sm := convert src d (a.eval x)) run_v hd (sound_conv hs (E x) hok)
  | makeFunc fn first caps =>
    obtain ⟨caps⟩ := caps
    cases fn with
    | func f =>
      simp only at hok ⊢
      split at hok
      · rename_i hf
        rw [if_pos hf]
        simp only at hok ⊢
        obtain ⟨S', hs', he⟩ := hs.frozenBy _ hok
        intro next Q hn
        unfold Oper.wp
        have hfe : first = #[] := by simpa using hf
        have : (execOp a.eval ⟨dst, .makeFunc (.func f) first ⟨caps⟩, ty, pos, after, guard⟩).run P w = .ok (.value (.func (.func f) #[] ⟨caps.map a.eval⟩)) w := by
          subst hfe
          simp [execOp, Instr.makeFunc]
        rw [this]
        refine hn _ w S' M (hs'.put hd ?_ ?_) he
        · refine .fn f _ _ (by simp) (fun i hi => ?_)
          have := map_getD (s := s) (S := S) (M := M) (l := caps) E i hi
          refine this.heap he.1 (fun _ _ => rfl) (fun k hk n sz e hq => .inl ⟨?_, rfl, rfl⟩)
          simpa [St.with, frozenBy_q] using hq
        · intro i hi
          obtain ⟨c, hc, hic⟩ := PV.mem_idsL.1 (by simpa [PV.ids] using hi)
          obtain ⟨x, hx, rfl⟩ := List.mem_map.1 hc
          have := I x i hic
          cases i with
          | b k => show (frozenBy s.m _).h k ≠ none; rw [frozenBy_h]; exact this
          | r k => show (frozenBy s.m _).q k ≠ none; rw [frozenBy_q]; exact this
      · exact hok.elim
    | _ => exact hok.elim
  | makeSlice t l c =>
    simp only at hok ⊢
    cases dst with
    | none => exact hok.elim
    | some d =>
      simp only at hok ⊢
      split at hok
      · rename_i k
        exact Done.of_snd (sm := Instr.makeSlice t (.int k 0) (a.eval c)) run_v hd (sound_makeRow hs (E c) hok)
      · exact Done.of_snd (sm := Instr.makeSlice t (a.eval l) (a.eval c)) run_v hd (sound_makeFull hs (E l) (E c) hok)
  | slice t x lo hi mx =>
    simp only at hok ⊢
    split at hok
    · rename_i hm
      rw [if_pos hm]
      cases mx with
      | some _ => simp at hm
      | none =>
        refine Done.of_snd (sm := Instr.sliceAt t (a.eval x) (lo.map a.eval) (hi.map a.eval) none) run_v hd (sound_slice hs (E x) (I x) ?_ ?_ (by simp) (by simp) hok)
        · intro v p h1 h2
          cases lo with
          | none => cases h1
          | some y => cases h1; cases h2; exact E y
        · intro v p h1 h2
          cases hi with
          | none => cases h1
          | some y => cases h1; cases h2; exact E y
    · exact hok.elim
  | fieldAddr t x f => exact Done.of_snd (sm := Instr.fieldAt t (a.eval x) f) run_v hd (sound_fieldAddr hs (E x) (I x) hok)
  | field t x f => exact Done.of_snd (sm := Instr.field t (a.eval x) f) run_v hd (sound_field hs (E x) (I x) hok)
  | indexAddr t x i => exact Done.of_snd (sm := Instr.indexAt t (a.eval x) (a.eval i)) run_v hd (sound_indexAddr hs (E x) (I x) (E i) hok)
  | index t x i => exact Done.of_snd (sm := Instr.index t (a.eval x) (a.eval i)) run_v hd (sound_index hs (E x) (I x) (E i) hok)
  | lookup t x k ok => exact Done.of_snd (sm := Instr.lookup t (a.eval x) (a.eval k) ok) run_v hd (sound_lookup hs (E x) (E k) hok)
  | mapUpdate t x k v => exact Done.of_sndU (sm := Instr.mapUpdate t (a.eval x) (a.eval k) (a.eval v)) run_u hd (sound_mapUpdate hs (E x) (E k) (E v) hok)
  | entry x => exact Done.of_snd (sm := Instr.entry (a.eval x)) run_v hd (sound_entry hs (E x) hok)
  | extract x i => exact Done.of_snd (sm := Instr.extract (a.eval x) i) run_v hd (sound_extract hs (E x) (I x) hok)
  | call c =>
    obtain ⟨callee, args, argTypes⟩ := c
    cases callee with
    | builtin b =>
      obtain ⟨args⟩ := args
      obtain ⟨tys⟩ := argTypes
      simp only at hok ⊢
      revert hok
      unfold aBuiltin
      split
      · rename_i t p hx
        intro hok
        obtain ⟨x, rfl, rfl⟩ : ∃ x, args = [x] ∧ p = s.eval x := by
          match args, hx with
          | [x], hx => exact ⟨x, rfl, by simpa using hx.symm⟩
        split at hok
        · rename_i hmx
          rw [if_pos hmx]
          exact Done.of_snd (sm := Builtin.len_ #[t] ty #[a.eval x]) (by simp [execOp, resolve, invoke, builtin]) hd (sound_mapLen hs (E x) hok)
        · rename_i hmx
          rw [if_neg hmx]
          exact Done.of_snd (sm := Builtin.len_ #[t] ty #[a.eval x]) (by simp [execOp, resolve, invoke, builtin]) hd (sound_len hs (E x) hok)
      · rename_i t tx p p' hx
        obtain ⟨x, y, rfl, rfl, rfl⟩ : ∃ x y, args = [x, y] ∧ p = s.eval x ∧ p' = s.eval y := by
          match args, hx with
          | [x, y], hx => simp at hx; exact ⟨x, y, rfl, hx.1.symm, hx.2.symm⟩
        split
        · rename_i d
          intro hok
          exact Done.of_snd (sm := Builtin.append_ #[t, tx] ty #[a.eval x, a.eval y]) (by simp [execOp, resolve, invoke, builtin]) hd (sound_append hs (E x) (I x) (E y) hok)
        · exact fun h => h.elim
      · rename_i tys b0 ts0 xs0 p p' hx
        intro hok
        obtain ⟨x, y, rfl, rfl, rfl⟩ : ∃ x y, args = [x, y] ∧ p = s.eval x ∧ p' = s.eval y := by
          match args, hx with
          | [x, y], hx => simp at hx; exact ⟨x, y, rfl, hx.1.symm, hx.2.symm⟩
        exact Done.of_snd (sm := Builtin.max_ ⟨tys⟩ ty #[a.eval x, a.eval y]) (by simp [execOp, resolve, invoke, builtin]) hd (sound_max hs (E x) (E y) hok)
      · rename_i tys b0 ts0 xs0 p p' hx
        intro hok
        obtain ⟨x, y, rfl, rfl, rfl⟩ : ∃ x y, args = [x, y] ∧ p = s.eval x ∧ p' = s.eval y := by
          match args, hx with
          | [x, y], hx => simp at hx; exact ⟨x, y, rfl, hx.1.symm, hx.2.symm⟩
        exact Done.of_snd (sm := Builtin.min_ ⟨tys⟩ ty #[a.eval x, a.eval y]) (by simp [execOp, resolve, invoke, builtin]) hd (sound_min hs (E x) (E y) hok)
      · exact fun h => h.elim
    | _ => exact hok.elim
  | _ => exact hok.elim

theorem call_sound (hs : Sim B S M s a w) {o : Oper} {c : Call} {g : FuncId} {args : List PV} {r : PV} (hd : ∀ x, o.dst = some x → x < s.n) (ho : o.op = .call c) (hc : calleeOf s.eval c = some (g, args)) (hg : PV.givableL s.m args)
    (hp : Pure P g (PV.giveL s.m args) r) : Done P B S s a w o r s.m := by
  intro next Q hn
  obtain ⟨dst, op, ty, pos, after, guard⟩ := o
  simp only at ho hd
  subst ho
  obtain ⟨callee, cargs, ts⟩ := c
  obtain ⟨cargs⟩ := cargs
  unfold calleeOf at hc
  cases callee with
  | value f =>
    simp only at hc
    split at hc
    · rename_i g' caps hf
      simp only [Option.some.injEq, Prod.mk.injEq] at hc
      obtain ⟨rfl, rfl⟩ := hc
      have ef := hs.eval f
      rw [hf] at ef
      obtain ⟨vs, hv, hl, hr⟩ := ef.fn_inv
      obtain ⟨⟨fn, c1, c2, c3⟩, _, hcalls⟩ := hp
      have hargs : ∀ i, i < (cargs.map s.eval ++ caps).length → RepS S M s.m.q ((cargs.map a.eval ++ vs).getD i undef) ((cargs.map s.eval ++ caps).getD i .any) := by
        intro i hi
        by_cases h1 : i < cargs.length
        · rw [getD_append_left (by simpa using h1), getD_append_left (by simpa using h1)]
          exact map_getD (s := s) hs.eval i (by simpa using h1)
        · rw [getD_append_right (by simp; omega), getD_append_right (by simp; omega)]
          simp only [List.length_map]
          exact hr _ (by simp at hi; omega)
      have hrun : (execOp a.eval ⟨dst, .call ⟨.value f, ⟨cargs⟩, ts⟩, ty, pos, after, guard⟩).run P w = .ok (.enter g' ⟨cargs.map a.eval ++ vs⟩) w := by
        have hb : ¬ fn.body = none := by intro h; simp [h] at c3
        simp [execOp, resolve, Deferred.ofValue, hv, invoke, callFunc, program, Sem.run, c1, hb, c2]
      unfold Oper.wp
      rw [hrun]
      show Calls P g' ⟨cargs.map a.eval ++ vs⟩ w _
      have hcl := hcalls w S (cargs.map a.eval ++ vs) hs.stable.s (by simp [PV.giveL_length, hl]) (fun i hi => by
        rw [PV.giveL_length] at hi
        rw [PV.giveL_getD _ _ i hi]
        exact (hargs i hi).give hs (PV.givableL_getD hg i hi))
      refine hcl.mono fun e w' h => ?_
      obtain ⟨v, S', rfl, h2, h3, h4, h5, h6⟩ := h
      have hs' := hs.grow h4 h5 h3 h6.block h6.size
      exact hn v w' S' M (hs'.put hd (.clean h2) (fun i hi => absurd hi (h2.clean_ids i))) ⟨h4, fun b hb => h5 b (hs.hB b hb), (BelowF.of h6).mono hs.hB⟩
    · cases hc
  | _ => simp at hc

theorem step_sound (hs : Sim B S M s a w) {o : Oper} {v : PV} {m' : Hp} (hd : ∀ x, o.dst = some x → x < s.n) (h : StepM P o s.eval s.m v m') : Done P B S s a w o v m' := by
  rcases h with ⟨h1, rfl, rfl⟩ | ⟨c, g, args, ho, hc, hg, hp, rfl⟩
  · exact aop_sound hs hd h1
  · exact call_sound hs hd ho hc hg hp

end
end Go.PL

namespace Go.PL
open Go.RowKit
set_option linter.unusedVariables false

/-- is the operation wanted? -/
def gdOf (want : Bool) : PV → Option Bool
  | .bool b => some (b == want)
  | .tup _ => some false
  | _ => none
def gd (ops : Array Oper) (s : St) (o : Oper) : Option Bool :=
  match o.guard with
  | none => some true
  | some (j, want) => match (ops[j]?).bind (·.dst) with
    | some d => if d < s.n then gdOf want (s.fr d) else none
    | none => some false

def dstOk (n : Nat) : Option Nat → Prop
  | some d => d < n
  | none => True

/-- the operations in the order of the text -/
def lexA (P : Program) (ops : Array Oper) (K : St → Prop) : List Oper → St → Prop
  | [], s => K s
  | o :: rest, s => dstOk s.n o.dst ∧ ((gd ops s o = some true ∧ ∃ v m', StepM P o s.eval s.m v m' ∧ lexA P ops K rest ((s.with m').put o.dst v)) ∨ (gd ops s o = some false ∧ lexA P ops K rest (s.put o.dst (.tup []))))

/-- what holds behind a piece of code, told of values -/
def awp (P : Program) (c : Code) (Q : Exit → St → Prop) (s : St) : Prop :=
  ∀ B S M a w, Sim B S M s a w → c.wp P (fun e a' w' => ∃ s' S' M', Q e s' ∧ Sim B S' M' s' a' w' ∧ Ext B S S' w w') a w

section
variable {P : Program} {B : Frm} {S : Stable} {M : Maps} {s : St} {a : Act} {w : World} {Q Q' : Exit → St → Prop}

theorem dstOk_spec {n : Nat} {d : Option Nat} (h : dstOk n d) : ∀ x, d = some x → x < n := fun x e => by subst e; exact h

def asB : Value → Option Bool
  | .bool b => some b
  | _ => none
theorem RepS.gdOf {q : Rows} {v : Value} {p : PV} {want c : Bool} (r : RepS S M q v p) (h : PL.gdOf want p = some c) : (asB v == some want) = c := by
  cases p <;> simp [PL.gdOf] at h
  · rw [r.bool_inv]; simpa [asB] using h
  · obtain ⟨vs, rfl, _⟩ := r.tup_inv; simpa [asB] using h

theorem gd_ok (hs : Sim B S M s a w) {ops : Array Oper} {o : Oper} {b : Bool} (h : gd ops s o = some b) : Region.wanted o (yielded ops a.tmps) = b := by
  unfold gd at h
  unfold Region.wanted
  cases hg : o.guard with
  | none => rw [hg] at h; simpa using h
  | some jw =>
    obtain ⟨j, want⟩ := jw
    rw [hg] at h
    simp only at h ⊢
    unfold yielded
    cases hd : (ops[j]?).bind (·.dst) with
    | none => rw [hd] at h; simpa using h
    | some d =>
      rw [hd] at h
      simp only at h
      split at h
      · rename_i hlt
        have hsz : d < a.tmps.size := by rw [hs.hn]; exact hlt
        have hr := hs.fr d
        have he : a.tmps[d]? = some (a.tmps.getD d undef) := by
          rw [Array.getD_eq_getD_getElem?, Array.getElem?_eq_getElem hsz]; rfl
        have hb := hr.gdOf h
        simp only [Option.bind_some, he]
        rw [← hb]
        cases a.tmps.getD d undef <;> rfl
      · cases h

theorem St.with_self (s : St) : s.with s.m = s := rfl

theorem skip_sim (hs : Sim B S M s a w) {d : Option Nat} (hd : dstOk s.n d) : Sim B S M (s.put d (.tup [])) (a.put d undef) w :=
  hs.put (dstOk_spec hd) (.clean (.tup [] [] rfl (fun i hi => by simp at hi))) (by simp [PV.ids, PV.idsL])

theorem lex_sound {ops : Array Oper} {K : St → Prop} {Qc : Exit → Act → World → Prop} {S0 : Stable} {w0 : World} (hQ : ∀ s' S' M' a' w', K s' → Sim B S' M' s' a' w' → Ext B S0 S' w0 w' → Qc .normal a' w') :
    ∀ (l : List Oper) (k : Nat) (s : St), (∀ j, l[j]? = ops[k + j]?) → lexA P ops K l s → ∀ S M a w, Sim B S M s a w → Ext B S0 S w0 w → wpOps P ops Qc (List.range' k l.length) a w
  | [], k, s, _, h, S, M, a, w, hs, he => hQ s S M a w h hs he
  | o :: rest, k, s, hl, h, S, M, a, w, hs, he => by
    have h0 : ops[k]? = some o := by simpa using (hl 0).symm
    have hl' : ∀ j, rest[j]? = ops[(k + 1) + j]? := fun j => by have := hl (j + 1); simpa [Nat.add_assoc, Nat.add_comm 1 j] using this
    obtain ⟨hd, h⟩ := h
    simp only [List.length_cons, List.range'_succ, wpOps, h0]
    rcases h with ⟨hg, v, m', hst, hrest⟩ | ⟨hg, hrest⟩
    · rw [gd_ok hs hg, if_pos rfl]
      exact .inl (step_sound hs (dstOk_spec hd) hst _ _ fun u w' S' M' hs' he' => lex_sound hQ rest (k + 1) _ hl' hrest S' M' _ w' hs' (he.trans he'))
    · rw [gd_ok hs hg, if_neg (by simp)]
      exact lex_sound hQ rest (k + 1) _ hl' hrest S M _ w (skip_sim hs hd) he

theorem awp_mono {c : Code} (h : ∀ e s, Q e s → Q' e s) (hh : awp P c Q s) : awp P c Q' s := fun B S M a w hs =>
  wp_mono (hh B S M a w hs) fun e a' w' ⟨s', S', M', h1, h2, h3⟩ => ⟨s', S', M', h _ _ h1, h2, h3⟩

theorem awp_region {id : Nat} {ops : Array Oper} (h : lexA P ops (Q .normal) ops.toList s) : awp P (.region id ops false) Q s := fun B S M a w hs => by
  refine wp_region ?_
  have := lex_sound (B := B) (S0 := S) (w0 := w) (Qc := fun e a' w' => ∃ s' S' M', Q e s' ∧ Sim B S' M' s' a' w' ∧ Ext B S S' w w') (fun s' S' M' a' w' h1 h2 h3 => ⟨s', S', M', h1, h2, h3⟩) ops.toList 0 s (by simp) h S M a w hs (Ext.refl _ _ _)
  rw [← List.range_eq_range'] at this
  simpa using this

theorem awp_skip (h : Q .normal s) : awp P .skip Q s := fun B S M a w hs => wp_skip ⟨s, S, M, h, hs, Ext.refl _ _ _⟩
theorem awp_label {l : Nat} (h : Q .normal s) : awp P (.label l) Q s := fun B S M a w hs => wp_label ⟨s, S, M, h, hs, Ext.refl _ _ _⟩
theorem awp_exit {id : Nat} (h : Q (.exit id) s) : awp P (.exit id) Q s := fun B S M a w hs => wp_exit ⟨s, S, M, h, hs, Ext.refl _ _ _⟩
theorem awp_goto {l : Nat} (h : Q (.goto l) s) : awp P (.goto l) Q s := fun B S M a w hs => wp_goto ⟨s, S, M, h, hs, Ext.refl _ _ _⟩
theorem awp_ret (h : Q .ret s) : awp P .ret Q s := fun B S M a w hs => wp_ret ⟨s, S, M, h, hs, Ext.refl _ _ _⟩

def thenQ (K : St → Prop) (Q : Exit → St → Prop) : Exit → St → Prop
  | .normal, s => K s
  | e, s => Q e s
theorem awp_seq {x y : Code} (h : awp P x (thenQ (awp P y Q) Q) s) : awp P (.seq x y) Q s := fun B S M a w hs => by
  refine wp_seq (wp_mono (h B S M a w hs) fun e a' w' hq => ?_)
  obtain ⟨s', S', M', h1, h2, h3⟩ := hq
  cases e with
  | normal =>
    refine wp_mono (h1 B S' M' a' w' h2) fun e a'' w'' hq' => ?_
    obtain ⟨s'', S'', M'', g1, g2, g3⟩ := hq'
    exact ⟨s'', S'', M'', g1, g2, h3.trans g3⟩
  | _ => exact ⟨s', S', M', h1, h2, h3⟩

theorem awp_cond {c : Operand} {x y : Code} {b : Bool} (hc : s.eval c = .bool b) (h : awp P (if b then x else y) Q s) : awp P (.cond c x y) Q s := fun B S M a w hs => by
  have he := hs.eval c
  rw [hc] at he
  exact wp_cond he.bool_inv (h B S M a w hs)

def blockQ (id : Nat) (Q : Exit → St → Prop) : Exit → St → Prop
  | .exit j, s => if j = id then Q .normal s else Q (.exit j) s
  | e, s => Q e s
theorem awp_block {id : Nat} {c : Code} (h : awp P c (blockQ id Q) s) : awp P (.block id c) Q s := fun B S M a w hs => by
  refine wp_block (wp_mono (h B S M a w hs) fun e a' w' hq => ?_)
  obtain ⟨s', S', M', h1, h2, h3⟩ := hq
  cases e with
  | exit j =>
    simp only [Exit.inBlock, blockQ] at h1 ⊢
    split at h1
    · rename_i hj
      simp only [hj, if_true]
      exact ⟨s', S', M', h1, h2, h3⟩
    · rename_i hj
      simp only [hj, if_false]
      exact ⟨s', S', M', h1, h2, h3⟩
  | _ => exact ⟨s', S', M', h1, h2, h3⟩

end
end Go.PL

namespace Go.PL
open Go.RowKit
set_option linter.unusedVariables false

def upds {α : Type} (L : List (Nat × α)) (f : Nat → α) : Nat → α := L.foldr (fun x g => upd g x.1 x.2) f
/-- slots of which nothing is told any more -/
def kills (ws : List Nat) (f : Nat → PV) : Nat → PV := fun i => if ws.contains i then .any else f i

/-- less is told -/
structure Weak (s' s : St) : Prop where
  n : s'.n = s.n
  fr : ∀ i, s'.fr i = .any ∨ s'.fr i = s.fr i
  h : ∀ i, s'.m.h i = none ∨ (s'.m.h i = s.m.h i ∧ s'.m.z i = s.m.z i)
  q : ∀ i, s'.m.q i = none ∨ s'.m.q i = s.m.q i
  o : ∀ i, s'.m.o i = none ∨ s'.m.o i = s.m.o i
  it : ∀ i, s'.m.it i = none ∨ s'.m.it i = s.m.it i

/-- what is told leans on what is there -/
structure Refs (s : St) : Prop where
  fr : ∀ i r, r ∈ (s.fr i).ids → Live s.m r
  h : ∀ i cs, s.m.h i = some cs → ∀ c ∈ cs, ∀ r ∈ c.ids, Live s.m r

section
variable {P : Program} {B : Frm} {S : Stable} {M : Maps} {s s' : St} {a : Act} {w : World} {Q Q' : Exit → St → Prop}

theorem Sim.refs (hs : Sim B S M s a w) : Refs s := by
  refine ⟨hs.ids, fun i cs hi c hc r hr => ?_⟩
  have hb := hs.blk i cs hi
  cases hz : s.m.z i with
  | false => rw [hz] at hb; exact hb.2.2.2 c hc r hr
  | true =>
    rw [hz] at hb
    obtain ⟨vals, hv⟩ := hb
    obtain ⟨j, hj, rfl⟩ := List.getElem_of_mem hc
    have := (hv j hj).2
    rw [getD_lt hj] at this
    exact absurd hr (this.clean_ids r)

theorem Sim.weak (hs : Sim B S M s a w) (hw : Weak s' s) (hr : Refs s') : Sim B S M s' a w := by
  have rep : ∀ {v p}, RepS S M s.m.q v p → (∀ r ∈ p.ids, Live s'.m r) → RepS S M s'.m.q v p := fun r _ =>
    r.heap (SLe.refl _) (fun _ _ => rfl) (fun i hi n sz e hq => by
      rcases hw.q i with h | h
      · rw [h] at hq; cases hq
      · exact .inl ⟨by rw [← h]; exact hq, rfl, rfl⟩)
  have hh : ∀ {i cs}, s'.m.h i = some cs → s.m.h i = some cs ∧ s'.m.z i = s.m.z i := fun {i cs} hi => by
    rcases hw.h i with h | ⟨h, hz⟩
    · rw [h] at hi; cases hi
    · exact ⟨by rw [← h]; exact hi, hz⟩
  have hq : ∀ {i r}, s'.m.q i = some r → s.m.q i = some r := fun {i r} hi => by
    rcases hw.q i with h | h
    · rw [h] at hi; cases hi
    · rw [← h]; exact hi
  refine ⟨hs.defers, by rw [hs.hn, hw.n], hs.hB, ⟨hs.stable.s, fun b c hc => hs.stable.o b c ?_, fun b x hx => hs.stable.i b x ?_⟩, fun i => ?_, hr.fr, fun i cs hi => ?_, fun i r hi => hs.row i r (hq hi), ?_, ?_, ?_⟩
  · rcases hw.o b with h | h
    · rw [h] at hc; cases hc
    · rw [← h]; exact hc
  · rcases hw.it b with h | h
    · rw [h] at hx; cases hx
    · rw [← h]; exact hx
  · rcases hw.fr i with h | h
    · rw [h]; exact .clean (.any _)
    · rw [h]; exact rep (hs.fr i) (by rw [← h]; exact hr.fr i)
  · obtain ⟨h1, hz⟩ := hh hi
    have hb := hs.blk i cs h1
    rw [hz]
    cases hzi : s.m.z i with
    | false =>
      rw [hzi] at hb
      obtain ⟨g1, g2, ⟨us, t', g3, g4, g5⟩, g6⟩ := hb
      exact ⟨g1, g2, ⟨us, t', g3, g4, fun k hk => rep (g5 k hk) (fun r hr' => hr.h i cs hi _ (getD_mem hk) r hr')⟩, hr.h i cs hi⟩
    | true => rw [hzi] at hb; exact hb
  · intro i j cs cs' hi hj zi zj hij
    obtain ⟨h1, e1⟩ := hh hi
    obtain ⟨h2, e2⟩ := hh hj
    exact hs.inj i j _ _ h1 h2 (by rw [← e1]; exact zi) (by rw [← e2]; exact zj) hij
  · intro i j n1 z1 t1 n2 z2 t2 hi hj ki kj hij
    exact hs.injq i j _ _ _ _ _ _ (hq hi) (hq hj) ki kj hij
  · intro i j cs n1 z1 t1 hi zi hj kj
    obtain ⟨h1, e1⟩ := hh hi
    exact hs.injx i j _ _ _ _ h1 (by rw [← e1]; exact zi) (hq hj) kj

theorem awp_weak {c : Code} (hw : Weak s' s) (hr : Refs s → Refs s') (h : awp P c Q s') : awp P c Q s := fun B S M a w hs => h B S M a w (hs.weak hw (hr hs.refs))
theorem awp_refs {c : Code} (h : Refs s → awp P c Q s) : awp P c Q s := fun B S M a w hs => h hs.refs B S M a w hs

/-- a loop: 'I i': what is told at a round's head -/
theorem awp_loop_gen {c : Code} {ι : Type} (I : ι → St) (μ : ι → Nat) (i0 : ι) (h0 : Weak (I i0) s) (hr : Refs s → ∀ i, Refs (I i))
    (round : ∀ i, awp P c (thenQ (fun s' => ∃ j, μ j < μ i ∧ Weak (I j) s') Q) (I i)) : awp P (.loop c) Q s := fun B S M a w hs => by
  have hrefs := hr hs.refs
  have key : ∀ (k : Nat) (i : ι), μ i < k → ∀ S1 M1 a1 w1, Sim B S1 M1 (I i) a1 w1 → Ext B S S1 w w1 →
      Code.rounds P c (fun e a' w' => ∃ s' S' M', Q e s' ∧ Sim B S' M' s' a' w' ∧ Ext B S S' w w') k a1 w1 := by
    intro k
    induction k with
    | zero => intro i hi; omega
    | succ k ih =>
      intro i hi S1 M1 a1 w1 hs1 he1
      rw [rounds_succ]
      refine wp_mono (round i B S1 M1 a1 w1 hs1) fun e a' w' hq => ?_
      obtain ⟨s', S', M', h1, h2, h3⟩ := hq
      cases e with
      | normal =>
        obtain ⟨j, hj, hwk⟩ := h1
        exact ih j (by omega) S' M' a' w' (h2.weak hwk (hrefs j)) (he1.trans h3)
      | _ => exact ⟨s', S', M', h1, h2, he1.trans h3⟩
  exact wp_loop_rounds (μ i0 + 1) (key _ i0 (Nat.lt_succ_self _) S M a w (hs.weak h0 (hrefs i0)) (Ext.refl _ _ _))

/-- the slots that a list tells, and the rest as it was -/
def FrEq (X : List Nat) (f g : Nat → PV) : Prop := ∀ i, X.contains i = false → f i = g i
theorem FrEq.refl (X : List Nat) (f : Nat → PV) : FrEq X f f := fun _ _ => rfl
theorem FrEq.upd {X : List Nat} {f g : Nat → PV} {d : Nat} {v : PV} (hd : X.contains d = true) (h : FrEq X f g) : FrEq X (upd f d v) g := fun i hi => by
  by_cases e : d = i
  · subst e; rw [hd] at hi; cases hi
  · rw [upd_ne _ _ e]; exact h i hi
/-- what the smaller memory tells, the greater one tells too -/
def HWeak {α : Type} (f g : Nat → Option α) : Prop := ∀ i, f i = none ∨ f i = g i
theorem HWeak.refl {α : Type} (f : Nat → Option α) : HWeak f f := fun _ => .inr rfl
theorem HWeak.upd {α : Type} {f g : Nat → Option α} {d : Nat} {v : Option α} (hd : f d = none ∨ f d = v) (h : HWeak f g) : HWeak f (PL.upd g d v) := fun i => by
  by_cases e : d = i
  · subst e; rw [upd_same]; exact hd
  · rw [upd_ne _ _ e]; exact h i

theorem upds_ne {α : Type} {L : List (Nat × α)} {f : Nat → α} {i : Nat} (h : (L.map (·.1)).contains i = false) : upds L f i = f i := by
  induction L with
  | nil => rfl
  | cons x L ih =>
    simp only [List.map_cons, List.contains_cons, Bool.or_eq_false_iff, beq_eq_false_iff_ne] at h
    show upd (upds L f) x.1 x.2 i = f i
    rw [upd_ne _ _ (Ne.symm h.1)]
    exact ih h.2
theorem upds_all {α : Type} {L : List (Nat × α)} {f : Nat → α} {i : Nat} {R : Nat → α → Prop} (hL : ∀ x ∈ L, R x.1 x.2) (h : (L.map (·.1)).contains i = true) : R i (upds L f i) := by
  induction L with
  | nil => simp at h
  | cons x L ih =>
    show R i (upd (upds L f) x.1 x.2 i)
    by_cases e : x.1 = i
    · subst e; rw [upd_same]; exact hL x (by simp)
    · rw [upd_ne _ _ e]
      refine ih (fun y hy => hL y (by simp [hy])) ?_
      simp only [List.map_cons, List.contains_cons, Bool.or_eq_true, beq_iff_eq] at h
      exact h.resolve_left (Ne.symm e)

/-- what is told at a round's head: slots, blocks, rows that the list names; nothing of the slots ws; the rest as it was -/
def St.inv (s : St) (ws : List Nat) (L : List (Nat × PV)) (H : List (Nat × List PV)) (R : List (Nat × Row)) : St :=
  { fr := upds L (kills ws s.fr), m := { h := upds (H.map fun x => (x.1, some x.2)) s.m.h, z := upds (H.map fun x => (x.1, false)) s.m.z, q := upds (R.map fun x => (x.1, some x.2)) s.m.q, o := fun _ => none, it := fun _ => none }, n := s.n }

/-- behind a round: the slots, blocks and rows hold what the next head tells -/
structure Meets (s : St) (ws : List Nat) (L : List (Nat × PV)) (H : List (Nat × List PV)) (R : List (Nat × Row)) (s' : St) : Prop where
  n : s'.n = s.n
  fr : ∀ x ∈ L, s'.fr x.1 = x.2
  rest : FrEq (ws ++ L.map (·.1)) s'.fr s.fr
  h : ∀ x ∈ H, s'.m.h x.1 = some x.2 ∧ s'.m.z x.1 = false
  q : ∀ x ∈ R, s'.m.q x.1 = some x.2
  hrest : ∀ i, (H.map (·.1)).contains i = false → s.m.h i = none ∨ (s.m.h i = s'.m.h i ∧ s.m.z i = s'.m.z i)
  qrest : ∀ i, (R.map (·.1)).contains i = false → s.m.q i = none ∨ s.m.q i = s'.m.q i

theorem map1 {α β : Type} (L : List (Nat × α)) (f : α → β) : (L.map fun x => (x.1, f x.2)).map (·.1) = L.map (·.1) := by simp

theorem Meets.weak {ws : List Nat} {L : List (Nat × PV)} {H : List (Nat × List PV)} {R : List (Nat × Row)} (h : Meets s ws L H R s') : Weak (s.inv ws L H R) s' := by
  refine ⟨h.n.symm, fun i => ?_, fun i => ?_, fun i => ?_, fun _ => .inl rfl, fun _ => .inl rfl⟩
  · by_cases hi : (L.map (·.1)).contains i = true
    · exact .inr (upds_all (R := fun i v => v = s'.fr i) (fun x hx => (h.fr x hx).symm) hi)
    · have hi' : (L.map (·.1)).contains i = false := by simpa using hi
      show upds L (kills ws s.fr) i = _ ∨ upds L (kills ws s.fr) i = _
      rw [upds_ne hi']
      unfold kills
      by_cases hw : ws.contains i = true
      · rw [if_pos hw]; exact .inl rfl
      · rw [if_neg hw]
        refine .inr (h.rest i ?_).symm
        rw [List.contains_append, hi']
        simpa using hw
  · show upds (H.map fun x => (x.1, some x.2)) s.m.h i = none ∨ (upds (H.map fun x => (x.1, some x.2)) s.m.h i = _ ∧ upds (H.map fun x => (x.1, false)) s.m.z i = _)
    by_cases hi : (H.map (·.1)).contains i = true
    · right
      refine ⟨upds_all (R := fun i v => v = s'.m.h i) (fun x hx => ?_) (by rw [map1 H some]; exact hi), upds_all (R := fun i v => v = s'.m.z i) (fun x hx => ?_) (by rw [map1 H (fun _ => false)]; exact hi)⟩
      · obtain ⟨y, hy, rfl⟩ := List.mem_map.1 hx; exact (h.h y hy).1.symm
      · obtain ⟨y, hy, rfl⟩ := List.mem_map.1 hx; exact (h.h y hy).2.symm
    · have hi' : (H.map (·.1)).contains i = false := by simpa using hi
      rw [upds_ne (by rw [map1 H some]; exact hi'), upds_ne (by rw [map1 H (fun _ => false)]; exact hi')]
      exact h.hrest i hi'
  · show upds (R.map fun x => (x.1, some x.2)) s.m.q i = none ∨ upds (R.map fun x => (x.1, some x.2)) s.m.q i = _
    by_cases hi : (R.map (·.1)).contains i = true
    · right
      refine upds_all (R := fun i v => v = s'.m.q i) (fun x hx => ?_) (by rw [map1 R some]; exact hi)
      obtain ⟨y, hy, rfl⟩ := List.mem_map.1 hx; exact (h.q y hy).symm
    · have hi' : (R.map (·.1)).contains i = false := by simpa using hi
      rw [upds_ne (by rw [map1 R some]; exact hi')]
      exact h.qrest i hi'

/-- what the lists tell leans on what is there -/
def RefsL (s : St) (L : List (Nat × PV)) (H : List (Nat × List PV)) (R : List (Nat × Row)) : Prop :=
  (∀ x ∈ L, ∀ r ∈ x.2.ids, Live (s.inv [] L H R).m r) ∧ ∀ x ∈ H, ∀ c ∈ x.2, ∀ r ∈ c.ids, Live (s.inv [] L H R).m r

theorem Refs.inv {ws : List Nat} {L : List (Nat × PV)} {H : List (Nat × List PV)} {R : List (Nat × Row)} (h : Refs s) (hl : RefsL s L H R) : Refs (s.inv ws L H R) := by
  have up : ∀ r, Live s.m r → Live (s.inv ws L H R).m r := fun r hr => by
    cases r with
    | b i =>
      show upds (H.map fun x => (x.1, some x.2)) s.m.h i ≠ none
      by_cases hi : (H.map (·.1)).contains i = true
      · exact upds_all (R := fun i v => v ≠ none) (fun x hx => by obtain ⟨y, hy, rfl⟩ := List.mem_map.1 hx; simp) (by rw [map1 H some]; exact hi)
      · rw [upds_ne (by rw [map1 H some]; simpa using hi)]; exact hr
    | r i =>
      show upds (R.map fun x => (x.1, some x.2)) s.m.q i ≠ none
      by_cases hi : (R.map (·.1)).contains i = true
      · exact upds_all (R := fun i v => v ≠ none) (fun x hx => by obtain ⟨y, hy, rfl⟩ := List.mem_map.1 hx; simp) (by rw [map1 R some]; exact hi)
      · rw [upds_ne (by rw [map1 R some]; simpa using hi)]; exact hr
  refine ⟨fun i r hr => ?_, fun i cs hi c hc r hr => ?_⟩
  · by_cases hi : (L.map (·.1)).contains i = true
    · exact upds_all (R := fun i v => ∀ r ∈ v.ids, Live (s.inv ws L H R).m r) (fun x hx => hl.1 x hx) hi r hr
    · have hi' : (L.map (·.1)).contains i = false := by simpa using hi
      have hr' : r ∈ (upds L (kills ws s.fr) i).ids := hr
      rw [upds_ne hi'] at hr'
      unfold kills at hr'
      split at hr'
      · simp [PV.ids] at hr'
      · exact up r (h.fr i r hr')
  · by_cases hi' : (H.map (·.1)).contains i = true
    · have hR := upds_all (R := fun i v => ∀ cs, v = some cs → ∀ c ∈ cs, ∀ r ∈ c.ids, Live (s.inv ws L H R).m r) (f := s.m.h) (L := H.map fun x => (x.1, some x.2)) (i := i)
        (fun x hx cs hcs => by obtain ⟨y, hy, rfl⟩ := List.mem_map.1 hx; cases hcs; exact hl.2 y hy) (by rw [map1 H some]; exact hi')
      exact hR cs hi c hc r hr
    · have hi2 : upds (H.map fun x => (x.1, some x.2)) s.m.h i = some cs := hi
      rw [upds_ne (by rw [map1 H some]; simpa using hi')] at hi2
      exact up r (h.h i cs hi2 c hc r hr)

/-- A LOOP. ws: the slots that a round writes and nobody reads at the head; L, H, R: what the head tells of slots, blocks, rows. -/
theorem awp_loop {c : Code} {ι : Type} (ws : List Nat) (L : ι → List (Nat × PV)) (H : ι → List (Nat × List PV)) (R : ι → List (Nat × Row)) (μ : ι → Nat) (i0 : ι)
    (h0 : Meets s ws (L i0) (H i0) (R i0) s) (hr : ∀ i, RefsL s (L i) (H i) (R i))
    (round : ∀ i, awp P c (thenQ (fun s' => ∃ j, μ j < μ i ∧ Meets s ws (L j) (H j) (R j) s') Q) (s.inv ws (L i) (H i) (R i))) : awp P (.loop c) Q s := by
  refine awp_loop_gen (fun i => s.inv ws (L i) (H i) (R i)) μ i0 h0.weak (fun hrefs i => hrefs.inv (hr i)) fun i => awp_mono (fun e s' h => ?_) (round i)
  cases e with
  | normal => obtain ⟨j, hj, hm⟩ := h; exact ⟨j, hj, hm.weak⟩
  | _ => exact h

/-- a nil slice, told as a row to which may be appended -/
theorem awp_nilRow {c : Code} (i d sz : Nat) (e : TypeId) (hi : s.fr i = .sl .nil []) (hd : s.m.q d = none) (h : awp P c Q ({ s with fr := upd s.fr i (.sl (.row d) []) }.with (s.m.setq d (.live 0 sz e)))) : awp P c Q s := fun B S M a w hs => by
  have hs1 := hs.nilRow (sz := sz) (e := e) hd
  have hv : a.tmps.getD i undef = .slice none 0 0 := by
    have := hs.fr i
    rw [hi] at this
    exact this.slnil_inv
  refine h B S _ a w ⟨hs1.defers, hs1.hn, hs1.hB, hs1.stable, fun k => ?_, fun k r hr => ?_, hs1.blk, hs1.row, hs1.inj, hs1.injq, hs1.injx⟩
  · show RepS _ _ _ _ (upd s.fr i (.sl (.row d) []) k)
    by_cases e : i = k
    · subst e
      rw [upd_same, hv]
      refine .row d _ [] (.sl0 none 0) fun n' sz' e' hq => ?_
      simp only [St.with, Hp.setq, upd_same] at hq
      cases hq
      exact ⟨Nat.le_refl _, fun _ => ⟨fun _ => rfl, fun c hc => by simp [upd_same] at hc⟩⟩
    · rw [upd_ne _ _ e]; exact hs1.fr k
  · have hr' : r ∈ (upd s.fr i (.sl (.row d) []) k).ids := hr
    by_cases e : i = k
    · subst e
      rw [upd_same] at hr'
      simp only [PV.ids, List.mem_singleton] at hr'
      subst hr'
      simp [Live, St.with, Hp.setq, upd_same]
    · rw [upd_ne _ _ e] at hr'; exact hs1.ids k r hr'

end
end Go.PL

namespace Go.PL
open Go.RowKit
set_option linter.unusedVariables false

def initFr : Nat → List PV → Nat → PV
  | _, [] => fun _ => .tup []
  | k, p :: ps => upd (initFr (k + 1) ps) k p
def Hp.empty : Hp := ⟨fun _ => none, fun _ => false, fun _ => none, fun _ => none, fun _ => none⟩
/-- the state in which a function begins -/
def St.init (args : List PV) (n : Nat) : St := ⟨initFr 0 args, Hp.empty, n⟩

def resV (P : Program) (s : St) : ResultVar → ARes
  | .tmp t => ⟨True, s.fr t, s.m⟩
  | .cell t ty => if tkn P ty then aLoad P ty (s.fr t) s.m else .fail
def allOk : List ARes → Prop
  | [] => True
  | r :: rs => r.ok ∧ allOk rs
def pack : List PV → PV
  | [p] => p
  | ps => .tup ps
/-- what is handed back -/
def retP (P : Program) (fn : Func) (r : PV) (s : St) : Prop :=
  allOk (fn.results.toList.map (resV P s)) ∧ (pack (fn.results.toList.map fun x => (resV P s x).v)).givable s.m ∧ r = (pack (fn.results.toList.map fun x => (resV P s x).v)).give s.m

def retQ (P : Program) (fn : Func) (r : PV) : Exit → St → Prop
  | .normal, s => retP P fn r s
  | .ret, s => retP P fn r s
  | _, _ => False

section
variable {P : Program} {B : Frm} {S : Stable} {M : Maps} {s : St} {a : Act} {w : World}

theorem initFr_getD : ∀ (args : List PV) (k i : Nat), k ≤ i → initFr k args i = args.getD (i - k) (.tup [])
  | [], k, i, _ => by simp [initFr]
  | p :: ps, k, i, h => by
    unfold initFr
    by_cases e : k = i
    · subst e; rw [upd_same]; simp
    · rw [upd_ne _ _ e, initFr_getD ps (k + 1) i (by omega)]
      have : i - k = (i - (k + 1)) + 1 := by omega
      rw [this]
      simp

def resSem (tmps : Array Value) : ResultVar → Sem Value
  | .tmp t => Pure.pure (tmps.getD t undef)
  | .cell b t => do loadVar t (← asAddr (tmps.getD b undef))

theorem res_sound (hs : Sim B S M s a w) (x : ResultVar) (hok : (resV P s x).ok) : ∃ v, (resSem a.tmps x).run P w = .ok v w ∧ RepS S M s.m.q v (resV P s x).v := by
  cases x with
  | tmp t => exact ⟨_, rfl, hs.fr t⟩
  | cell t ty =>
    unfold resV at hok ⊢
    simp only at hok ⊢
    split at hok
    · rename_i hk
      rw [if_pos hk]
      have hr := hs.fr t
      have hp : ∃ ad, a.tmps.getD t undef = .pointer (some ad) := by
        unfold aLoad at hok
        split at hok
        · rename_i cs hx; rw [hx] at hr; obtain ⟨b, o, vals, e, _⟩ := hr.rptr_inv; exact ⟨_, e⟩
        · rename_i id off hx; rw [hx] at hr; exact ⟨_, hr.ptr_inv⟩
        · exact hok.elim
      obtain ⟨ad, had⟩ := hp
      obtain ⟨v, h1, h2, _⟩ := load_val hs hr (by intro h; simp [tkn, h] at hk) hok
      refine ⟨v, ?_, ?_⟩
      · rw [had] at h1
        simp only [Instr.loadAt, Instr.sureAddr, Sem.run_bind, Sem.run_pure, Result.andThen_ok] at h1
        simp only [resSem, had, asAddr, Sem.run_bind, Sem.run_pure, Result.andThen_ok]
        exact h1
      · exact h2
    · exact hok.elim

theorem results_sound (hs : Sim B S M s a w) {fn : Func} (hok : allOk (fn.results.toList.map (resV P s))) :
    ∃ v, (results fn a.tmps).run P w = .ok v w ∧ RepS S M s.m.q v (pack (fn.results.toList.map fun x => (resV P s x).v)) := by
  have key : ∀ (l : List ResultVar), allOk (l.map (resV P s)) → ∃ vs : List Value, (l.mapM (resSem a.tmps)).run P w = .ok vs w ∧ RepL S M s.m.q vs (l.map fun x => (resV P s x).v) := by
    intro l
    induction l with
    | nil => intro _; exact ⟨[], by simp, rfl, fun i hi => by simp at hi⟩
    | cons x l ih =>
      intro h
      obtain ⟨v, e1, e2⟩ := res_sound hs x h.1
      obtain ⟨vs, e3, e4, e5⟩ := ih h.2
      refine ⟨v :: vs, ?_, by simp [e4], fun i hi => ?_⟩
      · rw [List.mapM_cons]
        simp only [Sem.run_bind, e1, e3, Result.andThen_ok, Sem.run_pure]
      · cases i with
        | zero => exact e2
        | succ i => simpa using e5 i (by simpa using hi)
  obtain ⟨vs, h1, h2⟩ := key fn.results.toList hok
  have hm : (fn.results.mapM (resSem a.tmps)).run P w = .ok ⟨vs⟩ w := by
    rw [Array.mapM_eq_mapM_toList]
    simp only [Sem.run_map, h1, Result.andThen_ok]
  have hres : (results fn a.tmps).run P w = .ok (if h : (⟨vs⟩ : Array Value).size = 1 then (⟨vs⟩ : Array Value)[0] else .tuple ⟨vs⟩) w := by
    have e : results fn a.tmps = (do
        let vs ← fn.results.mapM (resSem a.tmps)
        Pure.pure (if h : vs.size = 1 then vs[0] else .tuple vs)) := rfl
    rw [e]
    simp only [Sem.run_bind, hm, Result.andThen_ok, Sem.run_pure]
  refine ⟨_, hres, ?_⟩
  generalize (fn.results.toList.map fun x => (resV P s x).v) = ps at h2
  obtain ⟨hl, hr⟩ := h2
  match vs, ps, hl, hr with
  | [v], [p], _, hr => exact hr 0 (by simp)
  | [], [], _, _ => exact .tup [] [] rfl (fun i hi => by simp at hi)
  | v :: v' :: vs, p :: p' :: ps, hl, hr => exact .tup _ _ hl hr

theorem Pure.intro {f : FuncId} {fn : Func} {c : Code} {args : List PV} {r : PV} (hf : P.funcs[f]? = some fn) (hname : fn.name ≠ "runtime.NumGoroutine") (hb : fn.body = some c) (hn : args.length ≤ fn.ntmps) (hi : r.dids = [])
    (h : awp P c (retQ P fn r) (St.init args fn.ntmps)) : Pure P f args r := by
  refine ⟨⟨fn, hf, hname, by rw [hb]; rfl⟩, hi, fun w S vs hst hl hr => ?_⟩
  refine calls_of_wp hf hb ?_
  have hs : Sim (fun k => k < w.heap.size) S ⟨id, id, id⟩ (St.init args fn.ntmps) { tmps := ⟨vs⟩ ++ Array.replicate (fn.ntmps - vs.length) undef, defers := [] } w := by
    have rep : ∀ i, Rep S (((⟨vs⟩ : Array Value) ++ Array.replicate (fn.ntmps - vs.length) undef).getD i undef) (initFr 0 args i) := fun i => by
      rw [initFr_getD args 0 i (Nat.zero_le _), Nat.sub_zero]
      by_cases hi : i < args.length
      · have := hr i hi
        rw [getD_lt hi] at this ⊢
        rw [getD_lt (by omega)] at this
        have e : ((⟨vs⟩ : Array Value) ++ Array.replicate (fn.ntmps - vs.length) undef).getD i undef = vs[i]'(by omega) := by
          rw [Array.getD_eq_getD_getElem?, Array.getElem?_append_left (by simp; omega)]
          simp [show i < vs.length by omega]
        rw [e]; exact this
      · rw [getD_ge (by omega)]
        have e : ((⟨vs⟩ : Array Value) ++ Array.replicate (fn.ntmps - vs.length) undef).getD i undef = undef := by
          rw [Array.getD_eq_getD_getElem?, Array.getElem?_append_right (by simp; omega)]
          simp only [Array.getElem?_replicate]
          split <;> rfl
        rw [e]
        exact .tup [] [] rfl (fun i hi => by simp at hi)
    refine ⟨rfl, ?_, fun _ h => h, ⟨hst, fun b c hc => by simp [St.init, Hp.empty] at hc, fun b x hx => by simp [St.init, Hp.empty] at hx⟩, fun i => .clean (rep i), fun i id hid => absurd hid ((rep i).clean_ids id), fun id cs hid => ?_, fun id r hid => ?_, fun id id' cs cs' hid => ?_, fun id id' n sz e n' sz' e' hid => ?_, fun id id' cs n sz e hid => ?_⟩
    · simp [St.init]; omega
    · simp [St.init, Hp.empty] at hid
    · simp [St.init, Hp.empty] at hid
    · simp [St.init, Hp.empty] at hid
    · simp [St.init, Hp.empty] at hid
    · simp [St.init, Hp.empty] at hid
  have hw := h (fun k => k < w.heap.size) S _ _ w hs
  have hsz : (⟨vs⟩ : Array Value).size = vs.length := by simp
  rw [hsz]
  refine wp_mono hw fun e a' w' hq => ?_
  obtain ⟨s', S', M', h1, h2, h3⟩ := hq
  have fin : retP P fn r s' → a'.defers = [] ∧ ∃ v, (results fn a'.tmps).run P w' = .ok v w' ∧ ∃ v' S', Ending.returned v = .returned v' ∧ Rep S' v' r ∧ StabS S' w' ∧ SLe S S' ∧ (∀ b, b < w.heap.size → (∀ o, S' b o = S b o) ∧ S'.m b = S.m b) ∧ Below w.heap.size w w' := by
    rintro ⟨g1, g2, rfl⟩
    obtain ⟨v, hv, hrv⟩ := results_sound h2 g1
    exact ⟨h2.defers, v, hv, v, S', rfl, hrv.give h2 g2, h2.stable.s, h3.1, h3.2.1, h3.2.2.to⟩
  cases e with
  | normal => exact fin h1
  | ret => exact fin h1
  | _ => exact h1.elim
end
end Go.PL

namespace Go.PL
open Go.RowKit
set_option linter.unusedVariables false

mutual
/-- no map is told in it -/
def PV.nomap : PV → Bool
  | .rmap _ _ => false
  | .sl _ es => PV.nomapL es
  | .rptr cs => PV.nomapL cs
  | .agg cs => PV.nomapL cs
  | .tup cs => PV.nomapL cs
  | .fn _ cs => PV.nomapL cs
  | _ => true
def PV.nomapL : List PV → Bool
  | [] => true
  | c :: cs => PV.nomap c && PV.nomapL cs
end
mutual
/-- maps that are written still, told by what they hold -/
def PV.shut (o : Nat → Option MapC) : PV → PV
  | .mref b => match o b with
    | some c => .rmap c.ks c.vs
    | none => .mref b
  | .rptr cs => .rptr (PV.sealL o cs)
  | .agg cs => .agg (PV.sealL o cs)
  | .tup cs => .tup (PV.sealL o cs)
  | .fn f cs => .fn f (PV.sealL o cs)
  | p => p
def PV.sealL (o : Nat → Option MapC) : List PV → List PV
  | [] => []
  | c :: cs => PV.shut o c :: PV.sealL o cs
end

theorem nomapL_iff : ∀ {cs : List PV}, PV.nomapL cs = true ↔ ∀ c ∈ cs, c.nomap = true
  | [] => by simp [PV.nomapL]
  | c :: cs => by simp [PV.nomapL, nomapL_iff (cs := cs)]
theorem nomapL_getD {cs : List PV} (h : PV.nomapL cs = true) (i : Nat) : (cs.getD i .any).nomap = true := by
  by_cases hi : i < cs.length
  · exact nomapL_iff.1 h _ (getD_mem hi)
  · rw [getD_ge (by omega)]; rfl
theorem nomap_cells {p : PV} (h : p.nomap = true) (j : Nat) : (p.cells.getD j .any).nomap = true := by
  cases p with
  | agg cs => exact nomapL_getD (cs := cs) (by simpa [PV.nomap] using h) j
  | _ =>
    simp only [PV.cells]
    cases j with
    | zero => simpa using h
    | succ j => simp [PV.nomap]
theorem sealL_length (o : Nat → Option MapC) : ∀ (cs : List PV), (PV.sealL o cs).length = cs.length
  | [] => rfl
  | c :: cs => by simp [PV.sealL, sealL_length o cs]
theorem sealL_getD (o : Nat → Option MapC) : ∀ (cs : List PV) (i : Nat), i < cs.length → (PV.sealL o cs).getD i .any = (cs.getD i .any).shut o
  | [], i, h => by simp at h
  | c :: cs, 0, _ => by simp [PV.sealL]
  | c :: cs, i + 1, h => by simpa [PV.sealL] using sealL_getD o cs i (by simpa using h)

/-- a value of which no map is told leans on cells alone -/
theorem Rep.cells_only {S S' : Stable} (h : S'.c = S.c) {v : Value} {p : PV} (r : Rep S v p) (hn : p.nomap = true) : Rep S' v p := by
  induction r with
  | any v => exact .any v
  | int k n => exact .int k n
  | bool b => exact .bool b
  | str l => exact .str l
  | flt k b => exact .flt k b
  | cpx k a b => exact .cpx k a b
  | agg vs cs hl _ ih => exact .agg vs cs hl (fun i hi => ih i hi (nomapL_getD hn i))
  | tup vs cs hl _ ih => exact .tup vs cs hl (fun i hi => ih i hi (nomapL_getD hn i))
  | sl0 a cap => exact .sl0 a cap
  | slnil => exact .slnil
  | sl b o cap sz es vals hsz hcap hS _ ih => exact .sl b o cap sz es vals hsz hcap (fun i j hi hj => by rw [h]; exact hS i j hi hj) (fun i j hi hj => ih i j hi hj (nomap_cells (nomapL_getD hn i) j))
  | rptr b o cs vals hS _ ih => exact .rptr b o cs vals (fun j hj => by rw [h]; exact hS j hj) (fun j hj => ih j hj (nomapL_getD hn j))
  | nilp => exact .nilp
  | nilfn => exact .nilfn
  | nilmap => exact .nilmap
  | mref b => exact .mref b
  | iptr b => exact .iptr b
  | rmap b es ks vs hS hk hv hb _ _ ihK ihV => simp [PV.nomap] at hn
  | fn f vs cs hl _ ih => exact .fn f vs cs hl (fun i hi => ih i hi (nomapL_getD hn i))

/-- the maps that are written still, taken as written no more -/
def sealS (S : Stable) (w : World) (o : Nat → Option MapC) : Stable :=
  ⟨S.c, fun b => match o b with
    | some _ => (match w.heap[b]? with | some (.map es _) => some es.toList | _ => none)
    | none => S.m b⟩

section
variable {P : Program} {B : Frm} {S : Stable} {M : Maps} {s : St} {a : Act} {w : World} {o : Nat → Option MapC} {it : Nat → Option IterC}

theorem sealS_at (hs : Stab B S w o it) {b : Nat} {c : MapC} (h : o b = some c) : ∃ es, (sealS S w o).m b = some es ∧ w.heap[b]? = some (.map ⟨es⟩ es.length) ∧ es.length = c.ks.length ∧ c.vs.length = c.ks.length ∧ (∀ i, i < c.ks.length → (es.getD i default).born = i) ∧
    (∀ i, i < c.ks.length → Rep S (es.getD i default).key (c.ks.getD i .any)) ∧ (∀ i, i < c.ks.length → Rep S (es.getD i default).val (c.vs.getD i .any)) := by
  obtain ⟨_, _, es, h1, h2⟩ := hs.o b c h
  exact ⟨es, by simp [sealS, h, h1], h1, h2⟩
theorem sealS_le (hs : Stab B S w o it) : SLe S (sealS S w o) := by
  refine ⟨fun _ _ _ h => h, fun b es h => ?_⟩
  cases ho : o b with
  | some c => rw [(hs.o b c ho).2.1] at h; cases h
  | none => simpa [sealS, ho] using h
theorem sealS_stab (hs : Stab B S w o it) : StabS (sealS S w o) w := by
  refine ⟨hs.s.c, fun b es h => ?_⟩
  cases ho : o b with
  | some c =>
    obtain ⟨es', h1, h2, _⟩ := sealS_at hs ho
    rw [h1] at h
    cases h
    exact h2
  | none => simp [sealS, ho] at h; exact hs.s.m b es h

theorem Rep.shut (hs : Stab B S w o it) {v : Value} {p : PV} (r : Rep S v p) : Rep (sealS S w o) v (p.shut o) := by
  have hle := sealS_le hs
  induction r with
  | agg vs cs hl _ ih => exact .agg vs _ (by rw [sealL_length]; exact hl) (fun i hi => by rw [sealL_length] at hi; rw [sealL_getD o cs i hi]; exact ih i hi)
  | tup vs cs hl _ ih => exact .tup vs _ (by rw [sealL_length]; exact hl) (fun i hi => by rw [sealL_length] at hi; rw [sealL_getD o cs i hi]; exact ih i hi)
  | fn f vs cs hl _ ih => exact .fn f vs _ (by rw [sealL_length]; exact hl) (fun i hi => by rw [sealL_length] at hi; rw [sealL_getD o cs i hi]; exact ih i hi)
  | any v => exact .any v
  | int k n => exact .int k n
  | bool b => exact .bool b
  | str l => exact .str l
  | flt k b => exact .flt k b
  | cpx k a b => exact .cpx k a b
  | sl0 a cap => exact .sl0 a cap
  | slnil => exact .slnil
  | sl b o' cap sz es vals h1 h2 h3 h4 _ => exact (Rep.sl b o' cap sz es vals h1 h2 h3 h4).mono hle
  | rptr b o' cs vals h1 h2 ih =>
    refine .rptr b o' _ vals (fun j hj => ?_) (fun j hj => ?_)
    · rw [sealL_length] at hj; exact h1 j hj
    · rw [sealL_length] at hj; rw [sealL_getD o cs j hj]; exact ih j hj
  | nilp => exact .nilp
  | nilfn => exact .nilfn
  | nilmap => exact .nilmap
  | iptr b => exact .iptr b
  | mref b =>
    unfold PV.shut
    cases ho : o b with
    | none => exact .mref b
    | some c =>
      obtain ⟨es, h1, h2, h3, h4, h5, h6, h7⟩ := sealS_at hs ho
      exact .rmap b es c.ks c.vs h1 h3 h4 h5 (fun i hi => (h6 i hi).mono hle) (fun i hi => (h7 i hi).mono hle)
  | rmap b es ks vs h1 h2 h3 h4 h5 h6 _ _ => exact (Rep.rmap b es ks vs h1 h2 h3 h4 h5 h6).mono hle
end

/-- A FUNCTION THAT WRITES ONE MAP: what it holds ahead of the call, and behind it -/
def Wr (P : Program) (f : FuncId) (args : Nat → List PV) (c : MapC) (r : PV) (c' : MapC) : Prop :=
  Callable P f ∧ r.dids = [] ∧ ∀ (b : Nat) (w : World) (S : Stable) (vs : List Value), StabS S w → S.m b = none → MapAt S w b c → vs.length = (args b).length → (∀ i, i < (args b).length → Rep S (vs.getD i undef) ((args b).getD i .any)) →
    Calls P f ⟨vs⟩ w fun e w' => ∃ v S', e = .returned v ∧ Rep S' v r ∧ StabS S' w' ∧ SLe S S' ∧ (∀ k, k < w.heap.size → k ≠ b → (∀ o, S' k o = S k o) ∧ S'.m k = S.m k) ∧ S'.m b = none ∧ MapAt S' w' b c' ∧ BelowF (fun k => k < w.heap.size ∧ k ≠ b) w w'

/-- A FUNCTION THAT MAKES ONE MAP and hands it on -/
def Mk (P : Program) (f : FuncId) (args : List PV) (r : Nat → PV) (c : MapC) : Prop :=
  Callable P f ∧ (∀ b, (r b).dids = []) ∧ ∀ (w : World) (S : Stable) (vs : List Value), StabS S w → vs.length = args.length → (∀ i, i < args.length → Rep S (vs.getD i undef) (args.getD i .any)) →
    Calls P f ⟨vs⟩ w fun e w' => ∃ v S' b, e = .returned v ∧ w.heap.size ≤ b ∧ Rep S' v (r b) ∧ StabS S' w' ∧ SLe S S' ∧ (∀ k, k < w.heap.size → (∀ o, S' k o = S k o) ∧ S'.m k = S.m k) ∧ S'.m b = none ∧ MapAt S' w' b c ∧ Below w.heap.size w w'

/-- a call whose callee looks into, writes or makes a map -/
def callX (P : Program) (g : FuncId) (args : List PV) (m : Hp) (K : PV → Hp → Prop) : Prop :=
  (∃ r, Pure P g (PV.sealL m.o args) r ∧ r.nomap = true ∧ K r m) ∨
  (∃ b c A r c', m.o b = some c ∧ args = A b ∧ Wr P g A c r c' ∧ K r { m with o := upd m.o b (some c') }) ∨
  (∃ r c, Mk P g args r c ∧ ∀ b, m.o b = none → K (r b) { m with o := upd m.o b (some c) })

def rangeX (x : PV) (m : Hp) (K : PV → Hp → Prop) : Prop :=
  match x with
  | .mref b => match m.o b with
    | some c => ∀ ib, m.it ib = none → K (.iptr ib) { m with it := upd m.it ib (some ⟨b, c.ks.length, []⟩) }
    | none => False
  | _ => False
def nextX (x : PV) (m : Hp) (K : PV → Hp → Prop) : Prop :=
  match x with
  | .iptr ib => match m.it ib with
    | some it => match m.o it.b with
      | some c => c.ks.length = it.n ∧ ((∀ i, i < it.n → i ∈ it.seen) → K (.tup [.bool false]) m) ∧
          ∀ i, i < it.n → i ∉ it.seen → K (.tup [.bool true, c.ks.getD i .any, c.vs.getD i .any]) { m with it := upd m.it ib (some ⟨it.b, it.n, it.seen ++ [i]⟩) }
      | none => False
    | none => False
  | _ => False
def makeX (m : Hp) (K : PV → Hp → Prop) : Prop := ∀ b, m.o b = none → K (.mref b) { m with o := upd m.o b (some ⟨[], []⟩) }

/-- operations whose outcome is open, or that reach into maps -/
def spec (P : Program) (o : Oper) (s : St) (K : St → Prop) : Prop :=
  match o.op with
  | .call c => match calleeOf s.eval c with
    | some (g, args) => PV.givableL s.m args ∧ callX P g (PV.giveL s.m args) s.m fun r m => K ((s.with m).put o.dst r)
    | none => False
  | .makeMap _ none => makeX s.m fun r m => K ((s.with m).put o.dst r)
  | .range t x => tmapB P t = true ∧ rangeX (s.eval x) s.m fun r m => K ((s.with m).put o.dst r)
  | .next x false => nextX (s.eval x) s.m fun r m => K ((s.with m).put o.dst r)
  | _ => False

end Go.PL
