/- A logic of values for functions that only read and build, over the model (part 3): no statement of the seat is proved here. -/
import Derived.Test.YtcinpbgpbehndaaPlB
import Derived.Scope
import Derived.ScopeJumps
import Derived.Orders
import Derived.LoopN
set_option linter.unusedSimpArgs false
set_option linter.unusedVariables false
namespace Go.PL
open Go.RowKit
set_option linter.unusedVariables false
section
variable {P : Program} {B : Nat} {S : Stable} {M : Maps} {s : St} {a : Act} {w : World}

theorem idsL_nil {cs : List PV} (h : PV.idsL cs = []) {i : Nat} (hi : i < cs.length) : (cs.getD i .any).ids = [] := by
  have hm := getD_mem (d := PV.any) hi
  apply List.eq_nil_iff_forall_not_mem.2
  intro r hr
  have := PV.mem_idsL.2 ⟨_, hm, hr⟩
  rw [h] at this
  cases this

/-- a value that leans on nothing of the call's own -/
theorem RepS.alone {q : Rows} {v : Value} {p : PV} (r : RepS S M q v p) (h : p.ids = []) : Rep S v p := by
  induction r with
  | clean r => exact r
  | ptr id off => simp [PV.ids] at h
  | osl id off len cap sz hc => simp [PV.ids] at h
  | row id v es r _ => simp [PV.ids] at h
  | agg vs cs hl _ ih => exact .agg vs cs hl (fun i hi => ih i hi (idsL_nil h hi))
  | tup vs cs hl _ ih => exact .tup vs cs hl (fun i hi => ih i hi (idsL_nil h hi))
  | fn f vs cs hl _ ih => exact .fn f vs cs hl (fun i hi => ih i hi (idsL_nil h hi))

theorem Sim.freeze (hs : Sim B S M s a w) {id : Nat} {cs : List PV} (hid : s.m.h id = some cs) (hp : PV.idsL cs = []) :
    ∃ S', Sim B S' M (s.with (s.m.freeze id)) a w ∧ Ext B S S' w w := by
  cases hz : s.m.z id with
  | true =>
    have e : s.m.freeze id = s.m := by
      have : upd s.m.z id true = s.m.z := by
        funext k; by_cases e : id = k
        · subst e; simp [upd, hz]
        · simp [upd, e]
      unfold Hp.freeze
      rw [this]
    exact ⟨S, by rw [e]; exact hs, Ext.refl _ _ _⟩
  | false =>
    obtain ⟨h1, h2, ⟨vs, t, h3, h4, h5⟩, h6⟩ := hs.own hid hz
    have hle : SLe S (addS S (M.φ id) vs.length vs) := fun b o v hv => by
      unfold addS
      rw [if_neg]
      · exact hv
      · rintro ⟨rfl, _⟩; rw [h2 o] at hv; cases hv
    have rep : ∀ {v p}, RepS S M s.m.q v p → RepS (addS S (M.φ id) vs.length vs) M s.m.q v p := fun r => r.heap hle (fun _ _ => rfl) (fun _ _ n sz e h => .inl ⟨h, rfl, rfl⟩)
    have e4 : ∀ i, i ≠ id → (s.m.freeze id).z i = s.m.z i := fun i h => upd_ne _ _ (Ne.symm h)
    have n2 : (s.m.freeze id).z id = true := upd_same _ _ _
    have other : ∀ {b o}, b ≠ M.φ id → addS S (M.φ id) vs.length vs b o = S b o := fun {b o} h => by
      unfold addS; rw [if_neg (fun hh => h hh.1)]
    refine ⟨addS S (M.φ id) vs.length vs, ⟨hs.defers, hs.hn, hs.hB, fun b o v hv => ?_, fun i => rep (hs.fr i), hs.ids, fun i ds hd => ?_, fun i r hr => ?_, ?_, hs.injq, ?_⟩, hle, ?_, Below.refl _ _⟩
    · unfold addS at hv
      split at hv
      · rename_i hb
        obtain ⟨rfl, ho⟩ := hb
        rw [cell_of h3, List.getElem?_eq_getElem ho, ← hv, getD_lt ho]
      · exact hs.stable b o v hv
    · simp only [St.with] at hd ⊢
      by_cases e : i = id
      · subst e
        rw [n2]
        have : ds = cs := by
          have hd' : s.m.h i = some ds := hd
          rw [hid] at hd'
          exact (Option.some.inj hd').symm
        subst this
        refine ⟨fun j => vs.getD j undef, fun j hj => ⟨?_, ?_⟩⟩
        · unfold addS; rw [if_pos ⟨rfl, by omega⟩]
        · exact ((h5 j hj).alone (idsL_nil hp hj)).mono hle
      · rw [e4 i e]
        have hb' := hs.blk i ds hd
        cases hzi : s.m.z i with
        | false =>
          rw [hzi] at hb'
          obtain ⟨g1, g2, ⟨us, t', g3, g4, g5⟩, g6⟩ := hb'
          have hne := hs.inj i id _ _ hd hid hzi hz e
          exact ⟨g1, fun o => by rw [other hne]; exact g2 o, ⟨us, t', g3, g4, fun k hk => rep (g5 k hk)⟩, g6⟩
        | true =>
          rw [hzi] at hb'
          obtain ⟨vals, hv⟩ := hb'; exact ⟨vals, fun j hj => ⟨hle _ _ _ (hv j hj).1, (hv j hj).2.mono hle⟩⟩
    · have hr' := hs.row i r hr
      cases r with
      | live n sz et =>
        obtain ⟨g1, g2⟩ := hr'
        refine ⟨g1, fun c hk => ?_⟩
        obtain ⟨k0, k0', k1, ⟨us, k2, k3⟩, k4⟩ := g2 c hk
        have hne := hs.injx id i _ _ _ _ hid hz hr (by omega)
        exact ⟨k0, k0', k1, ⟨us, k2, k3⟩, fun o ho => by rw [other (Ne.symm hne)]; exact k4 o ho⟩
      | dead => trivial
    · intro i k b b' hbi hbk zi zk hik
      simp only [St.with] at zi zk
      have hi' : i ≠ id := fun e => by subst e; rw [n2] at zi; cases zi
      have hk' : k ≠ id := fun e => by subst e; rw [n2] at zk; cases zk
      rw [e4 i hi'] at zi; rw [e4 k hk'] at zk
      exact hs.inj i k _ _ hbi hbk zi zk hik
    · intro i k b n sz e hbi zi hq hk
      simp only [St.with] at zi
      have hi' : i ≠ id := fun e => by subst e; rw [n2] at zi; cases zi
      rw [e4 i hi'] at zi
      exact hs.injx i k _ _ _ _ hbi zi hq hk
    · intro b o hb
      exact other (by omega)

/-- what a function value captures is handed out -/
def frozenBy (m : Hp) : List PV → Hp
  | [] => m
  | .ptr id _ :: cs => frozenBy (m.freeze id) cs
  | _ :: cs => frozenBy m cs
def capsOk (m : Hp) : List PV → Prop
  | [] => True
  | .ptr id _ :: cs => (match m.h id with | some ds => PV.idsL ds = [] | none => False) ∧ capsOk m cs
  | c :: cs => c.ids = [] ∧ capsOk m cs

theorem capsOk_freeze {m : Hp} (d : Nat) : ∀ {cs : List PV}, capsOk m cs → capsOk (m.freeze d) cs
  | [], _ => trivial
  | c :: cs, h => by
    cases c <;> exact ⟨h.1, capsOk_freeze d h.2⟩

theorem Sim.frozenBy (hs : Sim B S M s a w) : ∀ (cs : List PV), capsOk s.m cs → ∃ S', Sim B S' M (s.with (frozenBy s.m cs)) a w ∧ Ext B S S' w w := by
  intro cs
  induction cs generalizing s S with
  | nil => intro _; exact ⟨S, hs, Ext.refl _ _ _⟩
  | cons c cs ih =>
    intro hok
    have skip : ∀ m', PL.frozenBy s.m (c :: cs) = PL.frozenBy m' cs → (∃ S1, Sim B S1 M (s.with m') a w ∧ Ext B S S1 w w) → capsOk m' cs → ∃ S', Sim B S' M (s.with (PL.frozenBy s.m (c :: cs))) a w ∧ Ext B S S' w w := by
      intro m' e h1 h2
      obtain ⟨S1, hs1, he1⟩ := h1
      obtain ⟨S2, hs2, he2⟩ := ih hs1 h2
      refine ⟨S2, ?_, he1.trans he2⟩
      rw [e]
      exact hs2
    cases c with
    | ptr id off =>
      obtain ⟨h1, h2⟩ := hok
      cases hid : s.m.h id with
      | none => rw [hid] at h1; exact h1.elim
      | some ds =>
        rw [hid] at h1
        exact skip (s.m.freeze id) rfl (hs.freeze hid h1) (capsOk_freeze id h2)
    | _ => exact skip s.m rfl ⟨S, hs, Ext.refl _ _ _⟩ hok.2

theorem frozenBy_h (m : Hp) : ∀ cs, (frozenBy m cs).h = m.h
  | [] => rfl
  | c :: cs => by
    cases c <;> first | exact frozenBy_h m cs | exact frozenBy_h (m.freeze _) cs
theorem frozenBy_q (m : Hp) : ∀ cs, (frozenBy m cs).q = m.q
  | [] => rfl
  | c :: cs => by
    cases c <;> first | exact frozenBy_q m cs | exact frozenBy_q (m.freeze _) cs

mutual
/-- the value as it is handed to a callee: no row is told; a block that is handed out is told by what it holds -/
def PV.give (m : Hp) : PV → PV
  | .sl _ es => .sl .no es
  | .ptr id off => match m.z id, m.h id with
    | true, some cs => .rptr (cs.drop off)
    | _, _ => .ptr id off
  | .agg cs => .agg (PV.giveL m cs)
  | .tup cs => .tup (PV.giveL m cs)
  | .fn f cs => .fn f (PV.giveL m cs)
  | p => p
def PV.giveL (m : Hp) : List PV → List PV
  | [] => []
  | c :: cs => PV.give m c :: PV.giveL m cs
end
mutual
def PV.givable (m : Hp) : PV → Prop
  | .ptr id _ => m.z id = true ∧ m.h id ≠ none
  | .osl _ _ _ _ => False
  | .agg cs => PV.givableL m cs
  | .tup cs => PV.givableL m cs
  | .fn _ cs => PV.givableL m cs
  | _ => True
def PV.givableL (m : Hp) : List PV → Prop
  | [] => True
  | c :: cs => PV.givable m c ∧ PV.givableL m cs
end

theorem PV.giveL_length (m : Hp) : ∀ (cs : List PV), (PV.giveL m cs).length = cs.length
  | [] => rfl
  | c :: cs => by simp [PV.giveL, PV.giveL_length m cs]
theorem PV.giveL_getD (m : Hp) : ∀ (cs : List PV) (i : Nat), i < cs.length → (PV.giveL m cs).getD i .any = (cs.getD i .any).give m
  | [], i, h => by simp at h
  | c :: cs, 0, _ => by simp [PV.giveL]
  | c :: cs, i + 1, h => by simpa [PV.giveL] using PV.giveL_getD m cs i (by simpa using h)
theorem PV.givableL_getD {m : Hp} : ∀ {cs : List PV} (h : PV.givableL m cs) (i : Nat), i < cs.length → (cs.getD i .any).givable m
  | [], _, i, h => by simp at h
  | c :: cs, hc, 0, _ => by simpa using hc.1
  | c :: cs, hc, i + 1, h => by simpa using PV.givableL_getD hc.2 i (by simpa using h)

theorem Rep.give (m : Hp) {v : Value} {p : PV} (r : Rep S v p) : Rep S v (p.give m) := by
  induction r with
  | agg vs cs hl _ ih => exact .agg vs _ (by rw [PV.giveL_length]; exact hl) (fun i hi => by rw [PV.giveL_length] at hi; rw [PV.giveL_getD m cs i hi]; exact ih i hi)
  | tup vs cs hl _ ih => exact .tup vs _ (by rw [PV.giveL_length]; exact hl) (fun i hi => by rw [PV.giveL_length] at hi; rw [PV.giveL_getD m cs i hi]; exact ih i hi)
  | fn f vs cs hl _ ih => exact .fn f vs _ (by rw [PV.giveL_length]; exact hl) (fun i hi => by rw [PV.giveL_length] at hi; rw [PV.giveL_getD m cs i hi]; exact ih i hi)
  | any v => exact .any v
  | int k n => exact .int k n
  | bool b => exact .bool b
  | str l => exact .str l
  | flt k b => exact .flt k b
  | cpx k a b => exact .cpx k a b
  | sl0 a cap => exact .sl0 a cap
  | slnil => exact .sl0 none 0
  | sl b o cap sz es vals h1 h2 h3 h4 _ => exact .sl b o cap sz es vals h1 h2 h3 h4
  | rptr b o cs vals h1 h2 _ => exact .rptr b o cs vals h1 h2
  | nilp => exact .nilp
  | nilfn => exact .nilfn
  | nilmap => exact .nilmap

theorem RepS.give (hs : Sim B S M s a w) {v : Value} {p : PV} (r : RepS S M s.m.q v p) (h : p.givable s.m) : Rep S v (p.give s.m) := by
  induction r with
  | clean r => exact r.give s.m
  | ptr id off =>
    obtain ⟨h1, h2⟩ := h
    cases hid : s.m.h id with
    | none => exact absurd hid h2
    | some cs =>
      have hb := hs.blk id cs hid
      rw [h1] at hb
      obtain ⟨vals, hv⟩ := hb
      simp only [PV.give, h1, hid]
      refine .rptr (M.φ id) off _ (fun j => vals (off + j)) (fun j hj => ?_) (fun j hj => ?_)
      · simp only [List.length_drop] at hj
        exact (hv (off + j) (by omega)).1
      · simp only [List.length_drop] at hj
        rw [getD_drop]
        exact (hv (off + j) (by omega)).2
  | osl id off len cap sz hc => exact h.elim
  | row id v es r _ => exact r
  | agg vs cs hl _ ih => exact .agg vs _ (by rw [PV.giveL_length]; exact hl) (fun i hi => by rw [PV.giveL_length] at hi; rw [PV.giveL_getD s.m cs i hi]; exact ih i hi (PV.givableL_getD h i hi))
  | tup vs cs hl _ ih => exact .tup vs _ (by rw [PV.giveL_length]; exact hl) (fun i hi => by rw [PV.giveL_length] at hi; rw [PV.giveL_getD s.m cs i hi]; exact ih i hi (PV.givableL_getD h i hi))
  | fn f vs cs hl _ ih => exact .fn f vs _ (by rw [PV.giveL_length]; exact hl) (fun i hi => by rw [PV.giveL_length] at hi; rw [PV.giveL_getD s.m cs i hi]; exact ih i hi (PV.givableL_getD h i hi))

end
end Go.PL

namespace Go.PL
open Go.RowKit
set_option linter.unusedVariables false

/-- the type has a shape -/
def tkn (P : Program) (t : TypeId) : Bool := (P.underlying t).isSome
/-- a type's zero cells -/
def tzero (P : Program) (t : TypeId) : Option (List PV) := aMakeFull.tbdz P t

def aBuiltin (P : Program) (b : Builtin) (ts : List TypeId) (d : Option Nat) (xs : List PV) (m : Hp) : ARes :=
  match b, ts, xs with
  | .len, [t], [x] => aLen P t x m
  | .append, [t, tx], [x, y] => match d with
    | some d => aAppend P d t tx x y m
    | none => .fail
  | .max, _, [x, y] => aMax x y m
  | .min, _, [x, y] => aMin x y m
  | _, _, _ => .fail

def aop (P : Program) (o : Oper) (ρ : Operand → PV) (m : Hp) : ARes :=
  match o.op with
  | .move x => ⟨True, ρ x, m⟩
  | .assign x => ⟨True, ρ x, m⟩
  | .pick c x y => aPick (ρ c) (ρ x) (ρ y) m
  | .alloc t => match o.dst, tzero P t with
    | some d, some z => ⟨m.h d = none, .ptr d 0, m.new d z⟩
    | _, _ => .fail
  | .box _ x => match o.dst with
    | some d => ⟨m.h d = none ∧ (ρ x).known = true, .ptr d 0, m.new d (ρ x).cells⟩
    | none => .fail
  | .build t parts => aBuild P t (parts.toList.map fun x => (x.1, ρ x.2)) m
  | .buildSlice t len parts => match o.dst with
    | some d => aBuildSlice P d t len (parts.toList.map fun x => (x.1, ρ x.2)) m
    | none => .fail
  | .load t x => if tkn P t then aLoad P t (ρ x) m else .fail
  | .store t x y => if tkn P t then aStore P t (ρ x) (ρ y) m else .fail
  | .nilCheck x => aNilCheck (ρ x) m
  | .binOp op t x y _ => aBin P op t (ρ x) (ρ y) m
  | .unOp op _ x => aUn op (ρ x) m
  | .convert src dst x => aConv P src dst (ρ x) m
  | .makeFunc (.func f) first caps => if first.isEmpty then ⟨capsOk m (caps.toList.map ρ), .fn f (caps.toList.map ρ), frozenBy m (caps.toList.map ρ)⟩ else .fail
  | .makeSlice t l c => match o.dst with
    | some d => match l with
      | .const (.int _ 0) => aMakeRow P d t (ρ c) m
      | _ => aMakeFull P d t (ρ l) (ρ c) m
    | none => .fail
  | .slice t x lo hi mx => if mx.isNone then aSlice P t (ρ x) (lo.map ρ) (hi.map ρ) m else .fail
  | .fieldAddr t x f => aFieldAddr P t (ρ x) f m
  | .field t x f => aField P t (ρ x) f m
  | .indexAddr t x i => aIndexAddr P t (ρ x) (ρ i) m
  | .index t x i => aIndex P t (ρ x) (ρ i) m
  | .extract x i => aExtract (ρ x) i m
  | .call { callee := .builtin b, args, argTypes } => aBuiltin P b argTypes.toList o.dst (args.toList.map ρ) m
  | _ => .fail

mutual
/-- what a value leans on, all that lies below it too -/
def PV.dids : PV → List Ref
  | .ptr id _ => [.b id]
  | .osl id _ _ _ => [.b id]
  | .sl (.row id) es => .r id :: PV.didsL es
  | .sl _ es => PV.didsL es
  | .rptr cs => PV.didsL cs
  | .agg cs => PV.didsL cs
  | .tup cs => PV.didsL cs
  | .fn _ cs => PV.didsL cs
  | _ => []
def PV.didsL : List PV → List Ref
  | [] => []
  | c :: cs => PV.dids c ++ PV.didsL cs
end

/-- what a function of one way does, told of values: WHATEVER MEMORY IT IS CALLED IN -/
def Callable (P : Program) (f : FuncId) : Prop := ∃ fn, P.funcs[f]? = some fn ∧ fn.name ≠ "runtime.NumGoroutine" ∧ fn.body.isSome = true

def Pure (P : Program) (f : FuncId) (args : List PV) (r : PV) : Prop :=
  Callable P f ∧ r.dids = [] ∧ ∀ (w : World) (S : Stable) (vs : List Value), (∀ b o v, S b o = some v → w.cell? ⟨b, o, none⟩ = some v) → vs.length = args.length → (∀ i, i < args.length → Rep S (vs.getD i undef) (args.getD i .any)) →
    Calls P f ⟨vs⟩ w fun e w' => ∃ v S', e = .returned v ∧ Rep S' v r ∧ (∀ b o v, S' b o = some v → w'.cell? ⟨b, o, none⟩ = some v) ∧ SLe S S' ∧ (∀ b o, b < w.heap.size → S' b o = S b o) ∧ Below w.heap.size w w'

/-- a call: what is called, with what -/
def calleeOf (ρ : Operand → PV) (c : Call) : Option (FuncId × List PV) :=
  match c.callee with
  | .value f => match ρ f with
    | .fn g caps => some (g, c.args.toList.map ρ ++ caps)
    | _ => none
  | _ => none

/-- one operation: the value, and the call's own memory behind it -/
def StepM (P : Program) (o : Oper) (ρ : Operand → PV) (m : Hp) (v : PV) (m' : Hp) : Prop :=
  ((aop P o ρ m).ok ∧ v = (aop P o ρ m).v ∧ m' = (aop P o ρ m).m) ∨
  (∃ c g args, o.op = .call c ∧ calleeOf ρ c = some (g, args) ∧ PV.givableL m args ∧ Pure P g (PV.giveL m args) v ∧ m' = m)

section
variable {P : Program} {B : Nat} {S : Stable} {M : Maps} {s : St} {a : Act} {w : World}

/-- what an operation comes to -/
def Done (P : Program) (B : Nat) (S : Stable) (s : St) (a : Act) (w : World) (o : Oper) (p : PV) (m' : Hp) : Prop :=
  ∀ (next : Act → World → Prop) (Q : Exit → Act → World → Prop), (∀ v w' S' M', Sim B S' M' ((s.with m').put o.dst p) (a.put o.dst v) w' → Ext B S S' w w' → next (a.put o.dst v) w') → o.wp P a w next Q

theorem Done.of_snd {o : Oper} {sm : Sem Value} {r : ARes} (he : (execOp a.eval o).run P w = (sm.run P w).andThen fun v w' => .ok (.value v) w') (hd : ∀ x, o.dst = some x → x < s.n) (h : Snd P B S s a w sm r) : Done P B S s a w o r.v r.m := by
  intro next Q hn
  obtain ⟨v, w', S', M', h1, h2, h3, h4, h5⟩ := h
  unfold Oper.wp
  rw [he, h1]
  exact hn v w' S' M' (h2.put hd h3 h4) h5

theorem Done.of_sndU {o : Oper} {sm : Sem Unit} {r : ARes} (he : (execOp a.eval o).run P w = (sm.run P w).andThen fun _ w' => .ok .skip w') (hd : ∀ x, o.dst = some x → x < s.n) (h : SndU P B S s a w sm r) : Done P B S s a w o r.v r.m := by
  intro next Q hn
  obtain ⟨w', S', M', h1, h2, h3, h4⟩ := h
  unfold Oper.wp
  rw [he, h1]
  refine hn undef w' S' M' (h2.put hd ?_ ?_) h4
  · rw [h3]; exact .clean (.tup [] [] rfl (fun i hi => by simp at hi))
  · rw [h3]; simp [PV.ids, PV.idsL]

theorem map_getD {f : Operand → PV} {g : Operand → Value} {l : List Operand} (h : ∀ x, RepS S M s.m.q (g x) (f x)) : ∀ i, i < (l.map f).length → RepS S M s.m.q ((l.map g).getD i undef) ((l.map f).getD i .any) := by
  intro i hi
  simp only [List.length_map] at hi
  rw [getD_lt (by simpa using hi), getD_lt (by simpa using hi)]
  simp only [List.getElem_map]
  exact h _

theorem run_v {sm : Sem Value} : (do Pure.pure (Next.value (← sm)) : Sem Next).run P w = (sm.run P w).andThen fun v w' => .ok (.value v) w' := by
  simp
theorem run_u {sm : Sem Unit} : (do sm; Pure.pure Next.skip : Sem Next).run P w = (sm.run P w).andThen fun _ w' => .ok .skip w' := by
  simp

theorem parts_ok (hs : Sim B S M s a w) (parts : List (Nat × Operand)) : (parts.map fun x => (x.1, a.eval x.2)).length = (parts.map fun x => (x.1, s.eval x.2)).length ∧
    (∀ i, i < (parts.map fun x => (x.1, s.eval x.2)).length → ((parts.map fun x => (x.1, a.eval x.2)).getD i (0, undef)).1 = ((parts.map fun x => (x.1, s.eval x.2)).getD i (0, .any)).1 ∧
      RepS S M s.m.q ((parts.map fun x => (x.1, a.eval x.2)).getD i (0, undef)).2 ((parts.map fun x => (x.1, s.eval x.2)).getD i (0, .any)).2) ∧
    ∀ x ∈ (parts.map fun x => (x.1, s.eval x.2)), ∀ i ∈ x.2.ids, Live s.m i := by
  refine ⟨by simp, fun i hi => ?_, fun x hx i hi => ?_⟩
  · simp only [List.length_map] at hi
    rw [getD_lt (by simpa using hi), getD_lt (by simpa using hi)]
    simp only [List.getElem_map]
    exact ⟨trivial, hs.eval _⟩
  · obtain ⟨y, hy, rfl⟩ := List.mem_map.1 hx
    exact hs.eval_ids _ i hi

set_option maxHeartbeats 1000000 in
theorem aop_sound (hs : Sim B S M s a w) {o : Oper} (hd : ∀ x, o.dst = some x → x < s.n) (hok : (aop P o s.eval s.m).ok) : Done P B S s a w o (aop P o s.eval s.m).v (aop P o s.eval s.m).m := by
  have E := hs.eval
  have I := hs.eval_ids
  obtain ⟨dst, op, ty, pos, after, guard⟩ := o
  unfold aop at hok ⊢
  simp only at hok ⊢ hd
  have mv : ∀ x : Operand, op = .move x ∨ op = .assign x → Done P B S s a w ⟨dst, op, ty, pos, after, guard⟩ (s.eval x) s.m := by
    intro x hx next Q hn
    unfold Oper.wp
    have : (execOp a.eval ⟨dst, op, ty, pos, after, guard⟩).run P w = .ok (.value (a.eval x)) w := by rcases hx with rfl | rfl <;> rfl
    rw [this]
    exact hn _ w S M (hs.put hd (E x) (I x)) (Ext.refl _ _ _)
  cases op with
  | move x => exact mv x (.inl rfl)
  | assign x => exact mv x (.inr rfl)
  | pick c x y =>
    have ec := E c
    revert hok
    show (aPick (s.eval c) (s.eval x) (s.eval y) s.m).ok → Done P B S s a w _ (aPick (s.eval c) (s.eval x) (s.eval y) s.m).v (aPick (s.eval c) (s.eval x) (s.eval y) s.m).m
    unfold aPick
    split
    · rename_i hc
      intro _ next Q hn
      rw [hc] at ec
      unfold Oper.wp
      have : (execOp a.eval ⟨dst, .pick c x y, ty, pos, after, guard⟩).run P w = .ok (.value (a.eval x)) w := by simp [execOp, ec.bool_inv, asBool]
      rw [this]
      exact hn _ w S M (hs.put hd (E x) (I x)) (Ext.refl _ _ _)
    · rename_i hc
      intro _ next Q hn
      rw [hc] at ec
      unfold Oper.wp
      have : (execOp a.eval ⟨dst, .pick c x y, ty, pos, after, guard⟩).run P w = .ok (.value (a.eval y)) w := by simp [execOp, ec.bool_inv, asBool]
      rw [this]
      exact hn _ w S M (hs.put hd (E y) (I y)) (Ext.refl _ _ _)
    · exact fun h => h.elim
  | alloc t =>
    simp only at hok ⊢
    cases dst with
    | none => exact hok.elim
    | some d =>
      cases hz : tzero P t with
      | none => simp only [hz] at hok; exact hok.elim
      | some z =>
        simp only [hz] at hok ⊢
        unfold tzero aMakeFull.tbdz at hz
        split at hz
        · rename_i i hi
          split at hz
          · rename_i zv hzv
            split at hz
            · rename_i hk
              cases hz
              exact Done.of_snd (sm := Instr.alloc t true (.tuple #[])) run_v hd (sound_alloc hs hi hzv hok hk (s.m.h d = none))
            · cases hz
          · cases hz
        · cases hz
  | box t x =>
    simp only at hok ⊢
    cases dst with
    | none => exact hok.elim
    | some d => exact Done.of_snd (sm := Instr.box t (a.eval x)) run_v hd (sound_box hs (E x) (I x) hok.1 hok.2 _)
  | build t parts =>
    obtain ⟨parts⟩ := parts
    simp only at hok ⊢
    obtain ⟨p1, p2, p3⟩ := parts_ok hs parts
    exact Done.of_snd (sm := Instr.build t ⟨parts.map fun x => (x.1, a.eval x.2)⟩) (by simp [execOp]) hd (sound_build hs p1 p2 p3 hok)
  | buildSlice t len parts =>
    obtain ⟨parts⟩ := parts
    simp only at hok ⊢
    cases dst with
    | none => exact hok.elim
    | some d =>
      obtain ⟨p1, p2, p3⟩ := parts_ok hs parts
      exact Done.of_snd (sm := Instr.buildSlice t len ⟨parts.map fun x => (x.1, a.eval x.2)⟩) (by simp [execOp]) hd (sound_buildSlice hs p1 p2 hok)
  | load t x =>
    simp only at hok ⊢
    split at hok
    · rename_i hk
      rw [if_pos hk]
      exact Done.of_snd (sm := Instr.loadAt t (a.eval x)) run_v hd (sound_load hs (E x) (by intro h; simp [tkn, h] at hk) hok)
    · exact hok.elim
  | store t x y =>
    simp only at hok ⊢
    split at hok
    · rename_i hk
      rw [if_pos hk]
      exact Done.of_sndU (sm := Instr.storeAt t (a.eval x) (a.eval y)) run_u hd (sound_store hs (E x) (E y) (I y) (by intro h; simp [tkn, h] at hk) hok)
    · exact hok.elim
  | nilCheck x =>
    simp only at hok ⊢
    revert hok
    have ex := E x
    have ix := I x
    unfold aNilCheck
    have fin : ∀ {p : PV}, s.eval x = p → (execOp a.eval ⟨dst, .nilCheck x, ty, pos, after, guard⟩).run P w = .ok (.value (a.eval x)) w → Done P B S s a w ⟨dst, .nilCheck x, ty, pos, after, guard⟩ p s.m := by
      intro p hp hrun next Q hn
      unfold Oper.wp
      rw [hrun]
      exact hn _ w S M (hs.put hd (hp ▸ E x) (hp ▸ I x)) (Ext.refl _ _ _)
    split
    · rename_i id off hx
      intro _
      rw [hx] at ex
      exact fin hx (by simp [execOp, ex.ptr_inv])
    · rename_i cs hx
      intro _
      rw [hx] at ex
      obtain ⟨b, o, vals, e, _⟩ := ex.rptr_inv
      exact fin hx (by simp [execOp, e])
    · rename_i f cs hx
      intro _
      rw [hx] at ex
      obtain ⟨vs, e, _⟩ := ex.fn_inv
      exact fin hx (by simp [execOp, e])
    · exact fun h => h.elim
  | binOp op t x y yt => exact Done.of_snd (sm := do eqGuard op t x y (a.eval x) (a.eval y); binOp op t (a.eval x) (a.eval y)) run_v hd (sound_bin hs (E x) (E y) hok)
  | unOp op t x => exact Done.of_snd (sm := Op.unary op (a.eval x)) run_v hd (sound_un hs (E x) hok)
  | convert src d x => exact Done.of_snd (sm := convert src d (a.eval x)) run_v hd (sound_conv hs (E x) hok)
  | makeFunc fn first caps =>
    obtain ⟨caps⟩ := caps
    cases fn with
    | func f =>
      simp only at hok ⊢
      split at hok
      · rename_i hf
        rw [if_pos hf]
        simp only at hok ⊢
        obtain ⟨S', hs', he⟩ := hs.frozenBy _ hok
        intro next Q hn
        unfold Oper.wp
        have hfe : first = #[] := by simpa using hf
        have : (execOp a.eval ⟨dst, .makeFunc (.func f) first ⟨caps⟩, ty, pos, after, guard⟩).run P w = .ok (.value (.func (.func f) #[] ⟨caps.map a.eval⟩)) w := by
          subst hfe
          simp [execOp, Instr.makeFunc]
        rw [this]
        refine hn _ w S' M (hs'.put hd ?_ ?_) he
        · refine .fn f _ _ (by simp) (fun i hi => ?_)
          have := map_getD (s := s) (S := S) (M := M) (l := caps) E i hi
          refine this.heap he.1 (fun _ _ => rfl) (fun k hk n sz e hq => .inl ⟨?_, rfl, rfl⟩)
          simpa [St.with, frozenBy_q] using hq
        · intro i hi
          obtain ⟨c, hc, hic⟩ := PV.mem_idsL.1 (by simpa [PV.ids] using hi)
          obtain ⟨x, hx, rfl⟩ := List.mem_map.1 hc
          have := I x i hic
          cases i with
          | b k => show (frozenBy s.m _).h k ≠ none; rw [frozenBy_h]; exact this
          | r k => show (frozenBy s.m _).q k ≠ none; rw [frozenBy_q]; exact this
      · exact hok.elim
    | _ => exact hok.elim
  | makeSlice t l c =>
    simp only at hok ⊢
    cases dst with
    | none => exact hok.elim
    | some d =>
      simp only at hok ⊢
      split at hok
      · rename_i k
        exact Done.of_snd (sm := Instr.makeSlice t (.int k 0) (a.eval c)) run_v hd (sound_makeRow hs (E c) hok)
      · exact Done.of_snd (sm := Instr.makeSlice t (a.eval l) (a.eval c)) run_v hd (sound_makeFull hs (E l) (E c) hok)
  | slice t x lo hi mx =>
    simp only at hok ⊢
    split at hok
    · rename_i hm
      rw [if_pos hm]
      cases mx with
      | some _ => simp at hm
      | none =>
        refine Done.of_snd (sm := Instr.sliceAt t (a.eval x) (lo.map a.eval) (hi.map a.eval) none) run_v hd (sound_slice hs (E x) (I x) ?_ ?_ (by simp) (by simp) hok)
        · intro v p h1 h2
          cases lo with
          | none => cases h1
          | some y => cases h1; cases h2; exact E y
        · intro v p h1 h2
          cases hi with
          | none => cases h1
          | some y => cases h1; cases h2; exact E y
    · exact hok.elim
  | fieldAddr t x f => exact Done.of_snd (sm := Instr.fieldAt t (a.eval x) f) run_v hd (sound_fieldAddr hs (E x) (I x) hok)
  | field t x f => exact Done.of_snd (sm := Instr.field t (a.eval x) f) run_v hd (sound_field hs (E x) (I x) hok)
  | indexAddr t x i => exact Done.of_snd (sm := Instr.indexAt t (a.eval x) (a.eval i)) run_v hd (sound_indexAddr hs (E x) (I x) (E i) hok)
  | index t x i => exact Done.of_snd (sm := Instr.index t (a.eval x) (a.eval i)) run_v hd (sound_index hs (E x) (I x) (E i) hok)
  | extract x i => exact Done.of_snd (sm := Instr.extract (a.eval x) i) run_v hd (sound_extract hs (E x) (I x) hok)
  | call c =>
    obtain ⟨callee, args, argTypes⟩ := c
    cases callee with
    | builtin b =>
      obtain ⟨args⟩ := args
      obtain ⟨tys⟩ := argTypes
      simp only at hok ⊢
      revert hok
      unfold aBuiltin
      split
      · rename_i t p hx
        intro hok
        obtain ⟨x, rfl, rfl⟩ : ∃ x, args = [x] ∧ p = s.eval x := by
          match args, hx with
          | [x], hx => exact ⟨x, rfl, by simpa using hx.symm⟩
        exact Done.of_snd (sm := Builtin.len_ #[t] ty #[a.eval x]) (by simp [execOp, resolve, invoke, builtin]) hd (sound_len hs (E x) hok)
      · rename_i t tx p p' hx
        obtain ⟨x, y, rfl, rfl, rfl⟩ : ∃ x y, args = [x, y] ∧ p = s.eval x ∧ p' = s.eval y := by
          match args, hx with
          | [x, y], hx => simp at hx; exact ⟨x, y, rfl, hx.1.symm, hx.2.symm⟩
        split
        · rename_i d
          intro hok
          exact Done.of_snd (sm := Builtin.append_ #[t, tx] ty #[a.eval x, a.eval y]) (by simp [execOp, resolve, invoke, builtin]) hd (sound_append hs (E x) (I x) (E y) hok)
        · exact fun h => h.elim
      · rename_i tys b0 ts0 xs0 p p' hx
        intro hok
        obtain ⟨x, y, rfl, rfl, rfl⟩ : ∃ x y, args = [x, y] ∧ p = s.eval x ∧ p' = s.eval y := by
          match args, hx with
          | [x, y], hx => simp at hx; exact ⟨x, y, rfl, hx.1.symm, hx.2.symm⟩
        exact Done.of_snd (sm := Builtin.max_ ⟨tys⟩ ty #[a.eval x, a.eval y]) (by simp [execOp, resolve, invoke, builtin]) hd (sound_max hs (E x) (E y) hok)
      · rename_i tys b0 ts0 xs0 p p' hx
        intro hok
        obtain ⟨x, y, rfl, rfl, rfl⟩ : ∃ x y, args = [x, y] ∧ p = s.eval x ∧ p' = s.eval y := by
          match args, hx with
          | [x, y], hx => simp at hx; exact ⟨x, y, rfl, hx.1.symm, hx.2.symm⟩
        exact Done.of_snd (sm := Builtin.min_ ⟨tys⟩ ty #[a.eval x, a.eval y]) (by simp [execOp, resolve, invoke, builtin]) hd (sound_min hs (E x) (E y) hok)
      · exact fun h => h.elim
    | _ => exact hok.elim
  | _ => exact hok.elim

theorem call_sound (hs : Sim B S M s a w) {o : Oper} {c : Call} {g : FuncId} {args : List PV} {r : PV} (hd : ∀ x, o.dst = some x → x < s.n) (ho : o.op = .call c) (hc : calleeOf s.eval c = some (g, args)) (hg : PV.givableL s.m args)
    (hp : Pure P g (PV.giveL s.m args) r) : Done P B S s a w o r s.m := by
  intro next Q hn
  obtain ⟨dst, op, ty, pos, after, guard⟩ := o
  simp only at ho hd
  subst ho
  obtain ⟨callee, cargs, ts⟩ := c
  obtain ⟨cargs⟩ := cargs
  unfold calleeOf at hc
  cases callee with
  | value f =>
    simp only at hc
    split at hc
    · rename_i g' caps hf
      simp only [Option.some.injEq, Prod.mk.injEq] at hc
      obtain ⟨rfl, rfl⟩ := hc
      have ef := hs.eval f
      rw [hf] at ef
      obtain ⟨vs, hv, hl, hr⟩ := ef.fn_inv
      obtain ⟨⟨fn, c1, c2, c3⟩, _, hcalls⟩ := hp
      have hargs : ∀ i, i < (cargs.map s.eval ++ caps).length → RepS S M s.m.q ((cargs.map a.eval ++ vs).getD i undef) ((cargs.map s.eval ++ caps).getD i .any) := by
        intro i hi
        by_cases h1 : i < cargs.length
        · rw [getD_append_left (by simpa using h1), getD_append_left (by simpa using h1)]
          exact map_getD (s := s) hs.eval i (by simpa using h1)
        · rw [getD_append_right (by simp; omega), getD_append_right (by simp; omega)]
          simp only [List.length_map]
          exact hr _ (by simp at hi; omega)
      have hrun : (execOp a.eval ⟨dst, .call ⟨.value f, ⟨cargs⟩, ts⟩, ty, pos, after, guard⟩).run P w = .ok (.enter g' ⟨cargs.map a.eval ++ vs⟩) w := by
        have hb : ¬ fn.body = none := by intro h; simp [h] at c3
        simp [execOp, resolve, Deferred.ofValue, hv, invoke, callFunc, program, Sem.run, c1, hb, c2]
      unfold Oper.wp
      rw [hrun]
      show Calls P g' ⟨cargs.map a.eval ++ vs⟩ w _
      have hcl := hcalls w S (cargs.map a.eval ++ vs) hs.stable (by simp [PV.giveL_length, hl]) (fun i hi => by
        rw [PV.giveL_length] at hi
        rw [PV.giveL_getD _ _ i hi]
        exact (hargs i hi).give hs (PV.givableL_getD hg i hi))
      refine hcl.mono fun e w' h => ?_
      obtain ⟨v, S', rfl, h2, h3, h4, h5, h6⟩ := h
      have hs' := hs.grow h4 h5 h3 h6.block h6.size
      exact hn v w' S' M (hs'.put hd (.clean h2) (fun i hi => absurd hi (h2.clean_ids i))) ⟨h4, fun b o hb => h5 b o (Nat.lt_of_lt_of_le hb hs.hB), h6.mono hs.hB⟩
    · cases hc
  | _ => simp at hc

theorem step_sound (hs : Sim B S M s a w) {o : Oper} {v : PV} {m' : Hp} (hd : ∀ x, o.dst = some x → x < s.n) (h : StepM P o s.eval s.m v m') : Done P B S s a w o v m' := by
  rcases h with ⟨h1, rfl, rfl⟩ | ⟨c, g, args, ho, hc, hg, hp, rfl⟩
  · exact aop_sound hs hd h1
  · exact call_sound hs hd ho hc hg hp

end
end Go.PL

namespace Go.PL
open Go.RowKit
set_option linter.unusedVariables false

/-- is the operation wanted? -/
def gdOf (want : Bool) : PV → Option Bool
  | .bool b => some (b == want)
  | .tup _ => some false
  | _ => none
def gd (ops : Array Oper) (s : St) (o : Oper) : Option Bool :=
  match o.guard with
  | none => some true
  | some (j, want) => match (ops[j]?).bind (·.dst) with
    | some d => if d < s.n then gdOf want (s.fr d) else none
    | none => some false

def dstOk (n : Nat) : Option Nat → Prop
  | some d => d < n
  | none => True

/-- the operations in the order of the text -/
def lexA (P : Program) (ops : Array Oper) (K : St → Prop) : List Oper → St → Prop
  | [], s => K s
  | o :: rest, s => dstOk s.n o.dst ∧ ((gd ops s o = some true ∧ ∃ v m', StepM P o s.eval s.m v m' ∧ lexA P ops K rest ((s.with m').put o.dst v)) ∨ (gd ops s o = some false ∧ lexA P ops K rest (s.put o.dst (.tup []))))

/-- what holds behind a piece of code, told of values -/
def awp (P : Program) (c : Code) (Q : Exit → St → Prop) (s : St) : Prop :=
  ∀ B S M a w, Sim B S M s a w → c.wp P (fun e a' w' => ∃ s' S' M', Q e s' ∧ Sim B S' M' s' a' w' ∧ Ext B S S' w w') a w

section
variable {P : Program} {B : Nat} {S : Stable} {M : Maps} {s : St} {a : Act} {w : World} {Q Q' : Exit → St → Prop}

theorem dstOk_spec {n : Nat} {d : Option Nat} (h : dstOk n d) : ∀ x, d = some x → x < n := fun x e => by subst e; exact h

def asB : Value → Option Bool
  | .bool b => some b
  | _ => none
theorem RepS.gdOf {q : Rows} {v : Value} {p : PV} {want c : Bool} (r : RepS S M q v p) (h : PL.gdOf want p = some c) : (asB v == some want) = c := by
  cases p <;> simp [PL.gdOf] at h
  · rw [r.bool_inv]; simpa [asB] using h
  · obtain ⟨vs, rfl, _⟩ := r.tup_inv; simpa [asB] using h

theorem gd_ok (hs : Sim B S M s a w) {ops : Array Oper} {o : Oper} {b : Bool} (h : gd ops s o = some b) : Region.wanted o (yielded ops a.tmps) = b := by
  unfold gd at h
  unfold Region.wanted
  cases hg : o.guard with
  | none => rw [hg] at h; simpa using h
  | some jw =>
    obtain ⟨j, want⟩ := jw
    rw [hg] at h
    simp only at h ⊢
    unfold yielded
    cases hd : (ops[j]?).bind (·.dst) with
    | none => rw [hd] at h; simpa using h
    | some d =>
      rw [hd] at h
      simp only at h
      split at h
      · rename_i hlt
        have hsz : d < a.tmps.size := by rw [hs.hn]; exact hlt
        have hr := hs.fr d
        have he : a.tmps[d]? = some (a.tmps.getD d undef) := by
          rw [Array.getD_eq_getD_getElem?, Array.getElem?_eq_getElem hsz]; rfl
        have hb := hr.gdOf h
        simp only [Option.bind_some, he]
        rw [← hb]
        cases a.tmps.getD d undef <;> rfl
      · cases h

theorem St.with_self (s : St) : s.with s.m = s := rfl

theorem skip_sim (hs : Sim B S M s a w) {d : Option Nat} (hd : dstOk s.n d) : Sim B S M (s.put d (.tup [])) (a.put d undef) w :=
  hs.put (dstOk_spec hd) (.clean (.tup [] [] rfl (fun i hi => by simp at hi))) (by simp [PV.ids, PV.idsL])

theorem lex_sound {ops : Array Oper} {K : St → Prop} {Qc : Exit → Act → World → Prop} {S0 : Stable} {w0 : World} (hQ : ∀ s' S' M' a' w', K s' → Sim B S' M' s' a' w' → Ext B S0 S' w0 w' → Qc .normal a' w') :
    ∀ (l : List Oper) (k : Nat) (s : St), (∀ j, l[j]? = ops[k + j]?) → lexA P ops K l s → ∀ S M a w, Sim B S M s a w → Ext B S0 S w0 w → wpOps P ops Qc (List.range' k l.length) a w
  | [], k, s, _, h, S, M, a, w, hs, he => hQ s S M a w h hs he
  | o :: rest, k, s, hl, h, S, M, a, w, hs, he => by
    have h0 : ops[k]? = some o := by simpa using (hl 0).symm
    have hl' : ∀ j, rest[j]? = ops[(k + 1) + j]? := fun j => by have := hl (j + 1); simpa [Nat.add_assoc, Nat.add_comm 1 j] using this
    obtain ⟨hd, h⟩ := h
    simp only [List.length_cons, List.range'_succ, wpOps, h0]
    rcases h with ⟨hg, v, m', hst, hrest⟩ | ⟨hg, hrest⟩
    · rw [gd_ok hs hg, if_pos rfl]
      exact .inl (step_sound hs (dstOk_spec hd) hst _ _ fun u w' S' M' hs' he' => lex_sound hQ rest (k + 1) _ hl' hrest S' M' _ w' hs' (he.trans he'))
    · rw [gd_ok hs hg, if_neg (by simp)]
      exact lex_sound hQ rest (k + 1) _ hl' hrest S M _ w (skip_sim hs hd) he

theorem awp_mono {c : Code} (h : ∀ e s, Q e s → Q' e s) (hh : awp P c Q s) : awp P c Q' s := fun B S M a w hs =>
  wp_mono (hh B S M a w hs) fun e a' w' ⟨s', S', M', h1, h2, h3⟩ => ⟨s', S', M', h _ _ h1, h2, h3⟩

theorem awp_region {id : Nat} {ops : Array Oper} (h : lexA P ops (Q .normal) ops.toList s) : awp P (.region id ops false) Q s := fun B S M a w hs => by
  refine wp_region ?_
  have := lex_sound (B := B) (S0 := S) (w0 := w) (Qc := fun e a' w' => ∃ s' S' M', Q e s' ∧ Sim B S' M' s' a' w' ∧ Ext B S S' w w') (fun s' S' M' a' w' h1 h2 h3 => ⟨s', S', M', h1, h2, h3⟩) ops.toList 0 s (by simp) h S M a w hs (Ext.refl _ _ _)
  rw [← List.range_eq_range'] at this
  simpa using this

theorem awp_skip (h : Q .normal s) : awp P .skip Q s := fun B S M a w hs => wp_skip ⟨s, S, M, h, hs, Ext.refl _ _ _⟩
theorem awp_label {l : Nat} (h : Q .normal s) : awp P (.label l) Q s := fun B S M a w hs => wp_label ⟨s, S, M, h, hs, Ext.refl _ _ _⟩
theorem awp_exit {id : Nat} (h : Q (.exit id) s) : awp P (.exit id) Q s := fun B S M a w hs => wp_exit ⟨s, S, M, h, hs, Ext.refl _ _ _⟩
theorem awp_goto {l : Nat} (h : Q (.goto l) s) : awp P (.goto l) Q s := fun B S M a w hs => wp_goto ⟨s, S, M, h, hs, Ext.refl _ _ _⟩
theorem awp_ret (h : Q .ret s) : awp P .ret Q s := fun B S M a w hs => wp_ret ⟨s, S, M, h, hs, Ext.refl _ _ _⟩

def thenQ (K : St → Prop) (Q : Exit → St → Prop) : Exit → St → Prop
  | .normal, s => K s
  | e, s => Q e s
theorem awp_seq {x y : Code} (h : awp P x (thenQ (awp P y Q) Q) s) : awp P (.seq x y) Q s := fun B S M a w hs => by
  refine wp_seq (wp_mono (h B S M a w hs) fun e a' w' hq => ?_)
  obtain ⟨s', S', M', h1, h2, h3⟩ := hq
  cases e with
  | normal =>
    refine wp_mono (h1 B S' M' a' w' h2) fun e a'' w'' hq' => ?_
    obtain ⟨s'', S'', M'', g1, g2, g3⟩ := hq'
    exact ⟨s'', S'', M'', g1, g2, h3.trans g3⟩
  | _ => exact ⟨s', S', M', h1, h2, h3⟩

theorem awp_cond {c : Operand} {x y : Code} {b : Bool} (hc : s.eval c = .bool b) (h : awp P (if b then x else y) Q s) : awp P (.cond c x y) Q s := fun B S M a w hs => by
  have he := hs.eval c
  rw [hc] at he
  exact wp_cond he.bool_inv (h B S M a w hs)

def blockQ (id : Nat) (Q : Exit → St → Prop) : Exit → St → Prop
  | .exit j, s => if j = id then Q .normal s else Q (.exit j) s
  | e, s => Q e s
theorem awp_block {id : Nat} {c : Code} (h : awp P c (blockQ id Q) s) : awp P (.block id c) Q s := fun B S M a w hs => by
  refine wp_block (wp_mono (h B S M a w hs) fun e a' w' hq => ?_)
  obtain ⟨s', S', M', h1, h2, h3⟩ := hq
  cases e with
  | exit j =>
    simp only [Exit.inBlock, blockQ] at h1 ⊢
    split at h1
    · rename_i hj
      simp only [hj, if_true]
      exact ⟨s', S', M', h1, h2, h3⟩
    · rename_i hj
      simp only [hj, if_false]
      exact ⟨s', S', M', h1, h2, h3⟩
  | _ => exact ⟨s', S', M', h1, h2, h3⟩

end
end Go.PL

namespace Go.PL
open Go.RowKit
set_option linter.unusedVariables false

def upds {α : Type} (L : List (Nat × α)) (f : Nat → α) : Nat → α := L.foldr (fun x g => upd g x.1 x.2) f
/-- slots of which nothing is told any more -/
def kills (ws : List Nat) (f : Nat → PV) : Nat → PV := fun i => if ws.contains i then .any else f i

/-- less is told -/
structure Weak (s' s : St) : Prop where
  n : s'.n = s.n
  fr : ∀ i, s'.fr i = .any ∨ s'.fr i = s.fr i
  h : ∀ i, s'.m.h i = none ∨ (s'.m.h i = s.m.h i ∧ s'.m.z i = s.m.z i)
  q : ∀ i, s'.m.q i = none ∨ s'.m.q i = s.m.q i

/-- what is told leans on what is there -/
structure Refs (s : St) : Prop where
  fr : ∀ i r, r ∈ (s.fr i).ids → Live s.m r
  h : ∀ i cs, s.m.h i = some cs → ∀ c ∈ cs, ∀ r ∈ c.ids, Live s.m r

section
variable {P : Program} {B : Nat} {S : Stable} {M : Maps} {s s' : St} {a : Act} {w : World} {Q Q' : Exit → St → Prop}

theorem Sim.refs (hs : Sim B S M s a w) : Refs s := by
  refine ⟨hs.ids, fun i cs hi c hc r hr => ?_⟩
  have hb := hs.blk i cs hi
  cases hz : s.m.z i with
  | false => rw [hz] at hb; exact hb.2.2.2 c hc r hr
  | true =>
    rw [hz] at hb
    obtain ⟨vals, hv⟩ := hb
    obtain ⟨j, hj, rfl⟩ := List.getElem_of_mem hc
    have := (hv j hj).2
    rw [getD_lt hj] at this
    exact absurd hr (this.clean_ids r)

theorem Sim.weak (hs : Sim B S M s a w) (hw : Weak s' s) (hr : Refs s') : Sim B S M s' a w := by
  have rep : ∀ {v p}, RepS S M s.m.q v p → (∀ r ∈ p.ids, Live s'.m r) → RepS S M s'.m.q v p := fun r _ =>
    r.heap (SLe.refl _) (fun _ _ => rfl) (fun i hi n sz e hq => by
      rcases hw.q i with h | h
      · rw [h] at hq; cases hq
      · exact .inl ⟨by rw [← h]; exact hq, rfl, rfl⟩)
  have hh : ∀ {i cs}, s'.m.h i = some cs → s.m.h i = some cs ∧ s'.m.z i = s.m.z i := fun {i cs} hi => by
    rcases hw.h i with h | ⟨h, hz⟩
    · rw [h] at hi; cases hi
    · exact ⟨by rw [← h]; exact hi, hz⟩
  have hq : ∀ {i r}, s'.m.q i = some r → s.m.q i = some r := fun {i r} hi => by
    rcases hw.q i with h | h
    · rw [h] at hi; cases hi
    · rw [← h]; exact hi
  refine ⟨hs.defers, by rw [hs.hn, hw.n], hs.hB, hs.stable, fun i => ?_, hr.fr, fun i cs hi => ?_, fun i r hi => hs.row i r (hq hi), ?_, ?_, ?_⟩
  · rcases hw.fr i with h | h
    · rw [h]; exact .clean (.any _)
    · rw [h]; exact rep (hs.fr i) (by rw [← h]; exact hr.fr i)
  · obtain ⟨h1, hz⟩ := hh hi
    have hb := hs.blk i cs h1
    rw [hz]
    cases hzi : s.m.z i with
    | false =>
      rw [hzi] at hb
      obtain ⟨g1, g2, ⟨us, t', g3, g4, g5⟩, g6⟩ := hb
      exact ⟨g1, g2, ⟨us, t', g3, g4, fun k hk => rep (g5 k hk) (fun r hr' => hr.h i cs hi _ (getD_mem hk) r hr')⟩, hr.h i cs hi⟩
    | true => rw [hzi] at hb; exact hb
  · intro i j cs cs' hi hj zi zj hij
    obtain ⟨h1, e1⟩ := hh hi
    obtain ⟨h2, e2⟩ := hh hj
    exact hs.inj i j _ _ h1 h2 (by rw [← e1]; exact zi) (by rw [← e2]; exact zj) hij
  · intro i j n1 z1 t1 n2 z2 t2 hi hj ki kj hij
    exact hs.injq i j _ _ _ _ _ _ (hq hi) (hq hj) ki kj hij
  · intro i j cs n1 z1 t1 hi zi hj kj
    obtain ⟨h1, e1⟩ := hh hi
    exact hs.injx i j _ _ _ _ h1 (by rw [← e1]; exact zi) (hq hj) kj

theorem awp_weak {c : Code} (hw : Weak s' s) (hr : Refs s → Refs s') (h : awp P c Q s') : awp P c Q s := fun B S M a w hs => h B S M a w (hs.weak hw (hr hs.refs))
theorem awp_refs {c : Code} (h : Refs s → awp P c Q s) : awp P c Q s := fun B S M a w hs => h hs.refs B S M a w hs

/-- a loop: 'I i': what is told at a round's head -/
theorem awp_loop_gen {c : Code} {ι : Type} (I : ι → St) (μ : ι → Nat) (i0 : ι) (h0 : Weak (I i0) s) (hr : Refs s → ∀ i, Refs (I i))
    (round : ∀ i, awp P c (thenQ (fun s' => ∃ j, μ j < μ i ∧ Weak (I j) s') Q) (I i)) : awp P (.loop c) Q s := fun B S M a w hs => by
  have hrefs := hr hs.refs
  have key : ∀ (k : Nat) (i : ι), μ i < k → ∀ S1 M1 a1 w1, Sim B S1 M1 (I i) a1 w1 → Ext B S S1 w w1 →
      Code.rounds P c (fun e a' w' => ∃ s' S' M', Q e s' ∧ Sim B S' M' s' a' w' ∧ Ext B S S' w w') k a1 w1 := by
    intro k
    induction k with
    | zero => intro i hi; omega
    | succ k ih =>
      intro i hi S1 M1 a1 w1 hs1 he1
      rw [rounds_succ]
      refine wp_mono (round i B S1 M1 a1 w1 hs1) fun e a' w' hq => ?_
      obtain ⟨s', S', M', h1, h2, h3⟩ := hq
      cases e with
      | normal =>
        obtain ⟨j, hj, hwk⟩ := h1
        exact ih j (by omega) S' M' a' w' (h2.weak hwk (hrefs j)) (he1.trans h3)
      | _ => exact ⟨s', S', M', h1, h2, he1.trans h3⟩
  exact wp_loop_rounds (μ i0 + 1) (key _ i0 (Nat.lt_succ_self _) S M a w (hs.weak h0 (hrefs i0)) (Ext.refl _ _ _))

/-- the slots that a list tells, and the rest as it was -/
def FrEq (X : List Nat) (f g : Nat → PV) : Prop := ∀ i, X.contains i = false → f i = g i
theorem FrEq.refl (X : List Nat) (f : Nat → PV) : FrEq X f f := fun _ _ => rfl
theorem FrEq.upd {X : List Nat} {f g : Nat → PV} {d : Nat} {v : PV} (hd : X.contains d = true) (h : FrEq X f g) : FrEq X (upd f d v) g := fun i hi => by
  by_cases e : d = i
  · subst e; rw [hd] at hi; cases hi
  · rw [upd_ne _ _ e]; exact h i hi
/-- what the smaller memory tells, the greater one tells too -/
def HWeak {α : Type} (f g : Nat → Option α) : Prop := ∀ i, f i = none ∨ f i = g i
theorem HWeak.refl {α : Type} (f : Nat → Option α) : HWeak f f := fun _ => .inr rfl
theorem HWeak.upd {α : Type} {f g : Nat → Option α} {d : Nat} {v : Option α} (hd : f d = none ∨ f d = v) (h : HWeak f g) : HWeak f (PL.upd g d v) := fun i => by
  by_cases e : d = i
  · subst e; rw [upd_same]; exact hd
  · rw [upd_ne _ _ e]; exact h i

theorem upds_ne {α : Type} {L : List (Nat × α)} {f : Nat → α} {i : Nat} (h : (L.map (·.1)).contains i = false) : upds L f i = f i := by
  induction L with
  | nil => rfl
  | cons x L ih =>
    simp only [List.map_cons, List.contains_cons, Bool.or_eq_false_iff, beq_eq_false_iff_ne] at h
    show upd (upds L f) x.1 x.2 i = f i
    rw [upd_ne _ _ (Ne.symm h.1)]
    exact ih h.2
theorem upds_all {α : Type} {L : List (Nat × α)} {f : Nat → α} {i : Nat} {R : Nat → α → Prop} (hL : ∀ x ∈ L, R x.1 x.2) (h : (L.map (·.1)).contains i = true) : R i (upds L f i) := by
  induction L with
  | nil => simp at h
  | cons x L ih =>
    show R i (upd (upds L f) x.1 x.2 i)
    by_cases e : x.1 = i
    · subst e; rw [upd_same]; exact hL x (by simp)
    · rw [upd_ne _ _ e]
      refine ih (fun y hy => hL y (by simp [hy])) ?_
      simp only [List.map_cons, List.contains_cons, Bool.or_eq_true, beq_iff_eq] at h
      exact h.resolve_left (Ne.symm e)

/-- what is told at a round's head: slots, blocks, rows that the list names; nothing of the slots ws; the rest as it was -/
def St.inv (s : St) (ws : List Nat) (L : List (Nat × PV)) (H : List (Nat × List PV)) (R : List (Nat × Row)) : St :=
  { fr := upds L (kills ws s.fr), m := { h := upds (H.map fun x => (x.1, some x.2)) s.m.h, z := upds (H.map fun x => (x.1, false)) s.m.z, q := upds (R.map fun x => (x.1, some x.2)) s.m.q }, n := s.n }

/-- behind a round: the slots, blocks and rows hold what the next head tells -/
structure Meets (s : St) (ws : List Nat) (L : List (Nat × PV)) (H : List (Nat × List PV)) (R : List (Nat × Row)) (s' : St) : Prop where
  n : s'.n = s.n
  fr : ∀ x ∈ L, s'.fr x.1 = x.2
  rest : FrEq (ws ++ L.map (·.1)) s'.fr s.fr
  h : ∀ x ∈ H, s'.m.h x.1 = some x.2 ∧ s'.m.z x.1 = false
  q : ∀ x ∈ R, s'.m.q x.1 = some x.2
  hrest : ∀ i, (H.map (·.1)).contains i = false → s.m.h i = none ∨ (s.m.h i = s'.m.h i ∧ s.m.z i = s'.m.z i)
  qrest : ∀ i, (R.map (·.1)).contains i = false → s.m.q i = none ∨ s.m.q i = s'.m.q i

theorem map1 {α β : Type} (L : List (Nat × α)) (f : α → β) : (L.map fun x => (x.1, f x.2)).map (·.1) = L.map (·.1) := by simp

theorem Meets.weak {ws : List Nat} {L : List (Nat × PV)} {H : List (Nat × List PV)} {R : List (Nat × Row)} (h : Meets s ws L H R s') : Weak (s.inv ws L H R) s' := by
  refine ⟨h.n.symm, fun i => ?_, fun i => ?_, fun i => ?_⟩
  · by_cases hi : (L.map (·.1)).contains i = true
    · exact .inr (upds_all (R := fun i v => v = s'.fr i) (fun x hx => (h.fr x hx).symm) hi)
    · have hi' : (L.map (·.1)).contains i = false := by simpa using hi
      show upds L (kills ws s.fr) i = _ ∨ upds L (kills ws s.fr) i = _
      rw [upds_ne hi']
      unfold kills
      by_cases hw : ws.contains i = true
      · rw [if_pos hw]; exact .inl rfl
      · rw [if_neg hw]
        refine .inr (h.rest i ?_).symm
        rw [List.contains_append, hi']
        simpa using hw
  · show upds (H.map fun x => (x.1, some x.2)) s.m.h i = none ∨ (upds (H.map fun x => (x.1, some x.2)) s.m.h i = _ ∧ upds (H.map fun x => (x.1, false)) s.m.z i = _)
    by_cases hi : (H.map (·.1)).contains i = true
    · right
      refine ⟨upds_all (R := fun i v => v = s'.m.h i) (fun x hx => ?_) (by rw [map1 H some]; exact hi), upds_all (R := fun i v => v = s'.m.z i) (fun x hx => ?_) (by rw [map1 H (fun _ => false)]; exact hi)⟩
      · obtain ⟨y, hy, rfl⟩ := List.mem_map.1 hx; exact (h.h y hy).1.symm
      · obtain ⟨y, hy, rfl⟩ := List.mem_map.1 hx; exact (h.h y hy).2.symm
    · have hi' : (H.map (·.1)).contains i = false := by simpa using hi
      rw [upds_ne (by rw [map1 H some]; exact hi'), upds_ne (by rw [map1 H (fun _ => false)]; exact hi')]
      exact h.hrest i hi'
  · show upds (R.map fun x => (x.1, some x.2)) s.m.q i = none ∨ upds (R.map fun x => (x.1, some x.2)) s.m.q i = _
    by_cases hi : (R.map (·.1)).contains i = true
    · right
      refine upds_all (R := fun i v => v = s'.m.q i) (fun x hx => ?_) (by rw [map1 R some]; exact hi)
      obtain ⟨y, hy, rfl⟩ := List.mem_map.1 hx; exact (h.q y hy).symm
    · have hi' : (R.map (·.1)).contains i = false := by simpa using hi
      rw [upds_ne (by rw [map1 R some]; exact hi')]
      exact h.qrest i hi'

/-- what the lists tell leans on what is there -/
def RefsL (s : St) (L : List (Nat × PV)) (H : List (Nat × List PV)) (R : List (Nat × Row)) : Prop :=
  (∀ x ∈ L, ∀ r ∈ x.2.ids, Live (s.inv [] L H R).m r) ∧ ∀ x ∈ H, ∀ c ∈ x.2, ∀ r ∈ c.ids, Live (s.inv [] L H R).m r

theorem Refs.inv {ws : List Nat} {L : List (Nat × PV)} {H : List (Nat × List PV)} {R : List (Nat × Row)} (h : Refs s) (hl : RefsL s L H R) : Refs (s.inv ws L H R) := by
  have up : ∀ r, Live s.m r → Live (s.inv ws L H R).m r := fun r hr => by
    cases r with
    | b i =>
      show upds (H.map fun x => (x.1, some x.2)) s.m.h i ≠ none
      by_cases hi : (H.map (·.1)).contains i = true
      · exact upds_all (R := fun i v => v ≠ none) (fun x hx => by obtain ⟨y, hy, rfl⟩ := List.mem_map.1 hx; simp) (by rw [map1 H some]; exact hi)
      · rw [upds_ne (by rw [map1 H some]; simpa using hi)]; exact hr
    | r i =>
      show upds (R.map fun x => (x.1, some x.2)) s.m.q i ≠ none
      by_cases hi : (R.map (·.1)).contains i = true
      · exact upds_all (R := fun i v => v ≠ none) (fun x hx => by obtain ⟨y, hy, rfl⟩ := List.mem_map.1 hx; simp) (by rw [map1 R some]; exact hi)
      · rw [upds_ne (by rw [map1 R some]; simpa using hi)]; exact hr
  refine ⟨fun i r hr => ?_, fun i cs hi c hc r hr => ?_⟩
  · by_cases hi : (L.map (·.1)).contains i = true
    · exact upds_all (R := fun i v => ∀ r ∈ v.ids, Live (s.inv ws L H R).m r) (fun x hx => hl.1 x hx) hi r hr
    · have hi' : (L.map (·.1)).contains i = false := by simpa using hi
      have hr' : r ∈ (upds L (kills ws s.fr) i).ids := hr
      rw [upds_ne hi'] at hr'
      unfold kills at hr'
      split at hr'
      · simp [PV.ids] at hr'
      · exact up r (h.fr i r hr')
  · by_cases hi' : (H.map (·.1)).contains i = true
    · have hR := upds_all (R := fun i v => ∀ cs, v = some cs → ∀ c ∈ cs, ∀ r ∈ c.ids, Live (s.inv ws L H R).m r) (f := s.m.h) (L := H.map fun x => (x.1, some x.2)) (i := i)
        (fun x hx cs hcs => by obtain ⟨y, hy, rfl⟩ := List.mem_map.1 hx; cases hcs; exact hl.2 y hy) (by rw [map1 H some]; exact hi')
      exact hR cs hi c hc r hr
    · have hi2 : upds (H.map fun x => (x.1, some x.2)) s.m.h i = some cs := hi
      rw [upds_ne (by rw [map1 H some]; simpa using hi')] at hi2
      exact up r (h.h i cs hi2 c hc r hr)

/-- A LOOP. ws: the slots that a round writes and nobody reads at the head; L, H, R: what the head tells of slots, blocks, rows. -/
theorem awp_loop {c : Code} {ι : Type} (ws : List Nat) (L : ι → List (Nat × PV)) (H : ι → List (Nat × List PV)) (R : ι → List (Nat × Row)) (μ : ι → Nat) (i0 : ι)
    (h0 : Meets s ws (L i0) (H i0) (R i0) s) (hr : ∀ i, RefsL s (L i) (H i) (R i))
    (round : ∀ i, awp P c (thenQ (fun s' => ∃ j, μ j < μ i ∧ Meets s ws (L j) (H j) (R j) s') Q) (s.inv ws (L i) (H i) (R i))) : awp P (.loop c) Q s := by
  refine awp_loop_gen (fun i => s.inv ws (L i) (H i) (R i)) μ i0 h0.weak (fun hrefs i => hrefs.inv (hr i)) fun i => awp_mono (fun e s' h => ?_) (round i)
  cases e with
  | normal => obtain ⟨j, hj, hm⟩ := h; exact ⟨j, hj, hm.weak⟩
  | _ => exact h

/-- a nil slice, told as a row to which may be appended -/
theorem awp_nilRow {c : Code} (i d sz : Nat) (e : TypeId) (hi : s.fr i = .sl .nil []) (hd : s.m.q d = none) (h : awp P c Q ({ s with fr := upd s.fr i (.sl (.row d) []) }.with (s.m.setq d (.live 0 sz e)))) : awp P c Q s := fun B S M a w hs => by
  have hs1 := hs.nilRow (sz := sz) (e := e) hd
  have hv : a.tmps.getD i undef = .slice none 0 0 := by
    have := hs.fr i
    rw [hi] at this
    exact this.slnil_inv
  refine h B S _ a w ⟨hs1.defers, hs1.hn, hs1.hB, hs1.stable, fun k => ?_, fun k r hr => ?_, hs1.blk, hs1.row, hs1.inj, hs1.injq, hs1.injx⟩
  · show RepS _ _ _ _ (upd s.fr i (.sl (.row d) []) k)
    by_cases e : i = k
    · subst e
      rw [upd_same, hv]
      refine .row d _ [] (.sl0 none 0) fun n' sz' e' hq => ?_
      simp only [St.with, Hp.setq, upd_same] at hq
      cases hq
      exact ⟨Nat.le_refl _, fun _ => ⟨fun _ => rfl, fun c hc => by simp [upd_same] at hc⟩⟩
    · rw [upd_ne _ _ e]; exact hs1.fr k
  · have hr' : r ∈ (upd s.fr i (.sl (.row d) []) k).ids := hr
    by_cases e : i = k
    · subst e
      rw [upd_same] at hr'
      simp only [PV.ids, List.mem_singleton] at hr'
      subst hr'
      simp [Live, St.with, Hp.setq, upd_same]
    · rw [upd_ne _ _ e] at hr'; exact hs1.ids k r hr'

end
end Go.PL

namespace Go.PL
open Go.RowKit
set_option linter.unusedVariables false

def initFr : Nat → List PV → Nat → PV
  | _, [] => fun _ => .tup []
  | k, p :: ps => upd (initFr (k + 1) ps) k p
def Hp.empty : Hp := ⟨fun _ => none, fun _ => false, fun _ => none⟩
/-- the state in which a function begins -/
def St.init (args : List PV) (n : Nat) : St := ⟨initFr 0 args, Hp.empty, n⟩

def resV (P : Program) (s : St) : ResultVar → ARes
  | .tmp t => ⟨True, s.fr t, s.m⟩
  | .cell t ty => if tkn P ty then aLoad P ty (s.fr t) s.m else .fail
def allOk : List ARes → Prop
  | [] => True
  | r :: rs => r.ok ∧ allOk rs
def pack : List PV → PV
  | [p] => p
  | ps => .tup ps
/-- what is handed back -/
def retP (P : Program) (fn : Func) (r : PV) (s : St) : Prop :=
  allOk (fn.results.toList.map (resV P s)) ∧ (pack (fn.results.toList.map fun x => (resV P s x).v)).givable s.m ∧ r = (pack (fn.results.toList.map fun x => (resV P s x).v)).give s.m

def retQ (P : Program) (fn : Func) (r : PV) : Exit → St → Prop
  | .normal, s => retP P fn r s
  | .ret, s => retP P fn r s
  | _, _ => False

section
variable {P : Program} {B : Nat} {S : Stable} {M : Maps} {s : St} {a : Act} {w : World}

theorem initFr_getD : ∀ (args : List PV) (k i : Nat), k ≤ i → initFr k args i = args.getD (i - k) (.tup [])
  | [], k, i, _ => by simp [initFr]
  | p :: ps, k, i, h => by
    unfold initFr
    by_cases e : k = i
    · subst e; rw [upd_same]; simp
    · rw [upd_ne _ _ e, initFr_getD ps (k + 1) i (by omega)]
      have : i - k = (i - (k + 1)) + 1 := by omega
      rw [this]
      simp

def resSem (tmps : Array Value) : ResultVar → Sem Value
  | .tmp t => Pure.pure (tmps.getD t undef)
  | .cell b t => do loadVar t (← asAddr (tmps.getD b undef))

theorem res_sound (hs : Sim B S M s a w) (x : ResultVar) (hok : (resV P s x).ok) : ∃ v, (resSem a.tmps x).run P w = .ok v w ∧ RepS S M s.m.q v (resV P s x).v := by
  cases x with
  | tmp t => exact ⟨_, rfl, hs.fr t⟩
  | cell t ty =>
    unfold resV at hok ⊢
    simp only at hok ⊢
    split at hok
    · rename_i hk
      rw [if_pos hk]
      have hr := hs.fr t
      have hp : ∃ ad, a.tmps.getD t undef = .pointer (some ad) := by
        unfold aLoad at hok
        split at hok
        · rename_i cs hx; rw [hx] at hr; obtain ⟨b, o, vals, e, _⟩ := hr.rptr_inv; exact ⟨_, e⟩
        · rename_i id off hx; rw [hx] at hr; exact ⟨_, hr.ptr_inv⟩
        · exact hok.elim
      obtain ⟨ad, had⟩ := hp
      obtain ⟨v, h1, h2, _⟩ := load_val hs hr (by intro h; simp [tkn, h] at hk) hok
      refine ⟨v, ?_, ?_⟩
      · rw [had] at h1
        simp only [Instr.loadAt, Instr.sureAddr, Sem.run_bind, Sem.run_pure, Result.andThen_ok] at h1
        simp only [resSem, had, asAddr, Sem.run_bind, Sem.run_pure, Result.andThen_ok]
        exact h1
      · exact h2
    · exact hok.elim

theorem results_sound (hs : Sim B S M s a w) {fn : Func} (hok : allOk (fn.results.toList.map (resV P s))) :
    ∃ v, (results fn a.tmps).run P w = .ok v w ∧ RepS S M s.m.q v (pack (fn.results.toList.map fun x => (resV P s x).v)) := by
  have key : ∀ (l : List ResultVar), allOk (l.map (resV P s)) → ∃ vs : List Value, (l.mapM (resSem a.tmps)).run P w = .ok vs w ∧ RepL S M s.m.q vs (l.map fun x => (resV P s x).v) := by
    intro l
    induction l with
    | nil => intro _; exact ⟨[], by simp, rfl, fun i hi => by simp at hi⟩
    | cons x l ih =>
      intro h
      obtain ⟨v, e1, e2⟩ := res_sound hs x h.1
      obtain ⟨vs, e3, e4, e5⟩ := ih h.2
      refine ⟨v :: vs, ?_, by simp [e4], fun i hi => ?_⟩
      · rw [List.mapM_cons]
        simp only [Sem.run_bind, e1, e3, Result.andThen_ok, Sem.run_pure]
      · cases i with
        | zero => exact e2
        | succ i => simpa using e5 i (by simpa using hi)
  obtain ⟨vs, h1, h2⟩ := key fn.results.toList hok
  have hm : (fn.results.mapM (resSem a.tmps)).run P w = .ok ⟨vs⟩ w := by
    rw [Array.mapM_eq_mapM_toList]
    simp only [Sem.run_map, h1, Result.andThen_ok]
  have hres : (results fn a.tmps).run P w = .ok (if h : (⟨vs⟩ : Array Value).size = 1 then (⟨vs⟩ : Array Value)[0] else .tuple ⟨vs⟩) w := by
    have e : results fn a.tmps = (do
        let vs ← fn.results.mapM (resSem a.tmps)
        Pure.pure (if h : vs.size = 1 then vs[0] else .tuple vs)) := rfl
    rw [e]
    simp only [Sem.run_bind, hm, Result.andThen_ok, Sem.run_pure]
  refine ⟨_, hres, ?_⟩
  generalize (fn.results.toList.map fun x => (resV P s x).v) = ps at h2
  obtain ⟨hl, hr⟩ := h2
  match vs, ps, hl, hr with
  | [v], [p], _, hr => exact hr 0 (by simp)
  | [], [], _, _ => exact .tup [] [] rfl (fun i hi => by simp at hi)
  | v :: v' :: vs, p :: p' :: ps, hl, hr => exact .tup _ _ hl hr

theorem Pure.intro {f : FuncId} {fn : Func} {c : Code} {args : List PV} {r : PV} (hf : P.funcs[f]? = some fn) (hname : fn.name ≠ "runtime.NumGoroutine") (hb : fn.body = some c) (hn : args.length ≤ fn.ntmps) (hi : r.dids = [])
    (h : awp P c (retQ P fn r) (St.init args fn.ntmps)) : Pure P f args r := by
  refine ⟨⟨fn, hf, hname, by rw [hb]; rfl⟩, hi, fun w S vs hst hl hr => ?_⟩
  refine calls_of_wp hf hb ?_
  have hs : Sim w.heap.size S ⟨id, id, id⟩ (St.init args fn.ntmps) { tmps := ⟨vs⟩ ++ Array.replicate (fn.ntmps - vs.length) undef, defers := [] } w := by
    have rep : ∀ i, Rep S (((⟨vs⟩ : Array Value) ++ Array.replicate (fn.ntmps - vs.length) undef).getD i undef) (initFr 0 args i) := fun i => by
      rw [initFr_getD args 0 i (Nat.zero_le _), Nat.sub_zero]
      by_cases hi : i < args.length
      · have := hr i hi
        rw [getD_lt hi] at this ⊢
        rw [getD_lt (by omega)] at this
        have e : ((⟨vs⟩ : Array Value) ++ Array.replicate (fn.ntmps - vs.length) undef).getD i undef = vs[i]'(by omega) := by
          rw [Array.getD_eq_getD_getElem?, Array.getElem?_append_left (by simp; omega)]
          simp [show i < vs.length by omega]
        rw [e]; exact this
      · rw [getD_ge (by omega)]
        have e : ((⟨vs⟩ : Array Value) ++ Array.replicate (fn.ntmps - vs.length) undef).getD i undef = undef := by
          rw [Array.getD_eq_getD_getElem?, Array.getElem?_append_right (by simp; omega)]
          simp only [Array.getElem?_replicate]
          split <;> rfl
        rw [e]
        exact .tup [] [] rfl (fun i hi => by simp at hi)
    refine ⟨rfl, ?_, Nat.le_refl _, hst, fun i => .clean (rep i), fun i id hid => absurd hid ((rep i).clean_ids id), fun id cs hid => ?_, fun id r hid => ?_, fun id id' cs cs' hid => ?_, fun id id' n sz e n' sz' e' hid => ?_, fun id id' cs n sz e hid => ?_⟩
    · simp [St.init]; omega
    · simp [St.init, Hp.empty] at hid
    · simp [St.init, Hp.empty] at hid
    · simp [St.init, Hp.empty] at hid
    · simp [St.init, Hp.empty] at hid
    · simp [St.init, Hp.empty] at hid
  have hw := h w.heap.size S _ _ w hs
  have hsz : (⟨vs⟩ : Array Value).size = vs.length := by simp
  rw [hsz]
  refine wp_mono hw fun e a' w' hq => ?_
  obtain ⟨s', S', M', h1, h2, h3⟩ := hq
  have fin : retP P fn r s' → a'.defers = [] ∧ ∃ v, (results fn a'.tmps).run P w' = .ok v w' ∧ ∃ v' S', Ending.returned v = .returned v' ∧ Rep S' v' r ∧ (∀ b o v, S' b o = some v → w'.cell? ⟨b, o, none⟩ = some v) ∧ SLe S S' ∧ (∀ b o, b < w.heap.size → S' b o = S b o) ∧ Below w.heap.size w w' := by
    rintro ⟨g1, g2, rfl⟩
    obtain ⟨v, hv, hrv⟩ := results_sound h2 g1
    exact ⟨h2.defers, v, hv, v, S', rfl, hrv.give h2 g2, h2.stable, h3.1, h3.2.1, h3.2.2⟩
  cases e with
  | normal => exact fin h1
  | ret => exact fin h1
  | _ => exact h1.elim
end
end Go.PL

namespace Go.PL
open Go.RowKit
set_option linter.unusedVariables false

/-- a guard: both ways, each under what it says -/
def vcGuard (want : Bool) (p : PV) (A B : Prop) : Prop :=
  match p with
  | .bool b => (b = want → A) ∧ (b = !want → B)
  | .tup _ => B
  | _ => False

/-- a call: some contract of the callee -/
def vcCall (P : Program) (m : Hp) (c : Option (FuncId × List PV)) (K : PV → Prop) : Prop :=
  match c with
  | some (g, args) => PV.givableL m args ∧ ∃ r, Pure P g (PV.giveL m args) r ∧ K r
  | none => False

/-- an operation's outcome: its condition, and what goes on behind it -/
def vcRes (r : ARes) (K : PV → Hp → Prop) : Prop := r.ok ∧ K r.v r.m

def vcOp (P : Program) (o : Oper) (s : St) (K : St → Prop) : Prop :=
  match o.op with
  | .call { callee := .value f, args, argTypes } => vcCall P s.m (calleeOf s.eval { callee := .value f, args, argTypes }) fun r => K (s.put o.dst r)
  | _ => vcRes (aop P o s.eval s.m) fun v m => K ((s.with m).put o.dst v)

def vcA (P : Program) (ops : Array Oper) (K : St → Prop) : List Oper → St → Prop
  | [], s => K s
  | o :: rest, s => dstOk s.n o.dst ∧ match o.guard with
    | none => vcOp P o s (vcA P ops K rest)
    | some (j, want) => match (ops[j]?).bind (·.dst) with
      | none => vcA P ops K rest (s.put o.dst (.tup []))
      | some d => d < s.n ∧ vcGuard want (s.fr d) (vcOp P o s (vcA P ops K rest)) (vcA P ops K rest (s.put o.dst (.tup [])))

/-- a branch: both ways, each under what it says -/
def vcCond (p : PV) (A B : Prop) : Prop :=
  match p with
  | .bool b => (b = true → A) ∧ (b = false → B)
  | _ => False

section
variable {P : Program} {s : St}

theorem vcOp_step {o : Oper} {K : St → Prop} (h : vcOp P o s K) : ∃ v m', StepM P o s.eval s.m v m' ∧ K ((s.with m').put o.dst v) := by
  unfold vcOp at h
  split at h
  · rename_i f args ts heq
    unfold vcCall at h
    split at h
    · rename_i g xs hc
      obtain ⟨h1, r, h2, h3⟩ := h
      exact ⟨r, s.m, .inr ⟨_, g, xs, heq, hc, h1, h2, rfl⟩, h3⟩
    · exact h.elim
  · exact ⟨_, _, .inl ⟨h.1, rfl, rfl⟩, h.2⟩

theorem vcA_lex {ops : Array Oper} {K : St → Prop} : ∀ (l : List Oper) (s : St), vcA P ops K l s → lexA P ops K l s
  | [], s, h => h
  | o :: rest, s, h => by
    obtain ⟨hd, h⟩ := h
    refine ⟨hd, ?_⟩
    have op : ∀ {s}, vcOp P o s (vcA P ops K rest) → ∃ v m', StepM P o s.eval s.m v m' ∧ lexA P ops K rest ((s.with m').put o.dst v) := fun h => by
      obtain ⟨v, m', h1, h2⟩ := vcOp_step h
      exact ⟨v, m', h1, vcA_lex rest _ h2⟩
    unfold gd
    cases hg : o.guard with
    | none =>
      rw [hg] at h
      exact .inl ⟨rfl, op h⟩
    | some jw =>
      obtain ⟨j, want⟩ := jw
      rw [hg] at h
      simp only at h ⊢
      cases hd' : (ops[j]?).bind (·.dst) with
      | none => rw [hd'] at h; exact .inr ⟨rfl, vcA_lex rest _ h⟩
      | some d =>
        rw [hd'] at h
        simp only at h ⊢
        obtain ⟨hlt, h⟩ := h
        rw [if_pos hlt]
        unfold vcGuard at h
        split at h
        · rename_i b hb
          rw [hb]
          by_cases hbw : b = want
          · left; subst hbw; exact ⟨by simp [gdOf], op (h.1 rfl)⟩
          · right
            refine ⟨by simp [gdOf, hbw], vcA_lex rest _ (h.2 ?_)⟩
            cases b <;> cases want <;> simp_all
        · rename_i l hb
          rw [hb]
          exact .inr ⟨rfl, vcA_lex rest _ h⟩
        · exact h.elim

/-- the conditions of a piece of code: what must be shown; loops, regions that draw and what has no rule here stand as they are -/
def vc (P : Program) : Code → (Exit → St → Prop) → St → Prop
  | .skip, Q, s => Q .normal s
  | .label _, Q, s => Q .normal s
  | .ret, Q, s => Q .ret s
  | .exit id, Q, s => Q (.exit id) s
  | .goto l, Q, s => Q (.goto l) s
  | .seq (.label l) y, Q, s => awp P (.seq (.label l) y) Q s
  | .seq x y, Q, s => vc P x (thenQ (vc P y Q) Q) s
  | .cond c x y, Q, s => vcCond (s.eval c) (vc P x Q s) (vc P y Q s)
  | .block id c, Q, s => vc P c (blockQ id Q) s
  | .region _ ops false, Q, s => vcA P ops (Q .normal) ops.toList s
  | c, Q, s => awp P c Q s

theorem awp_seq_vc {x y : Code} {Q : Exit → St → Prop} {s : St} (hx : ∀ Q s, vc P x Q s → awp P x Q s) (hy : ∀ Q s, vc P y Q s → awp P y Q s) (h : vc P x (thenQ (vc P y Q) Q) s) : awp P (.seq x y) Q s :=
  awp_seq (awp_mono (fun e s' h' => by
      cases e with
      | normal => exact hy Q s' h'
      | _ => exact h') (hx _ s h))
theorem vc_sound : ∀ (c : Code) (Q : Exit → St → Prop) (s : St), vc P c Q s → awp P c Q s
  | .skip, Q, s, h => awp_skip h
  | .label _, Q, s, h => awp_label h
  | .ret, Q, s, h => awp_ret h
  | .exit id, Q, s, h => awp_exit h
  | .goto l, Q, s, h => awp_goto h
  | .seq x y, Q, s, h => by
    cases x with
    | label l => exact h
    | _ => exact awp_seq_vc (vc_sound _) (vc_sound y) h
  | .cond c x y, Q, s, h => by
    unfold vc vcCond at h
    split at h
    · rename_i b hb
      refine awp_cond hb ?_
      cases b
      · exact vc_sound y Q s (h.2 rfl)
      · exact vc_sound x Q s (h.1 rfl)
    · exact h.elim
  | .block id c, Q, s, h => awp_block (vc_sound c _ s h)
  | .region _ ops false, Q, s, h => awp_region (vcA_lex _ _ h)
  | .region _ ops true, Q, s, h => h
  | .loop c, Q, s, h => h
  | .rangeFunc .., Q, s, h => h
  | .scope c, Q, s, h => h
  | .refuse _, Q, s, h => h

theorem Pure.of_vc {f : FuncId} {fn : Func} {c : Code} {args : List PV} {r : PV} (hf : P.funcs[f]? = some fn) (hname : fn.name ≠ "runtime.NumGoroutine") (hb : fn.body = some c) (hn : args.length ≤ fn.ntmps) (hi : r.dids = [])
    (h : vc P c (retQ P fn r) (St.init args fn.ntmps)) : Pure P f args r := Pure.intro hf hname hb hn hi (vc_sound _ _ _ h)

end

/-! ### The same, with all that is yet to come out of simp's reach (it does not look into instances) -/
class KS where
  k : St → Prop
class LST where
  l : List Oper
class COD where
  c : Code
class QS where
  q : Exit → St → Prop
class PR where
  p : Prop
class KR where
  k : PV → Hp → Prop
class KV where
  k : PV → Prop
class KH where
  m : Hp

def vRes (r : ARes) [K : KR] : Prop := vcRes r K.k
def vGuard (want : Bool) (p : PV) [A : PR] [B : PR] : Prop := vcGuard want p A.p B.p
def vCond (p : PV) [A : PR] [B : PR] : Prop := vcCond p A.p B.p
def vCall (P : Program) [M : KH] (c : Option (FuncId × List PV)) [K : KV] : Prop := vcCall P M.m c K.k
def vA (P : Program) [K : KS] [G : LST] [L : LST] (s : St) : Prop := vcA P G.l.toArray K.k L.l s
def vOne (P : Program) [K : KS] [G : LST] [L : LST] (o : Oper) (s : St) : Prop := vcA P G.l.toArray K.k (o :: L.l) s
def vOp (P : Program) [K : KS] (o : Oper) (s : St) : Prop := vcOp P o s K.k
def gSlot [G : LST] (j : Nat) : Option Nat := (G.l[j]?).bind (·.dst)
def vC (P : Program) [C : COD] [Q : QS] (s : St) : Prop := vc P C.c Q.q s
def vQ [Q : QS] (e : Exit) (s : St) : Prop := Q.q e s

section
variable {P : Program}
theorem vRes_mk (ok : Prop) (v : PV) (m : Hp) (K : KR) : @vRes ⟨ok, v, m⟩ K = (ok ∧ K.k v m) := rfl
theorem vGuard_tt (A B : PR) : @vGuard true (.bool true) A B = A.p := by simp [vGuard, vcGuard]
theorem vGuard_tf (A B : PR) : @vGuard true (.bool false) A B = B.p := by simp [vGuard, vcGuard]
theorem vGuard_ft (A B : PR) : @vGuard false (.bool true) A B = B.p := by simp [vGuard, vcGuard]
theorem vGuard_ff (A B : PR) : @vGuard false (.bool false) A B = A.p := by simp [vGuard, vcGuard]
theorem vGuard_tup (w : Bool) (l : List PV) (A B : PR) : @vGuard w (.tup l) A B = B.p := rfl
theorem vCond_t (A B : PR) : @vCond (.bool true) A B = A.p := by simp [vCond, vcCond]
theorem vCond_f (A B : PR) : @vCond (.bool false) A B = B.p := by simp [vCond, vcCond]
theorem gSlot_zero (o : Oper) (l : List Oper) : @gSlot ⟨o :: l⟩ 0 = o.dst := rfl
theorem gSlot_succ (o : Oper) (l : List Oper) (j : Nat) : @gSlot ⟨o :: l⟩ (j + 1) = @gSlot ⟨l⟩ j := by simp [gSlot]
theorem vA_nil (K : KS) (G : LST) (s : St) : @vA P K G ⟨[]⟩ s = K.k s := rfl
theorem vA_cons (K : KS) (G : LST) (o : Oper) (l : List Oper) (s : St) : @vA P K G ⟨o :: l⟩ s = @vOne P K G ⟨l⟩ o s := rfl
theorem vOne_plain (K : KS) (G L : LST) (d : Option Tmp) (op : Op) (ty : TypeId) (pos : String) (af : Array Edge) (s : St) :
    @vOne P K G L ⟨d, op, ty, pos, af, none⟩ s = (dstOk s.n d ∧ @vOp P ⟨@vA P K G L⟩ ⟨d, op, ty, "", #[], none⟩ s) := by
  have h : vcOp P ⟨d, op, ty, pos, af, none⟩ s = vcOp P ⟨d, op, ty, "", #[], none⟩ s := by
    funext K; cases op <;> rfl
  show (dstOk s.n d ∧ vcOp P ⟨d, op, ty, pos, af, none⟩ s (vcA P G.l.toArray K.k L.l)) = _
  rw [h]; rfl
theorem vOne_guard (K : KS) (G L : LST) (d : Option Tmp) (op : Op) (ty : TypeId) (pos : String) (af : Array Edge) (j : Nat) (want : Bool) (s : St) (d' : Nat) (h : @gSlot G j = some d') :
    @vOne P K G L ⟨d, op, ty, pos, af, some (j, want)⟩ s = (dstOk s.n d ∧ d' < s.n ∧ @vGuard want (s.fr d') ⟨@vOp P ⟨@vA P K G L⟩ ⟨d, op, ty, "", #[], none⟩ s⟩ ⟨@vA P K G L (s.put d (.tup []))⟩) := by
  have h' : (G.l.toArray[j]?).bind (·.dst) = some d' := by simpa [gSlot] using h
  have e : vcOp P ⟨d, op, ty, pos, af, some (j, want)⟩ s = vcOp P ⟨d, op, ty, "", #[], none⟩ s := by
    funext K; cases op <;> rfl
  show (dstOk s.n d ∧ (match (G.l.toArray[j]?).bind (·.dst) with
      | none => vcA P G.l.toArray K.k L.l (s.put d (.tup []))
      | some d => d < s.n ∧ vcGuard want (s.fr d) (vcOp P ⟨_, op, ty, pos, af, some (j, want)⟩ s (vcA P G.l.toArray K.k L.l)) (vcA P G.l.toArray K.k L.l (s.put _ (.tup []))))) = _
  rw [h', e]; rfl

theorem vOp_call (K : KS) (d : Option Tmp) (f : Operand) (args : Array Operand) (ts : Array TypeId) (ty : TypeId) (s : St) :
    @vOp P K ⟨d, .call ⟨.value f, args, ts⟩, ty, "", #[], none⟩ s = @vCall P ⟨s.m⟩ (calleeOf s.eval ⟨.value f, args, ts⟩) ⟨fun r => K.k (s.put d r)⟩ := rfl

theorem vC_skip (Q : QS) (s : St) : @vC P ⟨.skip⟩ Q s = @vQ Q .normal s := rfl
theorem vC_label (l : Nat) (Q : QS) (s : St) : @vC P ⟨.label l⟩ Q s = @vQ Q .normal s := rfl
theorem vC_ret (Q : QS) (s : St) : @vC P ⟨.ret⟩ Q s = @vQ Q .ret s := rfl
theorem vC_exit (id : Nat) (Q : QS) (s : St) : @vC P ⟨.exit id⟩ Q s = @vQ Q (.exit id) s := rfl
theorem vC_goto (l : Nat) (Q : QS) (s : St) : @vC P ⟨.goto l⟩ Q s = @vQ Q (.goto l) s := rfl
theorem vC_seq_skip (y : Code) (Q : QS) (s : St) : @vC P ⟨.seq (.skip) y⟩ Q s = @vC P ⟨.skip⟩ ⟨thenQ (@vC P ⟨y⟩ Q) Q.q⟩ s := rfl
theorem vC_seq_ret (y : Code) (Q : QS) (s : St) : @vC P ⟨.seq (.ret) y⟩ Q s = @vC P ⟨.ret⟩ ⟨thenQ (@vC P ⟨y⟩ Q) Q.q⟩ s := rfl
theorem vC_seq_exit (id : Nat) (y : Code) (Q : QS) (s : St) : @vC P ⟨.seq (.exit id) y⟩ Q s = @vC P ⟨.exit id⟩ ⟨thenQ (@vC P ⟨y⟩ Q) Q.q⟩ s := rfl
theorem vC_seq_goto (l : Nat) (y : Code) (Q : QS) (s : St) : @vC P ⟨.seq (.goto l) y⟩ Q s = @vC P ⟨.goto l⟩ ⟨thenQ (@vC P ⟨y⟩ Q) Q.q⟩ s := rfl
theorem vC_seq_seq (a b : Code) (y : Code) (Q : QS) (s : St) : @vC P ⟨.seq (.seq a b) y⟩ Q s = @vC P ⟨.seq a b⟩ ⟨thenQ (@vC P ⟨y⟩ Q) Q.q⟩ s := rfl
theorem vC_seq_cond (c : Operand) (a b : Code) (y : Code) (Q : QS) (s : St) : @vC P ⟨.seq (.cond c a b) y⟩ Q s = @vC P ⟨.cond c a b⟩ ⟨thenQ (@vC P ⟨y⟩ Q) Q.q⟩ s := rfl
theorem vC_seq_block (id : Nat) (c : Code) (y : Code) (Q : QS) (s : St) : @vC P ⟨.seq (.block id c) y⟩ Q s = @vC P ⟨.block id c⟩ ⟨thenQ (@vC P ⟨y⟩ Q) Q.q⟩ s := rfl
theorem vC_seq_region (id : Nat) (l : Array Oper) (d : Bool) (y : Code) (Q : QS) (s : St) : @vC P ⟨.seq (.region id l d) y⟩ Q s = @vC P ⟨.region id l d⟩ ⟨thenQ (@vC P ⟨y⟩ Q) Q.q⟩ s := rfl
theorem vC_seq_loop (c : Code) (y : Code) (Q : QS) (s : St) : @vC P ⟨.seq (.loop c) y⟩ Q s = @vC P ⟨.loop c⟩ ⟨thenQ (@vC P ⟨y⟩ Q) Q.q⟩ s := rfl
theorem vC_seq_scope (c : Code) (y : Code) (Q : QS) (s : St) : @vC P ⟨.seq (.scope c) y⟩ Q s = @vC P ⟨.scope c⟩ ⟨thenQ (@vC P ⟨y⟩ Q) Q.q⟩ s := rfl
theorem vC_seq_label (l : Nat) (y : Code) (Q : QS) (s : St) : @vC P ⟨.seq (.label l) y⟩ Q s = awp P (.seq (.label l) y) Q.q s := rfl
theorem vC_cond (c : Operand) (x y : Code) (Q : QS) (s : St) : @vC P ⟨.cond c x y⟩ Q s = @vCond (s.eval c) ⟨@vC P ⟨x⟩ Q s⟩ ⟨@vC P ⟨y⟩ Q s⟩ := rfl
theorem vC_block (id : Nat) (c : Code) (Q : QS) (s : St) : @vC P ⟨.block id c⟩ Q s = @vC P ⟨c⟩ ⟨blockQ id Q.q⟩ s := rfl
theorem vC_region (id : Nat) (l : List Oper) (Q : QS) (s : St) : @vC P ⟨.region id l.toArray false⟩ Q s = @vA P ⟨@vQ Q .normal⟩ ⟨l⟩ ⟨l⟩ s := rfl
theorem vC_scope (c : Code) (Q : QS) (s : St) : @vC P ⟨.scope c⟩ Q s = awp P (.scope c) Q.q s := rfl
theorem vC_loop (c : Code) (Q : QS) (s : St) : @vC P ⟨.loop c⟩ Q s = awp P (.loop c) Q.q s := rfl
theorem vC_draw (id : Nat) (l : Array Oper) (Q : QS) (s : St) : @vC P ⟨.region id l true⟩ Q s = awp P (.region id l true) Q.q s := rfl

theorem vQ_then_normal (K : St → Prop) (Q : Exit → St → Prop) (s : St) : @vQ ⟨thenQ K Q⟩ .normal s = K s := rfl
theorem vQ_then_ret (K : St → Prop) (Q : Exit → St → Prop) (s : St) : @vQ ⟨thenQ K Q⟩ .ret s = @vQ ⟨Q⟩ .ret s := rfl
theorem vQ_then_exit (K : St → Prop) (Q : Exit → St → Prop) (id : Nat) (s : St) : @vQ ⟨thenQ K Q⟩ (.exit id) s = @vQ ⟨Q⟩ (.exit id) s := rfl
theorem vQ_then_goto (K : St → Prop) (Q : Exit → St → Prop) (id : Nat) (s : St) : @vQ ⟨thenQ K Q⟩ (.goto id) s = @vQ ⟨Q⟩ (.goto id) s := rfl
theorem vQ_block_normal (id : Nat) (Q : Exit → St → Prop) (s : St) : @vQ ⟨blockQ id Q⟩ .normal s = @vQ ⟨Q⟩ .normal s := rfl
theorem vQ_block_ret (id : Nat) (Q : Exit → St → Prop) (s : St) : @vQ ⟨blockQ id Q⟩ .ret s = @vQ ⟨Q⟩ .ret s := rfl
theorem vQ_block_goto (id l : Nat) (Q : Exit → St → Prop) (s : St) : @vQ ⟨blockQ id Q⟩ (.goto l) s = @vQ ⟨Q⟩ (.goto l) s := rfl
theorem vQ_block_exit (id j : Nat) (Q : Exit → St → Prop) (s : St) : @vQ ⟨blockQ id Q⟩ (.exit j) s = (if j = id then @vQ ⟨Q⟩ .normal s else @vQ ⟨Q⟩ (.exit j) s) := rfl
theorem vQ_ret_ret (fn : Func) (r : PV) (s : St) : @vQ ⟨retQ P fn r⟩ .ret s = retP P fn r s := rfl
theorem vQ_ret_normal (fn : Func) (r : PV) (s : St) : @vQ ⟨retQ P fn r⟩ .normal s = retP P fn r s := rfl

theorem vGuard_t {b : Bool} {A B : PR} (h1 : b = true → A.p) (h2 : b = false → B.p) : @vGuard true (.bool b) A B := ⟨h1, h2⟩
theorem vGuard_f {b : Bool} {A B : PR} (h1 : b = true → B.p) (h2 : b = false → A.p) : @vGuard false (.bool b) A B := ⟨h2, h1⟩
theorem vCond_b {b : Bool} {A B : PR} (h1 : b = true → A.p) (h2 : b = false → B.p) : @vCond (.bool b) A B := ⟨h1, h2⟩
theorem vCall_of {M : KH} {g : FuncId} {args args' : List PV} {K : KV} {r : PV} (h1 : Pure P g args' r) (h0 : PV.givableL M.m args) (he : PV.giveL M.m args = args') (h2 : K.k r) : @vCall P M (some (g, args)) K :=
  ⟨h0, r, by rw [he]; exact h1, h2⟩

/-- what is handed back, result by result -/
def vRet (P : Program) (r : PV) (s : St) : List PV → List ResultVar → Prop
  | acc, [] => (pack acc.reverse).givable s.m ∧ r = (pack acc.reverse).give s.m
  | acc, .tmp t :: rs => vRet P r s (s.fr t :: acc) rs
  | acc, .cell t ty :: rs => tkn P ty = true ∧ (aLoad P ty (s.fr t) s.m).ok ∧ vRet P r s ((aLoad P ty (s.fr t) s.m).v :: acc) rs

theorem vRet_retP {fn : Func} {r : PV} {s : St} : ∀ (rs : List ResultVar) (acc : List PV), vRet P r s acc rs →
    allOk (rs.map (resV P s)) ∧ (pack (acc.reverse ++ rs.map fun x => (resV P s x).v)).givable s.m ∧ r = (pack (acc.reverse ++ rs.map fun x => (resV P s x).v)).give s.m
  | [], acc, h => by simpa [vRet, allOk] using h
  | .tmp t :: rs, acc, h => by
    obtain ⟨h1, h2, h3⟩ := vRet_retP (fn := fn) rs _ h
    refine ⟨⟨trivial, h1⟩, ?_, ?_⟩
    · simpa [resV] using h2
    · simpa [resV] using h3
  | .cell t ty :: rs, acc, h => by
    obtain ⟨h0, h0', h⟩ := h
    obtain ⟨h1, h2, h3⟩ := vRet_retP (fn := fn) rs _ h
    refine ⟨⟨?_, h1⟩, ?_, ?_⟩
    · simpa [resV, h0] using h0'
    · simpa [resV, h0] using h2
    · simpa [resV, h0] using h3

def vRetQ (P : Program) (rs : List ResultVar) (r : PV) : Exit → St → Prop
  | .normal, s => vRet P r s [] rs
  | .ret, s => vRet P r s [] rs
  | _, _ => False
theorem vQ_vret_ret (rs : List ResultVar) (r : PV) (s : St) : @vQ ⟨vRetQ P rs r⟩ .ret s = vRet P r s [] rs := rfl
theorem vQ_vret_normal (rs : List ResultVar) (r : PV) (s : St) : @vQ ⟨vRetQ P rs r⟩ .normal s = vRet P r s [] rs := rfl

theorem Pure.of_v {f : FuncId} {fn : Func} {c : Code} {args : List PV} {r : PV} {n : Nat} {rs : List ResultVar} (hf : P.funcs[f]? = some fn) (hname : fn.name ≠ "runtime.NumGoroutine") (hb : fn.body = some c) (hn : fn.ntmps = n) (hrs : fn.results = rs.toArray) (hl : args.length ≤ n) (hi : r.dids = [])
    (h : @vC P ⟨c⟩ ⟨vRetQ P rs r⟩ (St.init args n)) : Pure P f args r := by
  subst hn
  refine Pure.intro hf hname hb hl hi (awp_mono (fun e s hq => ?_) (vc_sound _ _ _ h))
  have key : vRet P r s [] rs → retP P fn r s := fun hv => by
    unfold retP
    rw [hrs]
    simpa using vRet_retP (fn := fn) rs [] hv
  cases e with
  | normal => exact key hq
  | ret => exact key hq
  | _ => exact hq
end
end Go.PL

namespace Go.PL
attribute [go_sem] vC_seq_skip vC_seq_ret vC_seq_exit vC_seq_goto vC_seq_seq vC_seq_cond vC_seq_block vC_seq_region vC_seq_loop vC_seq_scope vC_seq_label vC_scope vC_region vC_ret vC_cond vC_block vC_skip vC_label vC_exit vC_goto vC_loop vC_draw vA_cons vA_nil vOne_plain vOne_guard gSlot_zero gSlot_succ vQ_then_normal vQ_then_ret vQ_then_exit vQ_then_goto
  vQ_block_normal vQ_block_ret vQ_block_goto vQ_block_exit vQ_vret_ret vQ_vret_normal vGuard_tt vGuard_tf vGuard_ft vGuard_ff vGuard_tup vCond_t vCond_f vRes_mk
attribute [go_sem] vOp vcOp vcRes dstOk aop St.eval St.init initFr St.put St.with aField aFieldAddr aIndex aIndexAddr aLoad aStore splice Hp.new Hp.empty Hp.setq Hp.freeze PV.cells aBin aInt aStr aEql aEq ofVal ofAtom partPV PV.known PV.atom
  aPick aNilCheck aUn aConv aExtract aLen aMax aMin aBuild fillPV aBuildSlice partsOk aSlice loOf hiOf aMakeRow aMakeFull aBuiltin aAppend appended calleeOf PV.give PV.giveL PV.givable PV.givableL PV.share PV.shareL PV.clean PV.cleanL
  vRet pack frozenBy capsOk PV.ids PV.idsL eqLeaf eqLeaves ptrNil slNil ARes.fail
attribute [go_sem ↓ high] vOp_call
attribute [go_sem] List.append_nil List.nil_append List.cons_append
@[go_sem] theorem upd_lit {α : Type} (f : Nat → α) (i j : Nat) (v : α) : upd f i v j = if i = j then v else f j := rfl
end Go.PL

namespace Go.PL
open Go.RowKit
set_option linter.unusedVariables false

/-- which parts of the call's own memory an operation reads and writes; whether it makes a block, a row of its own -/
structure Fp where
  rh : Bool := false
  rz : Bool := false
  rq : Bool := false
  wh : Bool := false
  wz : Bool := false
  wq : Bool := false
  nb : Bool := false
  nq : Bool := false

def fp : Op → Fp
  | .load _ _ => { rh := true }
  | .convert _ _ _ => { rh := true }
  | .store _ _ _ => { rh := true, rz := true, wh := true }
  | .alloc _ => { nb := true }
  | .box _ _ => { nb := true }
  | .makeSlice _ l _ => match l with | .const (.int _ 0) => { nq := true } | _ => { nb := true }
  | .buildSlice _ _ _ => { nq := true }
  | .makeFunc _ _ caps => if caps.isEmpty then {} else { rh := true, wz := true }
  | .call { callee := .builtin b, .. } => match b with | .append => { rq := true, wq := true } | _ => {}
  | .call _ => { rh := true, rz := true }
  | _ => {}

/-- what the operands lean on -/
def refsOf (o : Oper) (ρ : Operand → PV) : List Ref := o.op.operands.toList.flatMap fun x => (ρ x).ids

def Wh (o : Oper) (ρ : Operand → PV) (i : Nat) : Prop := ((fp o.op).wh = true ∧ .b i ∈ refsOf o ρ) ∨ ((fp o.op).nb = true ∧ o.dst = some i)
def Wz (o : Oper) (ρ : Operand → PV) (i : Nat) : Prop := ((fp o.op).wz = true ∧ .b i ∈ refsOf o ρ) ∨ ((fp o.op).nb = true ∧ o.dst = some i)
def Wq (o : Oper) (ρ : Operand → PV) (i : Nat) : Prop := ((fp o.op).wq = true ∧ (.r i ∈ refsOf o ρ ∨ o.dst = some i)) ∨ ((fp o.op).nq = true ∧ o.dst = some i)

/-- what the operation does to the memory, and that it does the same wherever what it looks at is the same -/
structure Foot (P : Program) (o : Oper) (ρ : Operand → PV) (m : Hp) (v : PV) (m' : Hp) : Prop where
  h1 : ∀ i, ¬ Wh o ρ i → m'.h i = m.h i
  z1 : ∀ i, ¬ Wz o ρ i → m'.z i = m.z i
  q1 : ∀ i, ¬ Wq o ρ i → m'.q i = m.q i
  hn : (fp o.op).nb = true → ∀ i, o.dst = some i → m.h i = none
  qn : (fp o.op).nq = true → ∀ i, o.dst = some i → m.q i = none
  hl : ∀ i, m.h i ≠ none → m'.h i ≠ none
  ql : ∀ i, m.q i ≠ none → m'.q i ≠ none
  re : ∀ m2 : Hp, ((fp o.op).rh = true → ∀ i, .b i ∈ refsOf o ρ → m2.h i = m.h i) → ((fp o.op).rz = true → ∀ i, .b i ∈ refsOf o ρ → m2.z i = m.z i) →
    ((fp o.op).rq = true → ∀ i, (.r i ∈ refsOf o ρ ∨ o.dst = some i) → m2.q i = m.q i) → ((fp o.op).nb = true → ∀ i, o.dst = some i → m2.h i = none) → ((fp o.op).nq = true → ∀ i, o.dst = some i → m2.q i = none) →
    ∃ m2', StepM P o ρ m2 v m2' ∧ (∀ i, (Wh o ρ i → m2'.h i = m'.h i) ∧ (¬ Wh o ρ i → m2'.h i = m2.h i)) ∧ (∀ i, (Wz o ρ i → m2'.z i = m'.z i) ∧ (¬ Wz o ρ i → m2'.z i = m2.z i)) ∧
      (∀ i, (Wq o ρ i → m2'.q i = m'.q i) ∧ (¬ Wq o ρ i → m2'.q i = m2.q i))

/-- the operation looks at no memory of the call's own -/
def NoMem (f : Hp → ARes) : Prop := ∀ m m2, (f m).ok → (f m).m = m ∧ (f m2).ok ∧ (f m2).v = (f m).v ∧ (f m2).m = m2

section
variable {P : Program}

theorem noMem_const {ok : Prop} {v : PV} : NoMem fun m => ⟨ok, v, m⟩ := fun m m2 h => ⟨rfl, h, rfl, rfl⟩
theorem noMem_fail : NoMem fun _ => ARes.fail := fun m m2 h => h.elim

theorem noMem_pick {c x y : PV} : NoMem (aPick c x y) := fun m m2 h => by
  revert h; unfold aPick; split
  · exact noMem_const m m2
  · exact noMem_const m m2
  · exact noMem_fail m m2
theorem noMem_field {t : TypeId} {x : PV} {f : Nat} : NoMem (aField P t x f) := fun m m2 h => by
  revert h; unfold aField; split
  · exact noMem_const m m2
  · exact noMem_fail m m2
theorem noMem_fieldAddr {t : TypeId} {x : PV} {f : Nat} : NoMem (aFieldAddr P t x f) := fun m m2 h => by
  revert h; unfold aFieldAddr; split <;> first | exact noMem_const m m2 | exact noMem_fail m m2
theorem noMem_index {t : TypeId} {x y : PV} : NoMem (aIndex P t x y) := fun m m2 h => by
  revert h; unfold aIndex; split <;> first | exact noMem_const m m2 | exact noMem_fail m m2
theorem noMem_indexAddr {t : TypeId} {x y : PV} : NoMem (aIndexAddr P t x y) := fun m m2 h => by
  revert h; unfold aIndexAddr; split <;> first | exact noMem_const m m2 | exact noMem_fail m m2
theorem noMem_int {op : BinOp} {k k' : IntKind} {x y : Int} : NoMem (aInt op k k' x y) := fun m m2 h => by
  revert h; unfold aInt; split <;> first | exact noMem_const m m2 | exact noMem_fail m m2
theorem noMem_str {op : BinOp} {x y : List UInt8} : NoMem (aStr op x y) := fun m m2 h => by
  revert h; unfold aStr; split <;> first | exact noMem_const m m2 | exact noMem_fail m m2
theorem noMem_eq {b : Bool} {r : Option Bool} : NoMem (aEq b r) := fun m m2 h => by
  revert h; unfold aEq; split <;> first | exact noMem_const m m2 | exact noMem_fail m m2
theorem noMem_eql {b : Bool} {t : TypeId} {x y : PV} : NoMem (aEql P b t x y) := fun m m2 h => by
  revert h; unfold aEql
  split
  · split <;> first | exact noMem_eq m m2 | exact noMem_fail m m2
  · split <;> first | exact noMem_eq m m2 | exact noMem_fail m m2
  · split <;> first | exact noMem_eq m m2 | exact noMem_fail m m2
theorem noMem_bin {op : BinOp} {t : TypeId} {x y : PV} : NoMem (aBin P op t x y) := fun m m2 h => by
  revert h; unfold aBin
  split
  · exact noMem_int m m2
  · exact noMem_str m m2
  · split <;> first | exact noMem_eql m m2 | exact noMem_fail m m2
theorem noMem_un {op : UnOp} {x : PV} : NoMem (aUn op x) := fun m m2 h => by
  revert h; unfold aUn; split <;> first | exact noMem_const m m2 | exact noMem_fail m m2
theorem conv_m {a b : TypeId} {x : PV} {m : Hp} (h : (aConv P a b x m).ok) : (aConv P a b x m).m = m := by
  revert h
  unfold aConv
  split
  · exact fun _ => rfl
  · exact fun _ => rfl
  · split
    · exact fun _ => rfl
    · exact fun h => h.elim
  · split
    · split
      · exact fun _ => rfl
      · exact fun h => h.elim
    · exact fun h => h.elim
  · exact fun h => h.elim
theorem conv_congr {a b : TypeId} {x : PV} {m m2 : Hp} (hm : ∀ i, .b i ∈ x.ids → m2.h i = m.h i) (h : (aConv P a b x m).ok) : (aConv P a b x m2).ok ∧ (aConv P a b x m2).v = (aConv P a b x m).v ∧ (aConv P a b x m2).m = m2 := by
  revert h
  unfold aConv
  split
  · exact fun _ => ⟨trivial, rfl, rfl⟩
  · exact fun _ => ⟨trivial, rfl, rfl⟩
  · split
    · exact fun _ => ⟨trivial, rfl, rfl⟩
    · exact fun h => h.elim
  · rename_i id off len sz _
    have e := hm id (by simp [PV.ids])
    simp only [e]
    split
    · split
      · exact fun h => ⟨h, rfl, rfl⟩
      · exact fun h => h.elim
    · exact fun h => h.elim
  · exact fun h => h.elim
theorem noMem_extract {x : PV} {i : Nat} : NoMem (aExtract x i) := fun m m2 h => by
  revert h; unfold aExtract; split <;> first | exact noMem_const m m2 | exact noMem_fail m m2
theorem noMem_nilCheck {x : PV} : NoMem (aNilCheck x) := fun m m2 h => by
  revert h; unfold aNilCheck; split <;> first | exact noMem_const m m2 | exact noMem_fail m m2
theorem noMem_len {t : TypeId} {x : PV} : NoMem (aLen P t x) := fun m m2 h => by
  revert h; unfold aLen; split <;> first | exact noMem_const m m2 | exact noMem_fail m m2
theorem noMem_max {x y : PV} : NoMem (aMax x y) := fun m m2 h => by
  revert h; unfold aMax; split <;> first | exact noMem_const m m2 | exact noMem_fail m m2
theorem noMem_min {x y : PV} : NoMem (aMin x y) := fun m m2 h => by
  revert h; unfold aMin; split <;> first | exact noMem_const m m2 | exact noMem_fail m m2
theorem noMem_build {t : TypeId} {l : List (Nat × PV)} : NoMem (aBuild P t l) := fun m m2 h => by
  revert h; unfold aBuild
  split
  · split <;> first | exact noMem_const m m2 | exact noMem_fail m m2
  · split <;> first | exact noMem_const m m2 | exact noMem_fail m m2
  · exact noMem_fail m m2
theorem noMem_slice {t : TypeId} {x : PV} {lo hi : Option PV} : NoMem (aSlice P t x lo hi) := fun m m2 h => by
  revert h; unfold aSlice
  split
  · split <;> first | exact noMem_const m m2 | exact noMem_fail m m2
  · split <;> first | exact noMem_const m m2 | exact noMem_fail m m2
  · split <;> first | exact noMem_const m m2 | exact noMem_fail m m2
  · split <;> first | exact noMem_const m m2 | exact noMem_fail m m2
  · exact noMem_fail m m2

theorem Foot.noMem {o : Oper} {ρ : Operand → PV} {m : Hp} (hn : NoMem (aop P o ρ)) (hf1 : (fp o.op).nb = false) (hf2 : (fp o.op).nq = false) (hf3 : (fp o.op).wh = false) (hf4 : (fp o.op).wz = false) (hf5 : (fp o.op).wq = false) (hok : (aop P o ρ m).ok) :
    Foot P o ρ m (aop P o ρ m).v (aop P o ρ m).m := by
  obtain ⟨e, _⟩ := hn m m hok
  rw [e]
  refine ⟨fun _ _ => rfl, fun _ _ => rfl, fun _ _ => rfl, fun h => (by rw [hf1] at h; cases h), fun h => (by rw [hf2] at h; cases h), fun _ h => h, fun _ h => h, fun m2 _ _ _ _ _ => ?_⟩
  obtain ⟨_, g1, g2, g3⟩ := hn m m2 hok
  refine ⟨m2, .inl ⟨g1, g2.symm, g3.symm⟩, fun i => ⟨fun h => ?_, fun _ => rfl⟩, fun i => ⟨fun h => ?_, fun _ => rfl⟩, fun i => ⟨fun h => ?_, fun _ => rfl⟩⟩
  · simp [Wh, hf1, hf3] at h
  · simp [Wz, hf1, hf4] at h
  · simp [Wq, hf2, hf5] at h

/-- a block, a row of its own -/
theorem Foot.newB {o : Oper} {ρ : Operand → PV} {m : Hp} {d : Nat} {v : PV} {cs : List PV} {ok : Prop} (hd : o.dst = some d) (hop : ∀ m : Hp, aop P o ρ m = ⟨m.h d = none ∧ ok, v, m.new d cs⟩)
    (hf : fp o.op = { nb := true }) (hok : (aop P o ρ m).ok) : Foot P o ρ m (aop P o ρ m).v (aop P o ρ m).m := by
  rw [hop] at hok ⊢
  simp only at hok ⊢
  have W1 : ∀ i, Wh o ρ i ↔ i = d := fun i => by simp [Wh, hf, hd, eq_comm]
  have W2 : ∀ i, Wz o ρ i ↔ i = d := fun i => by simp [Wz, hf, hd, eq_comm]
  have W3 : ∀ i, ¬ Wq o ρ i := fun i => by simp [Wq, hf]
  have n1 : ∀ (m : Hp) i, i ≠ d → (m.new d cs).h i = m.h i := fun m i h => upd_ne _ _ (Ne.symm h)
  have n2 : ∀ (m : Hp) i, i ≠ d → (m.new d cs).z i = m.z i := fun m i h => upd_ne _ _ (Ne.symm h)
  have n3 : ∀ (m : Hp), (m.new d cs).h d = some cs := fun m => upd_same _ _ _
  have n4 : ∀ (m : Hp), (m.new d cs).z d = false := fun m => upd_same _ _ _
  refine ⟨fun i h => n1 m i (fun e => h ((W1 i).2 e)), fun i h => n2 m i (fun e => h ((W2 i).2 e)), fun _ _ => rfl, fun _ i hi => ?_, fun h => ?_, fun i h => ?_, fun _ h => h, fun m2 _ _ _ h4 _ => ?_⟩
  · rw [hd] at hi; cases hi; exact hok.1
  · rw [hf] at h; cases h
  · by_cases e : i = d
    · subst e; rw [n3]; simp
    · rw [n1 m i e]; exact h
  · refine ⟨m2.new d cs, .inl ?_, fun i => ⟨fun h => ?_, fun h => n1 m2 i (fun e => h ((W1 i).2 e))⟩, fun i => ⟨fun h => ?_, fun h => n2 m2 i (fun e => h ((W2 i).2 e))⟩, fun i => ⟨fun h => absurd h (W3 i), fun _ => rfl⟩⟩
    · rw [hop]; exact ⟨⟨h4 (by rw [hf]) d hd, hok.2⟩, rfl, rfl⟩
    · obtain rfl := (W1 i).1 h; rw [n3, n3]
    · obtain rfl := (W2 i).1 h; rw [n4, n4]
theorem Foot.newQ {o : Oper} {ρ : Operand → PV} {m : Hp} {d : Nat} {v : PV} {r : Row} {ok : Prop} (hd : o.dst = some d) (hop : ∀ m : Hp, aop P o ρ m = ⟨m.q d = none ∧ ok, v, m.setq d r⟩)
    (hf : fp o.op = { nq := true }) (hok : (aop P o ρ m).ok) : Foot P o ρ m (aop P o ρ m).v (aop P o ρ m).m := by
  rw [hop] at hok ⊢
  simp only at hok ⊢
  have W1 : ∀ i, ¬ Wh o ρ i := fun i => by simp [Wh, hf]
  have W2 : ∀ i, ¬ Wz o ρ i := fun i => by simp [Wz, hf]
  have W3 : ∀ i, Wq o ρ i ↔ i = d := fun i => by simp [Wq, hf, hd, eq_comm]
  have n1 : ∀ (m : Hp) i, i ≠ d → (m.setq d r).q i = m.q i := fun m i h => upd_ne _ _ (Ne.symm h)
  have n3 : ∀ (m : Hp), (m.setq d r).q d = some r := fun m => upd_same _ _ _
  refine ⟨fun _ _ => rfl, fun _ _ => rfl, fun i h => n1 m i (fun e => h ((W3 i).2 e)), fun h => ?_, fun _ i hi => ?_, fun _ h => h, fun i h => ?_, fun m2 _ _ _ _ h5 => ?_⟩
  · rw [hf] at h; cases h
  · rw [hd] at hi; cases hi; exact hok.1
  · by_cases e : i = d
    · subst e; rw [n3]; simp
    · rw [n1 m i e]; exact h
  · refine ⟨m2.setq d r, .inl ?_, fun i => ⟨fun h => absurd h (W1 i), fun _ => rfl⟩, fun i => ⟨fun h => absurd h (W2 i), fun _ => rfl⟩, fun i => ⟨fun h => ?_, fun h => n1 m2 i (fun e => h ((W3 i).2 e))⟩⟩
    · rw [hop]; exact ⟨⟨h5 (by rw [hf]) d hd, hok.2⟩, rfl, rfl⟩
    · obtain rfl := (W3 i).1 h; rw [n3, n3]
end
end Go.PL

namespace Go.PL
open Go.RowKit
set_option linter.unusedVariables false
section
variable {P : Program}

mutual
theorem give_congr {m m2 : Hp} : ∀ (p : PV), (∀ i, .b i ∈ p.ids → m2.h i = m.h i ∧ m2.z i = m.z i) → p.give m2 = p.give m ∧ (p.givable m → p.givable m2)
  | .ptr id off, h => by
    obtain ⟨h1, h2⟩ := h id (by simp [PV.ids])
    simp [PV.give, PV.givable, h1, h2]
  | .osl _ _ _ _, _ => by simp [PV.give, PV.givable]
  | .agg cs, h => by
    obtain ⟨h1, h2⟩ := give_congrL cs (fun i hi => h i (by simpa [PV.ids] using hi))
    simp only [PV.give, PV.givable, h1]
    exact ⟨trivial, h2⟩
  | .tup cs, h => by
    obtain ⟨h1, h2⟩ := give_congrL cs (fun i hi => h i (by simpa [PV.ids] using hi))
    simp only [PV.give, PV.givable, h1]
    exact ⟨trivial, h2⟩
  | .fn f cs, h => by
    obtain ⟨h1, h2⟩ := give_congrL cs (fun i hi => h i (by simpa [PV.ids] using hi))
    simp only [PV.give, PV.givable, h1]
    exact ⟨trivial, h2⟩
  | .any, _ => by simp [PV.give, PV.givable]
  | .int _ _, _ => by simp [PV.give, PV.givable]
  | .bool _, _ => by simp [PV.give, PV.givable]
  | .str _, _ => by simp [PV.give, PV.givable]
  | .flt _ _, _ => by simp [PV.give, PV.givable]
  | .cpx _ _ _, _ => by simp [PV.give, PV.givable]
  | .sl _ _, _ => by simp [PV.give, PV.givable]
  | .rptr _, _ => by simp [PV.give, PV.givable]
  | .nilp, _ => by simp [PV.give, PV.givable]
  | .nilfn, _ => by simp [PV.give, PV.givable]
  | .nilmap, _ => by simp [PV.give, PV.givable]
theorem give_congrL {m m2 : Hp} : ∀ (cs : List PV), (∀ i, .b i ∈ PV.idsL cs → m2.h i = m.h i ∧ m2.z i = m.z i) → PV.giveL m2 cs = PV.giveL m cs ∧ (PV.givableL m cs → PV.givableL m2 cs)
  | [], _ => by simp [PV.giveL, PV.givableL]
  | c :: cs, h => by
    obtain ⟨h1, h2⟩ := give_congr c (fun i hi => h i (by simp [PV.idsL, hi]))
    obtain ⟨h3, h4⟩ := give_congrL cs (fun i hi => h i (by simp [PV.idsL, hi]))
    simp only [PV.giveL, PV.givableL, h1, h3]
    exact ⟨trivial, fun h => ⟨h2 h.1, h4 h.2⟩⟩
end

theorem foot_call {o : Oper} {ρ : Operand → PV} {m : Hp} {v : PV} {c : Call} {g : FuncId} {args : List PV} (ho : o.op = .call c) (hc : calleeOf ρ c = some (g, args)) (hg : PV.givableL m args) (hp : Pure P g (PV.giveL m args) v) : Foot P o ρ m v m := by
  have hval : ∃ f, c.callee = .value f ∧ ∃ caps, ρ f = .fn g caps ∧ args = c.args.toList.map ρ ++ caps := by
    unfold calleeOf at hc
    split at hc
    · rename_i f hf
      split at hc
      · rename_i g' caps hcap
        simp only [Option.some.injEq, Prod.mk.injEq] at hc
        obtain ⟨rfl, rfl⟩ := hc
        exact ⟨f, hf, caps, hcap, rfl⟩
      · cases hc
    · cases hc
  obtain ⟨f, hf, caps, hcap, rfl⟩ := hval
  obtain ⟨callee, cargs, ts⟩ := c
  simp only at hf
  subst hf
  have hfp : fp o.op = { rh := true, rz := true } := by rw [ho]; rfl
  have W1 : ∀ i, ¬ Wh o ρ i := fun i => by simp [Wh, hfp]
  have W2 : ∀ i, ¬ Wz o ρ i := fun i => by simp [Wz, hfp]
  have W3 : ∀ i, ¬ Wq o ρ i := fun i => by simp [Wq, hfp]
  refine ⟨fun _ _ => rfl, fun _ _ => rfl, fun _ _ => rfl, fun h => (by rw [hfp] at h; cases h), fun h => (by rw [hfp] at h; cases h), fun _ h => h, fun _ h => h, fun m2 a1 a2 _ _ _ => ?_⟩
  have hrefs : ∀ i, .b i ∈ PV.idsL (cargs.toList.map ρ ++ caps) → .b i ∈ refsOf o ρ := fun i hi => by
    unfold refsOf
    rw [ho]
    obtain ⟨x, hx, hix⟩ := PV.mem_idsL.1 hi
    rw [List.mem_flatMap]
    rcases List.mem_append.1 hx with hx | hx
    · obtain ⟨y, hy, rfl⟩ := List.mem_map.1 hx
      exact ⟨y, by simp only [Op.operands, Call.operands]; simp; right; simpa using hy, hix⟩
    · exact ⟨f, by simp [Op.operands, Call.operands], by rw [hcap]; exact PV.mem_idsL.2 ⟨x, hx, hix⟩⟩
  obtain ⟨g1, g2⟩ := give_congrL (m := m) (m2 := m2) (cargs.toList.map ρ ++ caps) (fun i hi => ⟨a1 (by rw [hfp]) i (hrefs i hi), a2 (by rw [hfp]) i (hrefs i hi)⟩)
  refine ⟨m2, .inr ⟨_, g, _, ho, hc, g2 hg, by rw [g1]; exact hp, rfl⟩, fun i => ⟨fun h => absurd h (W1 i), fun _ => rfl⟩, fun i => ⟨fun h => absurd h (W2 i), fun _ => rfl⟩, fun i => ⟨fun h => absurd h (W3 i), fun _ => rfl⟩⟩

theorem foot_load {o : Oper} {ρ : Operand → PV} {m : Hp} {t : TypeId} {x : Operand} (ho : o.op = .load t x) (hok : (aop P o ρ m).ok) : Foot P o ρ m (aop P o ρ m).v (aop P o ρ m).m := by
  have hfp : fp o.op = { rh := true } := by rw [ho]; rfl
  have W1 : ∀ i, ¬ Wh o ρ i := fun i => by simp [Wh, hfp]
  have W2 : ∀ i, ¬ Wz o ρ i := fun i => by simp [Wz, hfp]
  have W3 : ∀ i, ¬ Wq o ρ i := fun i => by simp [Wq, hfp]
  have hop : ∀ m, aop P o ρ m = if tkn P t then aLoad P t (ρ x) m else .fail := fun m => by unfold aop; rw [ho]
  have hrefs : ∀ i, .b i ∈ (ρ x).ids → .b i ∈ refsOf o ρ := fun i hi => by
    unfold refsOf; rw [ho]; exact List.mem_flatMap.2 ⟨x, by simp [Op.operands], hi⟩
  have key : ∀ m2 : Hp, (∀ i, .b i ∈ (ρ x).ids → m2.h i = m.h i) → (aop P o ρ m).m = m ∧ (aop P o ρ m2).ok ∧ (aop P o ρ m2).v = (aop P o ρ m).v ∧ (aop P o ρ m2).m = m2 := by
    intro m2 h2
    rw [hop] at hok ⊢
    rw [hop]
    split at hok
    · rename_i hk
      simp only [hk, if_true]
      revert hok
      unfold aLoad
      cases hx : ρ x with
      | rptr cs => exact fun h => ⟨rfl, h, rfl, rfl⟩
      | ptr id off =>
        have := h2 id (by rw [hx]; simp [PV.ids])
        simp only [this]
        cases m.h id with
        | none => exact fun h => h.elim
        | some cs => exact fun h => ⟨rfl, h, rfl, rfl⟩
      | _ => exact fun h => h.elim
    · exact hok.elim
  obtain ⟨e, _⟩ := key m (fun _ _ => rfl)
  rw [e]
  refine ⟨fun _ _ => rfl, fun _ _ => rfl, fun _ _ => rfl, fun h => (by rw [hfp] at h; cases h), fun h => (by rw [hfp] at h; cases h), fun _ h => h, fun _ h => h, fun m2 a1 _ _ _ _ => ?_⟩
  obtain ⟨_, g1, g2, g3⟩ := key m2 (fun i hi => a1 (by rw [hfp]) i (hrefs i hi))
  exact ⟨m2, .inl ⟨g1, g2.symm, g3.symm⟩, fun i => ⟨fun h => absurd h (W1 i), fun _ => rfl⟩, fun i => ⟨fun h => absurd h (W2 i), fun _ => rfl⟩, fun i => ⟨fun h => absurd h (W3 i), fun _ => rfl⟩⟩

theorem foot_conv {o : Oper} {ρ : Operand → PV} {m : Hp} {t u : TypeId} {x : Operand} (ho : o.op = .convert t u x) (hok : (aop P o ρ m).ok) : Foot P o ρ m (aop P o ρ m).v (aop P o ρ m).m := by
  have hfp : fp o.op = { rh := true } := by rw [ho]; rfl
  have W1 : ∀ i, ¬ Wh o ρ i := fun i => by simp [Wh, hfp]
  have W2 : ∀ i, ¬ Wz o ρ i := fun i => by simp [Wz, hfp]
  have W3 : ∀ i, ¬ Wq o ρ i := fun i => by simp [Wq, hfp]
  have hop : ∀ m, aop P o ρ m = aConv P t u (ρ x) m := fun m => by unfold aop; rw [ho]
  have hrefs : ∀ i, .b i ∈ (ρ x).ids → .b i ∈ refsOf o ρ := fun i hi => by
    unfold refsOf; rw [ho]; exact List.mem_flatMap.2 ⟨x, by simp [Op.operands], hi⟩
  have e : (aop P o ρ m).m = m := by rw [hop] at hok ⊢; exact conv_m hok
  rw [e]
  refine ⟨fun _ _ => rfl, fun _ _ => rfl, fun _ _ => rfl, fun h => (by rw [hfp] at h; cases h), fun h => (by rw [hfp] at h; cases h), fun _ h => h, fun _ h => h, fun m2 a1 _ _ _ _ => ?_⟩
  have hok' : (aConv P t u (ρ x) m).ok := by rw [← hop]; exact hok
  obtain ⟨g1, g2, g3⟩ := conv_congr (m2 := m2) (fun i hi => a1 (by rw [hfp]) i (hrefs i hi)) hok'
  exact ⟨m2, .inl ⟨by rw [hop]; exact g1, by rw [hop, hop]; exact g2.symm, by rw [hop]; exact g3.symm⟩, fun i => ⟨fun h => absurd h (W1 i), fun _ => rfl⟩, fun i => ⟨fun h => absurd h (W2 i), fun _ => rfl⟩, fun i => ⟨fun h => absurd h (W3 i), fun _ => rfl⟩⟩

theorem foot_store {o : Oper} {ρ : Operand → PV} {m : Hp} {t : TypeId} {x y : Operand} (ho : o.op = .store t x y) (hok : (aop P o ρ m).ok) : Foot P o ρ m (aop P o ρ m).v (aop P o ρ m).m := by
  have hfp : fp o.op = { rh := true, rz := true, wh := true } := by rw [ho]; rfl
  have W2 : ∀ i, ¬ Wz o ρ i := fun i => by simp [Wz, hfp]
  have W3 : ∀ i, ¬ Wq o ρ i := fun i => by simp [Wq, hfp]
  have hop : ∀ m, aop P o ρ m = if tkn P t then aStore P t (ρ x) (ρ y) m else .fail := fun m => by unfold aop; rw [ho]
  have hrefs : ∀ i, .b i ∈ (ρ x).ids → .b i ∈ refsOf o ρ := fun i hi => by
    unfold refsOf; rw [ho]; exact List.mem_flatMap.2 ⟨x, by simp [Op.operands], hi⟩
  have W1 : ∀ i, Wh o ρ i ↔ .b i ∈ refsOf o ρ := fun i => by simp [Wh, hfp]
  rw [hop] at hok ⊢
  split at hok
  · rename_i hk
    simp only [hk, if_true]
    revert hok
    unfold aStore
    cases hx : ρ x with
    | ptr id off =>
      simp only
      cases hid : m.h id with
      | none => exact fun h => h.elim
      | some cs =>
        rintro ⟨g0, g1, g2, g3, g4⟩
        have hin : .b id ∈ refsOf o ρ := hrefs id (by rw [hx]; simp [PV.ids])
        have n1 : ∀ (m : Hp) i, i ≠ id → (upd m.h id (some (splice cs off (ρ y).cells))) i = m.h i := fun m i h => upd_ne _ _ (Ne.symm h)
        refine ⟨fun i h => n1 m i (fun e => h ((W1 i).2 (e ▸ hin))), fun _ _ => rfl, fun _ _ => rfl, fun h => (by rw [hfp] at h; cases h), fun h => (by rw [hfp] at h; cases h), fun i h => ?_, fun _ h => h, fun m2 a1 a2 _ _ _ => ?_⟩
        · show upd m.h id _ i ≠ none
          by_cases e : i = id
          · subst e; rw [upd_same]; simp
          · rw [n1 m i e]; exact h
        · have hid2 := (a1 (by rw [hfp]) id hin).trans hid
          have hz2 := (a2 (by rw [hfp]) id hin).trans g0
          refine ⟨{ m2 with h := upd m2.h id (some (splice cs off (ρ y).cells)) }, .inl ?_, fun i => ⟨fun h => ?_, fun h => n1 m2 i (fun e => h ((W1 i).2 (e ▸ hin)))⟩, fun i => ⟨fun h => absurd h (W2 i), fun _ => rfl⟩, fun i => ⟨fun h => absurd h (W3 i), fun _ => rfl⟩⟩
          · rw [hop]
            simp only [hk, if_true, aStore, hx, hid2]
            exact ⟨⟨hz2, g1, g2, g3, g4⟩, trivial, trivial⟩
          · show upd m2.h id _ i = upd m.h id _ i
            by_cases e : i = id
            · subst e; rw [upd_same, upd_same]
            · rw [n1 m2 i e, n1 m i e]; exact a1 (by rw [hfp]) i ((W1 i).1 h)
    | _ => exact fun h => h.elim
  · exact hok.elim

theorem frozenBy_z1 (m : Hp) : ∀ (cs : List PV) (i : Nat), m.z i = true → (frozenBy m cs).z i = true
  | [], i, h => h
  | c :: cs, i, h => by
    cases c with
    | ptr id off =>
      refine frozenBy_z1 (m.freeze id) cs i ?_
      show upd m.z id true i = true
      by_cases e : id = i
      · subst e; exact upd_same _ _ _
      · rw [upd_ne _ _ e]; exact h
    | _ => exact frozenBy_z1 m cs i h
theorem frozenBy_z2 (m : Hp) : ∀ (cs : List PV) (i off : Nat), PV.ptr i off ∈ cs → (frozenBy m cs).z i = true
  | [], i, off, h => by cases h
  | c :: cs, i, off, h => by
    rcases List.mem_cons.1 h with rfl | h'
    · exact frozenBy_z1 (m.freeze i) cs i (upd_same _ _ _)
    · cases c with
      | ptr id o => exact frozenBy_z2 (m.freeze id) cs i off h'
      | _ => exact frozenBy_z2 m cs i off h'
theorem frozenBy_z3 (m : Hp) : ∀ (cs : List PV) (i : Nat), (∀ off, PV.ptr i off ∉ cs) → (frozenBy m cs).z i = m.z i
  | [], i, h => rfl
  | c :: cs, i, h => by
    have ih := fun m => frozenBy_z3 m cs i (fun off ho => h off (by simp [ho]))
    cases c with
    | ptr id o =>
      refine (ih (m.freeze id)).trans (upd_ne _ _ fun e => ?_)
      subst e
      exact h o (by simp)
    | _ => exact ih m

theorem capsOk_congr {m m2 : Hp} : ∀ (cs : List PV), (∀ i, .b i ∈ PV.idsL cs → m2.h i = m.h i) → capsOk m cs → capsOk m2 cs
  | [], _, _ => trivial
  | c :: cs, h, hk => by
    have ih := capsOk_congr (m := m) (m2 := m2) cs (fun i hi => h i (by simp [PV.idsL, hi]))
    cases c with
    | ptr id off =>
      obtain ⟨h1, h2⟩ := hk
      refine ⟨?_, ih h2⟩
      rw [h id (by simp [PV.idsL, PV.ids])]
      exact h1
    | _ => exact ⟨hk.1, ih hk.2⟩

theorem capsOk_refs {m : Hp} : ∀ {cs : List PV}, capsOk m cs → ∀ i, .b i ∈ PV.idsL cs → ∃ off, PV.ptr i off ∈ cs
  | [], _, i, hi => by simp [PV.idsL] at hi
  | c :: cs, hk, i, hi => by
    simp only [PV.idsL, List.mem_append] at hi
    rcases hi with hi | hi
    · cases c with
      | ptr id off => simp [PV.ids] at hi; subst hi; exact ⟨off, by simp⟩
      | _ => obtain ⟨h1, _⟩ := hk; rw [h1] at hi; cases hi
    · have hk2 : capsOk m cs := by cases c <;> exact hk.2
      obtain ⟨off, ho⟩ := capsOk_refs hk2 i hi
      exact ⟨off, by simp [ho]⟩

theorem foot_makeFunc {o : Oper} {ρ : Operand → PV} {m : Hp} {f : FuncId} {first caps : Array Operand} (ho : o.op = .makeFunc (.func f) first caps) (hok : (aop P o ρ m).ok) : Foot P o ρ m (aop P o ρ m).v (aop P o ρ m).m := by
  have hop : ∀ m, aop P o ρ m = if first.isEmpty then ⟨capsOk m (caps.toList.map ρ), .fn f (caps.toList.map ρ), frozenBy m (caps.toList.map ρ)⟩ else .fail := fun m => by unfold aop; rw [ho]
  rw [hop] at hok ⊢
  split at hok
  · rename_i hfe
    simp only [hfe, if_true]
    simp only at hok
    by_cases hce : caps.isEmpty = true
    · have hc0 : caps = #[] := by simpa using hce
      subst hc0
      have hfp : fp o.op = {} := by rw [ho]; rfl
      have W1 : ∀ i, ¬ Wh o ρ i := fun i => by simp [Wh, hfp]
      have W2 : ∀ i, ¬ Wz o ρ i := fun i => by simp [Wz, hfp]
      have W3 : ∀ i, ¬ Wq o ρ i := fun i => by simp [Wq, hfp]
      refine ⟨fun _ _ => rfl, fun _ _ => rfl, fun _ _ => rfl, fun h => (by rw [hfp] at h; cases h), fun h => (by rw [hfp] at h; cases h), fun _ h => h, fun _ h => h, fun m2 _ _ _ _ _ => ?_⟩
      refine ⟨m2, .inl ?_, fun i => ⟨fun h => absurd h (W1 i), fun _ => rfl⟩, fun i => ⟨fun h => absurd h (W2 i), fun _ => rfl⟩, fun i => ⟨fun h => absurd h (W3 i), fun _ => rfl⟩⟩
      rw [hop]
      simp only [hfe, if_true]
      exact ⟨trivial, trivial, rfl⟩
    · have hfp : fp o.op = { rh := true, wz := true } := by rw [ho]; simp [fp, hce]
      have hrefs : ∀ i, .b i ∈ PV.idsL (caps.toList.map ρ) ↔ .b i ∈ refsOf o ρ := fun i => by
        unfold refsOf
        rw [ho]
        have hf0 : first = #[] := by simpa using hfe
        subst hf0
        constructor
        · intro hi
          obtain ⟨x, hx, hix⟩ := PV.mem_idsL.1 hi
          obtain ⟨y, hy, rfl⟩ := List.mem_map.1 hx
          exact List.mem_flatMap.2 ⟨y, by simpa [Op.operands] using hy, hix⟩
        · intro hi
          obtain ⟨y, hy, hiy⟩ := List.mem_flatMap.1 hi
          exact PV.mem_idsL.2 ⟨ρ y, List.mem_map.2 ⟨y, by simpa [Op.operands] using hy, rfl⟩, hiy⟩
      have W1 : ∀ i, ¬ Wh o ρ i := fun i => by simp [Wh, hfp]
      have W2 : ∀ i, Wz o ρ i ↔ .b i ∈ refsOf o ρ := fun i => by simp [Wz, hfp]
      have W3 : ∀ i, ¬ Wq o ρ i := fun i => by simp [Wq, hfp]
      have zz : ∀ (m : Hp) i, (.b i ∈ refsOf o ρ → (frozenBy m (caps.toList.map ρ)).z i = true) ∧ (.b i ∉ refsOf o ρ → (frozenBy m (caps.toList.map ρ)).z i = m.z i) := fun m' i => by
        constructor
        · intro hi
          obtain ⟨off, ho'⟩ := capsOk_refs hok i ((hrefs i).2 hi)
          exact frozenBy_z2 m' _ i off ho'
        · intro hi
          exact frozenBy_z3 m' _ i (fun off ho' => hi ((hrefs i).1 (PV.mem_idsL.2 ⟨_, ho', by simp [PV.ids]⟩)))
      refine ⟨fun i _ => by rw [frozenBy_h], fun i h => (zz m i).2 (fun hh => h ((W2 i).2 hh)), fun i _ => by rw [frozenBy_q], fun h => (by rw [hfp] at h; cases h), fun h => (by rw [hfp] at h; cases h), fun i h => by rw [frozenBy_h]; exact h, fun i h => by rw [frozenBy_q]; exact h, fun m2 a1 _ _ _ _ => ?_⟩
      refine ⟨frozenBy m2 (caps.toList.map ρ), .inl ?_, fun i => ⟨fun h => absurd h (W1 i), fun _ => by rw [frozenBy_h]⟩, fun i => ⟨fun h => ?_, fun h => (zz m2 i).2 (fun hh => h ((W2 i).2 hh))⟩, fun i => ⟨fun h => absurd h (W3 i), fun _ => by rw [frozenBy_q]⟩⟩
      · rw [hop]
        simp only [hfe, if_true]
        exact ⟨capsOk_congr _ (fun i hi => a1 (by rw [hfp]) i ((hrefs i).1 hi)) hok, trivial, trivial⟩
      · rw [(zz m2 i).1 ((W2 i).1 h), (zz m i).1 ((W2 i).1 h)]
  · exact hok.elim

end
end Go.PL
