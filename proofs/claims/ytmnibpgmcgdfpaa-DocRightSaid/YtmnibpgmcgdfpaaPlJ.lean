/- A logic of values for functions that only read and build, over the model (part 10): no statement of the seat is proved here. -/
import Derived.Test.YtmnibpgmcgdfpaaPlI
import Derived.Test.YtmnibpgmcgdfpaaPlH
import Derived.OrdersIn
import Derived.RangeFuncCalls
import Derived.RangeFuncKeeps
set_option linter.unusedSimpArgs false
set_option linter.unusedVariables false
namespace Go.PL
open Go.RowKit
set_option linter.unusedVariables false
/-! Calls with one vec, or one block, of the caller's: how the walk goes on -/
section
variable {P : Program}
abbrev oneV (n sz : Nat) (e : TypeId) (es : List PV) : MemL := ⟨[], [(1000, .vec n sz e)], [(1000, es)]⟩
abbrev noV : MemL := ⟨[], [], []⟩
theorem oneV_ok {n sz : Nat} {e : TypeId} {es : List PV} (h : ∀ p ∈ es, p.ids = []) : (oneV n sz e es).Ok :=
  ⟨by simp, by simp, by simp, by simp, by simp, fun x hx c hc i hi => by simp only [List.mem_singleton] at hx; subst hx; rw [h c hc] at hi; cases hi⟩
theorem noV_ok : noV.Ok := ⟨by simp, by simp, by simp, by simp, by simp, by simp⟩
/-! how such contracts begin -/
theorem Eff.vr (vm : List Nat) {f : FuncId} {fn : Func} {c : Code} {args : List PV} {r : PV} {n k sz : Nat} {e : TypeId} {es' : List PV} {rs : List ResultVar} (hf : P.funcs[f]? = some fn) (hname : fn.name ≠ "runtime.NumGoroutine") (hb : fn.body = some c) (hn : fn.ntmps = n) (hrs : fn.results = rs.toArray) (hl : args.length ≤ n)
    (hes' : ∀ p ∈ es', p.ids = []) (ha : ∀ p ∈ args, p.ids = []) (hr : ∀ i ∈ r.ids, i = .r 1000)
    (h : @vC P ⟨c⟩ ⟨eRetQ P rs r noV (oneV k sz e es') (fun _ => 0) (fun _ => none)⟩ ((St.init args n).vms vm)) : Eff P f args noV r (oneV k sz e es') :=
  Eff.of_v vm hf hname hb hn hrs hl noV_ok (oneV_ok hes') (fun p hp i hi => by rw [ha p hp] at hi; cases hi) (fun i hi => by rw [hr i hi]; exact ⟨_, List.mem_singleton.2 rfl, rfl⟩) (by simp) (by simp) fun ph pq => by
    have h3 : eRetQ P rs r noV (oneV k sz e es') ph pq = eRetQ P rs r noV (oneV k sz e es') (fun _ => 0) (fun _ => none) := by
      have h4 : ∀ s, ERet P rs r noV (oneV k sz e es') ph pq s = ERet P rs r noV (oneV k sz e es') (fun _ => 0) (fun _ => none) s := fun s => propext ⟨fun h => ⟨h.r, h.h, h.q, h.v, by simp, by simp⟩, fun h => ⟨h.r, h.h, h.q, h.v, by simp, by simp⟩⟩
      funext e s
      cases e <;> first | exact h4 s | rfl
    rw [h3]
    exact h

end
end Go.PL

/-! Rows put in order: the plain theory (no program in sight) -/
namespace Go.PL.Srt
set_option linter.unusedVariables false
variable {α : Type}

structure Good (lt : α → α → Bool) : Prop where
  asym : ∀ a b, lt a b = true → lt b a = false
  trans : ∀ a b c, lt a b = true → lt b c = true → lt a c = true

def Inc (lt : α → α → Bool) (l : List α) : Prop := l.Pairwise fun a b => lt a b = true
/-- no two are alike -/
def Unl (lt : α → α → Bool) (l : List α) : Prop := l.Pairwise fun a b => lt a b = true ∨ lt b a = true

variable {lt : α → α → Bool}
theorem Unl.append {l l' : List α} : Unl lt (l ++ l') ↔ Unl lt l ∧ Unl lt l' ∧ ∀ a ∈ l, ∀ b ∈ l', lt a b = true ∨ lt b a = true := List.pairwise_append
theorem Inc.append {l l' : List α} : Inc lt (l ++ l') ↔ Inc lt l ∧ Inc lt l' ∧ ∀ a ∈ l, ∀ b ∈ l', lt a b = true := List.pairwise_append
theorem Inc.take {l : List α} (h : Inc lt l) (k : Nat) : Inc lt (l.take k) := List.Pairwise.sublist (List.take_sublist _ _) h
theorem Inc.drop {l : List α} (h : Inc lt l) (k : Nat) : Inc lt (l.drop k) := List.Pairwise.sublist (List.drop_sublist _ _) h

/-! ### two that change places -/
end Go.PL.Srt

/-! Steps that no code takes, as a relation of states; a loop whose next head is told behind such steps -/
namespace Go.PL
open Go.RowKit
set_option linter.unusedVariables false
section
variable {P : Program} {B : Frm} {S : Stable} {M : Maps} {s s' s'' : St} {a : Act} {w : World} {Q : Exit → St → Prop}

/-- a state told otherwise: no code runs -/
def Gh (s s'' : St) : Prop := ∀ B S M a w, Sim B S M s a w → ∃ S' M', Sim B S' M' s'' a w ∧ Ext B S S' w w
theorem Gh.refl (s : St) : Gh s s := fun B S M a w hs => ⟨S, M, hs, Ext.refl _ _ _⟩
theorem Gh.trans (h : Gh s s') (h' : Gh s' s'') : Gh s s'' := fun B S M a w hs => by
  obtain ⟨S1, M1, h1, h2⟩ := h B S M a w hs
  obtain ⟨S2, M2, h3, h4⟩ := h' B S1 M1 a w h1
  exact ⟨S2, M2, h3, h2.trans h4⟩
theorem Gh.weak (hw : Weak s' s) (hr : Refs s') : Gh s s' := fun B S M a w hs => ⟨S, M, hs.weak hw hr, Ext.refl _ _ _⟩
/-- the next head, behind such steps -/
def NextG {ι : Type} (I : ι → St) (μ : ι → Nat) (i : ι) (s' : St) : Prop := ∃ j, μ j < μ i ∧ Gh s' (I j)
end
attribute [go_sem] NextG
end Go.PL

/-! Calls that hand on one vec, under whatever name -/
namespace Go.PL
open Go.RowKit
set_option linter.unusedVariables false
section
variable {P : Program}
end
end Go.PL

/-! Calls that hand on one row, under whatever name -/
namespace Go.PL
open Go.RowKit
set_option linter.unusedVariables false
section
variable {P : Program}
end
end Go.PL

/-! Maps of rows: states told by functions, rows in a map under their own names, a map that is written no more -/
namespace Go.PL
open Go.RowKit
set_option linter.unusedVariables false
section
variable {P : Program} {B : Frm} {S : Stable} {M : Maps} {s s' s'' : St} {a : Act} {w : World} {Q : Exit → St → Prop}

end
end Go.PL

namespace Go.PL
open Go.RowKit
set_option linter.unusedVariables false
section
variable {P : Program}
end
end Go.PL

/-! The body of a range over a function: code walked in a round's frame, told of values -/
namespace Go.PL
open Go.RowKit
set_option linter.unusedVariables false
section
variable {P : Program} {l n : Nat}

/-- what holds behind a piece of code of a round, told of values -/
def awpR (l n : Nat) (P : Program) (c : Code) (Q : Exit → St → Prop) (s : St) : Prop :=
  ∀ B S M a w, Sim B S M s a w → c.wpIn (Fence.wide.inRound l) n P (fun e a' w' => ∃ s' S' M', Q e s' ∧ Sim B S' M' s' a' w' ∧ Ext B S S' w w') a w

def noDefer (ops : Array Oper) : Bool := ops.toList.all fun o => match o.op with | .defer _ => false | _ => true
variable {s : St} {Q Q' : Exit → St → Prop}
/-- the conditions of a round's code; what has no rule here stands as it is -/
def vcR (l n : Nat) (P : Program) : Code → (Exit → St → Prop) → St → Prop
  | .skip, Q, s => Q .normal s
  | .ret, Q, s => Q .ret s
  | .exit id, Q, s => Q (.exit id) s
  | .goto t, Q, s => Q (.goto t) s
  | .seq x y, Q, s => vcR l n P x (thenQ (vcR l n P y Q) Q) s
  | .cond c x y, Q, s => vcCond (s.eval c) (vcR l n P x Q s) (vcR l n P y Q s)
  | .block id c, Q, s => vcR l n P c (blockQ id Q) s
  | .region _ ops false, Q, s => noDefer ops = true ∧ vcA P true ops (Q .normal) ops.toList s
  | c, Q, s => awpR l n P c Q s
end
/-! The same out of simp's reach, as vC -/
def vR (l n : Nat) (P : Program) [C : COD] [Q : QS] (s : St) : Prop := vcR l n P C.c Q.q s
section
variable {P : Program} {l n : Nat}
theorem vR_skip (Q : QS) (s : St) : @vR l n P ⟨.skip⟩ Q s = @vQ Q .normal s := rfl
theorem vR_ret (Q : QS) (s : St) : @vR l n P ⟨.ret⟩ Q s = @vQ Q .ret s := rfl
theorem vR_exit (id : Nat) (Q : QS) (s : St) : @vR l n P ⟨.exit id⟩ Q s = @vQ Q (.exit id) s := rfl
theorem vR_goto (t : Nat) (Q : QS) (s : St) : @vR l n P ⟨.goto t⟩ Q s = @vQ Q (.goto t) s := rfl
theorem vR_seq (x y : Code) (Q : QS) (s : St) : @vR l n P ⟨.seq x y⟩ Q s = @vR l n P ⟨x⟩ ⟨thenQ (@vR l n P ⟨y⟩ Q) Q.q⟩ s := rfl
theorem vR_cond (c : Operand) (x y : Code) (Q : QS) (s : St) : @vR l n P ⟨.cond c x y⟩ Q s = @vCond (s.eval c) ⟨@vR l n P ⟨x⟩ Q s⟩ ⟨@vR l n P ⟨y⟩ Q s⟩ := rfl
theorem vR_block (id : Nat) (c : Code) (Q : QS) (s : St) : @vR l n P ⟨.block id c⟩ Q s = @vR l n P ⟨c⟩ ⟨blockQ id Q.q⟩ s := rfl
theorem vR_region (id : Nat) (li : List Oper) (Q : QS) (s : St) : @vR l n P ⟨.region id li.toArray false⟩ Q s = (noDefer li.toArray = true ∧ @vA P true ⟨@vQ Q .normal⟩ ⟨li⟩ ⟨li⟩ s) := rfl
theorem vR_draw (id : Nat) (li : Array Oper) (Q : QS) (s : St) : @vR l n P ⟨.region id li true⟩ Q s = awpR l n P (.region id li true) Q.q s := rfl
end
attribute [go_sem] vR_skip vR_ret vR_exit vR_goto vR_seq vR_cond vR_block vR_region vR_draw noDefer
end Go.PL

namespace Go.PL
open Go.RowKit
set_option linter.unusedVariables false
section
variable {P : Program} {B : Frm} {S : Stable} {M : Maps} {s : St} {a : Act} {w : World}
theorem cell_not {l k : Nat} {o : Obj} (hl : w.heap[l]? = some o) (hc : o.isCells = false) : w.cell? ⟨l, k, none⟩ = none := by
  unfold World.cell?
  cases o <;> simp_all [Obj.isCells]
/-- a block that holds no cells is turned: nothing that is told leans on it -/
theorem Sim.turn (hs : Sim B S M s a w) {l : Nat} {o o' : Obj} (hl : w.heap[l]? = some o) (hc : o.isCells = false) (h1 : S.m l = none) (h2 : s.m.o l = none) (h3 : s.m.it l = none) (h4 : s.m.om l = none) : Sim B S M s a (w.putObj l o') := by
  have ne : ∀ k, k ≠ l → (w.putObj l o').heap[k]? = w.heap[k]? := fun k hk => World.putObj_heap_other hk
  have hst : Stab B S (w.putObj l o') s.m.o s.m.it := hs.stable.move (SLe.refl S) (fun b c hb => (hs.stable.o b c hb).2.1) ⟨fun b k v hv => by
      have h := hs.stable b k v hv
      have hb : b ≠ l := fun e => by subst e; rw [cell_not hl hc] at h; cases h
      rw [← h]
      exact World.cell?_of_block (ne b hb), fun b es hb => by
      rw [ne b (fun e => by subst e; rw [h1] at hb; cases hb)]
      exact hs.stable.s.m b es hb, fun b hb => by
      obtain ⟨vs, t, e⟩ := hs.stable.s.y b hb
      exact ⟨vs, t, by rw [ne b (fun e' => by subst e'; rw [hl] at e; cases e; cases hc)]; exact e⟩⟩ (fun b c hb => ne b (fun e => by subst e; rw [h2] at hb; cases hb)) (fun b x hb => ne b (fun e => by subst e; rw [h3] at hb; cases hb))
  exact hs.growX (b := l) (fun vs t f e => by rw [hl] at e; cases e; cases hc) (SLe.refl S) (fun k hk hkl o => rfl) (fun k hk hkl => ne k hkl) (by simp) hst (fun k d hk => ⟨(fun e => by subst e; rw [h4] at hk; cases hk), (hs.rm k d hk).2.2.1, (hs.rm k d hk).2.1⟩)
/-- a block is laid of which nothing is told -/
theorem Sim.lay (hs : Sim B S M s a w) (o : Obj) : Sim B S M s a (w.alloc o) :=
  hs.grow (SLe.refl S) (fun _ _ => ⟨fun _ => rfl, rfl⟩) (hs.stable.s.old fun k hk => alloc_heap_old w o hk) (fun k hk => alloc_heap_old w o hk) (by simp)
end
end Go.PL

/-! A RANGE OVER A FUNCTION, told of values: the iterator hands on what is told in stable cells; the body walks in a round's frame -/
namespace Go.PL
open Go.RowKit
set_option linter.unusedVariables false
/-- what an iterator may do to memory between two rounds: new blocks, draws -/
def Calm {β : Type} (J : β → World → Prop) : Prop := ∀ s W, J s W → (∀ o, J s (W.alloc o)) ∧ J s { W with drawn := W.drawn + 1 }
/-- an iterator's contract: for every body that keeps Kp -/
def SeqQ {α : Type} (n : Nat) (P : Program) (g : Nat) (lb : Array Value) (encs : α → Array Value) (Kp : World → World → Prop) (S Sp : List α → Prop) (N : Nat) (w : World) : Prop :=
  ∀ (l : Nat) (J Jx : List α → World → Prop) (W : World), Below w.heap.size w W → Calm J → Calm Jx →
    (∀ pre x W1, J pre W1 → pre.length < N → YieldAt Fence.wide (n - 1) P l (encs x) W1 fun e W' =>
      (e = .returned (.bool true) ∧ J (pre ++ [x]) W' ∧ Kp W1 W') ∨ (e = .returned (.bool false) ∧ Jx (pre ++ [x]) W')) →
    J [] W →
    CallsIn Fence.wide n P g (#[.func (.yield l) #[] #[]] ++ lb) W fun e W' => (∃ v, e = .returned v) ∧ ((∃ xs, S xs ∧ J xs W') ∨ (∃ pre, Sp pre ∧ Jx pre W'))
section
variable {P : Program}
/-- what an iterator hands on: told of values, whatever the body does to what is not stable -/
def GivesP (P : Program) (gf : FuncId) (caps : List PV) {A : Type} (xs : List A) (enc : A → List PV) (wd : Nat) : Prop :=
  Callable P gf ∧ ∀ (m : Nat) (S : Stable) (w : World) (lb : Array Value), StabS S w → lb.size = caps.length → (∀ i, i < caps.length → Rep S (lb.getD i undef) (caps.getD i .any)) →
    ∃ encs : Fin xs.length → Array Value, (∀ k, (encs k).size = wd ∧ (enc xs[k]).length = wd ∧ ∀ i, i < wd → Rep S ((encs k).getD i undef) ((enc xs[k]).getD i .any)) ∧
      SeqQ (m + 1) P gf lb encs (fun W W' => StabS S W → StabS S W') (fun ks => ks = List.finRange xs.length) (fun pre => pre <+: List.finRange xs.length) xs.length w

/-- the book-keeping of a range over a function -/
def Book (w : World) (k : Nat) : Prop := (∃ r, w.heap[k]? = some (.loop r)) ∨ ∃ d, w.heap[k]? = some (.deferred d)
theorem Book.obj {w : World} {k : Nat} (h : Book w k) : ∃ o, w.heap[k]? = some o ∧ o.isCells = false ∧ (∀ es n, o ≠ .map es n) ∧ ∀ b n s m, o ≠ .mapIter b n s m := by
  rcases h with ⟨r, h⟩ | ⟨d, h⟩
  · exact ⟨_, h, rfl, (fun _ _ e => by cases e), (fun _ _ _ _ e => by cases e)⟩
  · exact ⟨_, h, rfl, (fun _ _ e => by cases e), (fun _ _ _ _ e => by cases e)⟩
theorem Book.no_cells {w : World} {k : Nat} (h : Book w k) {vs : Array Value} {t : TypeId} {f : Nat × Nat} : w.heap[k]? ≠ some (.cells vs t f) := fun e => by
  obtain ⟨o, h1, h2, _⟩ := h.obj
  rw [h1] at e; cases e; cases h2
theorem Book.no_map {w : World} {k : Nat} (h : Book w k) {es : Array MapEntry} {n : Nat} : w.heap[k]? ≠ some (.map es n) := fun e => by
  obtain ⟨o, h1, _, h2, _⟩ := h.obj
  rw [h1] at e; cases e; exact h2 _ _ rfl
theorem Book.lt {w : World} {k : Nat} (h : Book w k) : k < w.heap.size := by
  obtain ⟨o, h1, _⟩ := h.obj
  exact (Array.getElem?_eq_some_iff.1 h1).1

variable {B : Frm} {S : Stable} {M : Maps} {s s' : St} {a : Act} {w : World}
/-- more blocks are left alone: such as hold nothing that is told -/
theorem Sim.widen (hs : Sim B S M s a w) {B' : Frm} (h1 : ∀ k, B' k → B k ∨ Book w k) (hzz : ∀ k, ¬ B' k → S.z k) : Sim B' S M s a w := by
  have no : ∀ {k}, ¬ B k → ¬ Book w k → ¬ B' k := fun h h' hb => (h1 _ hb).elim h h'
  refine ⟨hs.defers, hs.hn, fun k hk => (h1 k hk).elim (hs.hB k) Book.lt, ⟨hs.stable.s, fun b c hc => ?_, fun b x hx => ?_⟩, hs.fr, hs.ids, fun id cs hc => ?_, fun id r hr => ?_, hs.inj, hs.injq, hs.injx, fun b c hc => ?_, hs.vc, hs.pn, hzz⟩
  · obtain ⟨g1, g2, g3⟩ := hs.stable.o b c hc
    refine ⟨no g1 fun hb => ?_, g2, g3⟩
    obtain ⟨es, h, _⟩ := g3
    exact hb.no_map h
  · obtain ⟨g1, g2, g3⟩ := hs.stable.i b x hx
    refine ⟨no g1 fun hb => ?_, g2, g3⟩
    obtain ⟨o, e1, _, _, e2⟩ := hb.obj
    unfold IterAt at g2
    rw [e1] at g2; cases g2; exact e2 _ _ _ _ rfl
  · have h := hs.blk id cs hc
    cases hz : s.m.z id with
    | true => rw [hz] at h; exact h
    | false =>
      rw [hz] at h
      obtain ⟨g1, g2, ⟨vs, t, g3, g4⟩, g5⟩ := h
      exact ⟨no g1 fun hb => hb.no_cells g3, g2, ⟨vs, t, g3, g4⟩, g5⟩
  · have h := hs.row id r hr
    cases r with
    | dead => trivial
    | live n sz e =>
      obtain ⟨g1, g2⟩ := h
      refine ⟨g1, fun c hc => ?_⟩
      obtain ⟨p1, p2, p3, ⟨vs, p4, p5⟩, p6⟩ := g2 c hc
      exact ⟨p1, p2, no p3 fun hb => hb.no_cells p4, ⟨vs, p4, p5⟩, p6⟩
    | vec n sz e =>
      obtain ⟨g1, g2⟩ := h
      refine ⟨g1, fun c hc => ?_⟩
      obtain ⟨p1, p2, p3, ⟨vs, p4, p5⟩, p6⟩ := g2 c hc
      exact ⟨p1, p2, no p3 fun hb => hb.no_cells p4, ⟨vs, p4, p5⟩, p6⟩
  · obtain ⟨g1, g2, g3, g4⟩ := hs.rm b c hc
    refine ⟨no g1 fun hb => ?_, g2, g3, g4⟩
    obtain ⟨⟨es, h, _⟩, _⟩ := g4
    exact hb.no_map h
/-- the book is written -/
theorem Sim.book (hs : Sim B S M s a w) {l : Nat} (hl : Book w l) (o' : Obj) : Sim B S M s a (w.putObj l o') := by
  obtain ⟨o, h1, h2, h3, h4⟩ := hl.obj
  refine hs.turn h1 h2 ?_ ?_ ?_ ?_
  · cases e : S.m l with
    | none => rfl
    | some es => exact absurd (hs.stable.s.m l es e) hl.no_map
  · cases e : s.m.o l with
    | none => rfl
    | some c => obtain ⟨_, _, es, h, _⟩ := hs.stable.o l c e; exact absurd h hl.no_map
  · cases e : s.m.it l with
    | none => rfl
    | some x =>
      obtain ⟨_, h, _⟩ := hs.stable.i l x e
      unfold IterAt at h
      rw [h1] at h; cases h; exact absurd rfl (h4 _ _ _ _)
  · cases e : s.m.om l with
    | none => rfl
    | some c => obtain ⟨_, _, _, ⟨es, h, _⟩, _⟩ := hs.rm l c e; exact absurd h hl.no_map
theorem StabS.below {S S' : Stable} {w : World} (h : StabS S' w) (hle : SLe S S') : StabS S w := ⟨fun b o v hv => h.c b o v (hle _ _ _ hv), fun b es he => h.m b es (hle.m _ _ he), fun b hb => h.y b (hle.y b hb)⟩
theorem StabS.book {S : Stable} {w : World} (h : StabS S w) {l : Nat} (hl : Book w l) (o' : Obj) : StabS S (w.putObj l o') := by
  obtain ⟨o, h1, h2, h3, h4⟩ := hl.obj
  refine ⟨fun b k v hv => ?_, fun b es he => ?_, fun b hb => ?_⟩
  rotate_right
  · obtain ⟨vs, t, e⟩ := h.y b hb
    exact ⟨vs, t, by rw [World.putObj_heap_other (fun e' => by subst e'; exact hl.no_cells e)]; exact e⟩
  · have g := h.c b k v hv
    have hb : b ≠ l := fun e => by subst e; rw [cell_not h1 h2] at g; cases g
    rw [← g]
    exact World.cell?_of_block (World.putObj_heap_other hb)
  · have g := h.m b es he
    rw [World.putObj_heap_other (fun e => by subst e; exact hl.no_map g)]
    exact g
/-- other temporaries beside the same memory -/
theorem Sim.reslot (hs : Sim B S M s a w) {a' : Act} {f : Nat → PV} {n : Nat} (hd : a'.defers = []) (hn : a'.tmps.size = n) (fr : ∀ i, RepS S M s.m.q (a'.tmps.getD i undef) (f i)) (ids : ∀ i r, r ∈ (f i).ids → Live s.m r) : Sim B S M ⟨f, s.m, n⟩ a' w :=
  ⟨hd, hn, hs.hB, hs.stable, fr, ids, hs.blk, hs.row, hs.inj, hs.injq, hs.injx, hs.rm, hs.vc, hs.pn, hs.hz⟩
def putL (s : St) : List (Nat × PV) → St
  | [] => s
  | x :: l => putL (s.put (some x.1) x.2) l
theorem Sim.putL : ∀ (l : List (Nat × PV)) (vs : List Value) {s : St} {a : Act}, Sim B S M s a w → vs.length = l.length → (∀ x ∈ l, x.1 < s.n) → (∀ x ∈ l, x.2.ids = []) → (∀ i, i < l.length → Rep S (vs.getD i undef) (l.getD i (0, .any)).2) →
    Sim B S M (putL s l) { tmps := ((l.map (·.1)).zip vs).foldl (fun t x => t.setIfInBounds x.1 x.2) a.tmps, defers := [] } w
  | [], vs, s, a, hs, _, _, _, _ => by
    have : a = { tmps := a.tmps, defers := [] } := by rw [← hs.defers]
    simp only [PL.putL, List.map_nil, List.zip_nil_left, List.foldl_nil]
    rw [← this]; exact hs
  | x :: l, [], s, a, hs, h, _, _, _ => by simp at h
  | x :: l, v :: vs, s, a, hs, hl, hn, hi, hr => by
    have h1 := hs.put (d := some x.1) (v := v) (p := x.2) (fun y e => by cases e; exact hn x (by simp)) (.clean (hr 0 (by simp))) (fun r hr' => by rw [hi x (by simp)] at hr'; cases hr')
    have h2 := Sim.putL l vs h1 (by simpa using hl) (fun y hy => hn y (by simp [hy])) (fun y hy => hi y (by simp [hy])) (fun i hi => hr (i + 1) (by simpa using hi))
    exact h2
/-- memory, as far as it is told: blocks, rows, vecs -/
structure MemT where
  H : List (Nat × List PV × Bool)
  R : List (Nat × Row)
  V : List (Nat × List PV)
abbrev mkT (n : Nat) (L : List (Nat × PV)) (m : MemT) (p : List (Nat × Nat)) : St := mkStX n L m.H m.R [] [] m.V [] p [] []
abbrev HasT (n : Nat) (L : List (Nat × PV)) (m : MemT) (p : List (Nat × Nat)) (s : St) : Prop := HasX n L m.H m.R [] [] m.V [] p [] s
abbrev WholeT (L : List (Nat × PV)) (m : MemT) (p : List (Nat × Nat)) : Prop := WholeX L m.H m.R m.V [] p []
/-- how a round may be left: off its end, or by a return (Y, X: what holds then) -/
def rangeQ (n : Nat) (m mx : MemT) (Y X : Prop) (p : List (Nat × Nat)) : Exit → St → Prop
  | .normal, s => Y ∧ HasT n [] m p s
  | .ret, s => X ∧ HasT n [] mx p s
  | _, _ => False
def pinL (pin : List Nat) (φ : Nat → Nat) : List (Nat × Nat) := pin.map fun i => (i, φ i)
theorem Ext.mono {B B' : Frm} {S S' : Stable} {w w' : World} (h : Ext B' S S' w w') (hb : ∀ k, B k → B' k) : Ext B S S' w w' := ⟨h.1, fun b hb' => h.2.1 b (hb b hb'), h.2.2.mono hb⟩

theorem idsL_at0 {cs : List PV} (h : PV.idsL cs = []) {i : Nat} (hi : i < cs.length) : (cs.getD i .any).ids = [] := by
  refine List.eq_nil_iff_forall_not_mem.2 fun r hr => ?_
  have : r ∈ PV.idsL cs := PV.mem_idsL.2 ⟨_, getD_mem hi, hr⟩
  rw [h] at this; cases this
theorem RepS.rep0 {S : Stable} {M : Maps} {q : Rows} {v : Value} {p : PV} (r : RepS S M q v p) (h : p.ids = []) : Rep S v p := by
  induction r with
  | clean r => exact r
  | ptr id off => simp [PV.ids] at h
  | osl id off len cap sz hc => simp [PV.ids] at h
  | row id v es r t => simp [PV.ids] at h
  | vsl id len sz v hv t => simp [PV.ids] at h
  | vptr id n sz i off v hv hi t => simp [PV.ids] at h
  | agg vs cs hl _ ih => exact .agg vs cs hl fun i hi => ih i hi (idsL_at0 (by simpa [PV.ids] using h) hi)
  | tup vs cs hl _ ih => exact .tup vs cs hl fun i hi => ih i hi (idsL_at0 (by simpa [PV.ids] using h) hi)
  | fn f vs cs hl _ ih => exact .fn f vs cs hl fun i hi => ih i hi (idsL_at0 (by simpa [PV.ids] using h) hi)
theorem zip_foldl {ps : Array Nat} {vs : Array Value} (t : Array Value) : (ps.zip vs).foldl (fun t (p, v) => t.setIfInBounds p v) t = (ps.toList.zip vs.toList).foldl (fun t x => t.setIfInBounds x.1 x.2) t := by
  rw [← Array.foldl_toList, Array.toList_zip]
theorem pin_at {pin : List Nat} {φ : Nat → Nat} {i : Nat} (h : i ∈ pin) (f : Nat → Option Nat) : upds ((pinL pin φ).map fun x => (x.1, some x.2)) f i = some (φ i) := by
  induction pin with
  | nil => cases h
  | cons j pin ih =>
    show upd (upds ((pinL pin φ).map fun x => (x.1, some x.2)) f) j (some (φ j)) i = some (φ i)
    by_cases e : j = i
    · subst e; rw [upd_same]
    · rw [upd_ne _ _ e]
      exact ih ((List.mem_cons.1 h).resolve_left fun e' => e e'.symm)
/-- the blocks' places are noted -/
theorem Sim.pin (hs : Sim B S M s a w) {pin : List Nat} (hp : ∀ i ∈ pin, s.m.h i ≠ none) : Sim B S M { s with m := { s.m with ph := upds ((pinL pin M.φ).map fun x => (x.1, some x.2)) fun _ => none } } a w := by
  refine ⟨hs.defers, hs.hn, hs.hB, hs.stable, hs.fr, (fun i r hr => by have := hs.ids i r hr; cases r <;> exact this), (fun id cs hc => ?_), hs.row, hs.inj, hs.injq, hs.injx, (fun b c hc => ?_), (fun id es he => ?_), ⟨(fun id b hb => ?_), hs.pn.q⟩, hs.hz⟩
  · have := hs.blk id cs hc
    cases hz : s.m.z id with
    | true => rw [hz] at this; exact this
    | false =>
      rw [hz] at this
      obtain ⟨g1, g2, g3, g4⟩ := this
      exact ⟨g1, g2, g3, fun c hc i hi => by have := g4 c hc i hi; cases i <;> exact this⟩
  · obtain ⟨g1, g2, g3, g4, g5⟩ := hs.rm b c hc
    exact ⟨g1, g2, g3, g4, fun p hp i hi => by have := g5 p hp i hi; cases i <;> exact this⟩
  · obtain ⟨sz, e, q1, q2, q3, q4⟩ := hs.vc id es he
    exact ⟨sz, e, q1, q2, (fun p hp i hi => by have := q3 p hp i hi; cases i <;> exact this), q4⟩
  · rcases upds_some hb with h | h
    · obtain ⟨i, hi, e⟩ := List.mem_map.1 h
      cases e
      exact ⟨hp _ hi, rfl⟩
    · cases h
theorem HasT.pin {n : Nat} {L : List (Nat × PV)} {m : MemT} {pin : List Nat} {φ : Nat → Nat} (h : HasT n L m [] s) : HasT n L m (pinL pin φ) { s with m := { s.m with ph := upds ((pinL pin φ).map fun x => (x.1, some x.2)) fun _ => none } } :=
  ⟨⟨h.b.n, h.b.fr, h.b.h, h.b.q⟩, h.o, h.it, h.v, h.om, (fun x hx => by
    obtain ⟨i, hi, rfl⟩ := List.mem_map.1 hx
    exact pin_at hi _), h.pq⟩
/-- what is told of memory alone, beside other temporaries that lean on pinned blocks -/
theorem Sim.back {S2 : Stable} {M2 : Maps} {s2 : St} {a2 : Act} {w2 : World} {n : Nat} {L : List (Nat × PV)} {m m2 : MemT} {pin : List Nat} {φ : Nat → Nat} (hs : Sim B S M (mkT n L m (pinL pin φ)) a w) (hle : SLe S S2) (hs2 : Sim B S2 M2 s2 a2 w2) (h2 : HasT n [] m2 (pinL pin φ) s2)
    (hL : ∀ x ∈ L, ∀ r ∈ x.2.ids, ∃ i ∈ pin, r = .b i) (hw0 : WholeT [] m2 (pinL pin φ)) : Sim B S2 M2 (mkT n L m2 (pinL pin φ)) a w2 := by
  have h3 : Sim B S2 M2 (mkT n [] m2 (pinL pin φ)) a2 w2 := hs2.weak (h2.weak hw0) (Refs.mkStX hw0)
  have hin : ∀ i, ∀ r ∈ ((mkT n L m (pinL pin φ)).fr i).ids, ∃ j ∈ pin, r = .b j := fun i r hr => by
    have h0 : ∀ (L : List (Nat × PV)), (∀ x ∈ L, ∀ r ∈ x.2.ids, ∃ i ∈ pin, r = .b i) → ∀ r ∈ (upds L (fun _ => PV.any) i).ids, ∃ j ∈ pin, r = .b j := fun L => by
      induction L with
      | nil => intro _ r hr; cases hr
      | cons x L ih =>
        intro hL r hr
        have hr : r ∈ (upd (upds L fun _ => .any) x.1 x.2 i).ids := hr
        by_cases e : x.1 = i
        · rw [e, upd_same] at hr; exact hL x (by simp) r hr
        · rw [upd_ne _ _ e] at hr; exact ih (fun y hy => hL y (by simp [hy])) r hr
    exact h0 L hL r hr
  have p1 : ∀ i ∈ pin, M.φ i = φ i := fun i hi => (hs.pn.h i (φ i) (pin_at hi _)).2
  have p2 : ∀ i ∈ pin, M2.φ i = φ i ∧ (mkT n [] m2 (pinL pin φ)).m.h i ≠ none := fun i hi => ⟨(h3.pn.h i (φ i) (pin_at hi _)).2, (h3.pn.h i (φ i) (pin_at hi _)).1⟩
  refine h3.reslot (n := n) (f := (mkT n L m (pinL pin φ)).fr) hs.defers hs.hn (fun i => (hs.fr i).heap hle (fun id hid => ?_) (fun id hid => ?_)) (fun i r hr => ?_)
  · obtain ⟨j, hj, e⟩ := hin i _ hid
    cases e
    rw [(p2 _ hj).1, p1 _ hj]
  · obtain ⟨j, hj, e⟩ := hin i _ hid
    cases e
  · obtain ⟨j, hj, rfl⟩ := hin i r hr
    exact (p2 j hj).2
theorem WholeT.noL {L : List (Nat × PV)} {m : MemT} {p : List (Nat × Nat)} (h : WholeT L m p) : WholeT [] m p := ⟨⟨forall_nil, h.t.2⟩, h.v, h.om, h.vr, h.pr, h.qr⟩
theorem BelowF.putB {B : Frm} {w w' : World} {l : Nat} {o : Obj} (h : BelowF B w w') (hb : ¬ B l) : BelowF B w (w'.putObj l o) :=
  ⟨h.os, h.tape, h.output, by have := h.size; simp; omega, fun k hk => (World.putObj_heap_other (fun e => by subst e; exact hb hk)).trans (h.block k hk)⟩
theorem wpIn_range {A : Type} {gf : Nat} {caps : List PV} {xs : List A} {enc : A → List PV} {N n : Nat} {g : Operand} {ps : Array Tmp} {assign body : Code} {Q : Exit → Act → World → Prop} {L : List (Nat × PV)} {pin : List Nat} {mt mx : List A → MemT} {Y X : List A → Prop}
    (hs : Sim B S M s a w) (hg : s.eval g = .fn gf caps) (hcaps : ∀ p ∈ caps, p.ids = []) (hseq : GivesP P gf caps xs enc ps.size) (henc : ∀ x ∈ xs, ∀ p ∈ enc x, p.ids = []) (hps : ∀ t ∈ ps, t < n)
    (h0 : HasT n L (mt []) [] s) (hL : ∀ x ∈ L, ∀ r ∈ x.2.ids, ∃ i ∈ pin, r = .b i) (hp : ∀ i ∈ pin, s.m.h i ≠ none) (hY : Y [])
    (hw : ∀ pre φ, WholeT L (mt pre) (pinL pin φ)) (hwx : ∀ pre φ, WholeT L (mx pre) (pinL pin φ))
    (round : ∀ (l : Nat) (φ : Nat → Nat) (pre : List A) (x : A), x ∈ xs → pre.length < xs.length → Y pre →
      awpR l N P assign (thenQ (awpR l N P body (rangeQ n (mt (pre ++ [x])) (mx (pre ++ [x])) (Y (pre ++ [x])) (X (pre ++ [x])) (pinL pin φ))) (fun _ _ => False)) (putL (mkT n L (mt pre) (pinL pin φ)) (ps.toList.zip (enc x))))
    (done : ∀ D φ S' M' W, Y xs → Sim B S' M' (mkT n L (mt xs) (pinL pin φ)) a W → Ext B S S' w W → W.heap[D]? = some (.deferred (some [])) → w.heap.size ≤ D → Q .normal { a with defers := { target := .collected D, args := #[] } :: a.defers } W)
    (stop : ∀ D φ pre S' M' W, pre <+: xs → X pre → Sim B S' M' (mkT n L (mx pre) (pinL pin φ)) a W → Ext B S S' w W → W.heap[D]? = some (.deferred (some [])) → w.heap.size ≤ D → Q .ret { a with defers := { target := .collected D, args := #[] } :: a.defers } W) :
    (Code.rangeFunc g ps assign body).wpIn Fence.wide (N + 2) P Q a w := by
  refine wpIn_rangeFunc ?_
  intro fn hfn
  have hro : Fence.wide.round = none := rfl
  rw [hro]
  obtain ⟨rec, hrec⟩ : ∃ rec : LoopState → Option Code → Loop, rec = fun st pe => { state := st, pending := pe, fn, tmps := a.tmps, params := ps, assign, body, defers := w.heap.size } := ⟨_, rfl⟩
  obtain ⟨W1, hW1⟩ : ∃ W1, (w.alloc (.deferred (some []))).alloc (.loop (rec .ready none)) = W1 := ⟨_, rfl⟩
  have hL1 : W1.heap[w.heap.size + 1]? = some (.loop (rec .ready none)) := by
    rw [← hW1]; have := World.alloc_heap_new (w.alloc (.deferred (some []))) (.loop (rec .ready none)); rwa [World.size_alloc] at this
  have hK1 : W1.heap[w.heap.size]? = some (.deferred (some [])) := by
    rw [← hW1]; exact (Below.heap_alloc _ _ _ (by simp)).trans (World.alloc_heap_new w _)
  have eg := hs.eval g
  rw [hg] at eg
  obtain ⟨lb, hlb, hll, hlr⟩ := eg.fn_inv
  obtain ⟨hcal, hgive⟩ := hseq
  obtain ⟨gfn, c1, c2, c3⟩ := hcal
  have hlbr : ∀ i, i < caps.length → Rep S (lb.getD i undef) (caps.getD i .any) := fun i hi => by
    exact (hlr i hi).rep0 (hcaps _ (getD_mem hi))
  have hst1 : StabS S W1 := by
    have := ((hs.lay (.deferred (some []))).lay (.loop (rec .ready none))).stable.s
    rw [hW1] at this; exact this
  obtain ⟨encs, henc1, hseq⟩ := hgive N S W1 ⟨lb⟩ hst1 (by simpa using hll) (fun i hi => by simpa [Array.getD_eq_getD_getElem?, List.getD_eq_getElem?_getD] using hlbr i hi)
  have hWb : Below w.heap.size w W1 := by
    rw [← hW1]; exact (((Below.refl _ w).alloc (Nat.le_refl _) _).alloc (by simp) _)
  have hWs : W1.heap.size = w.heap.size + 2 := by rw [← hW1]; simp
  -- the frame of the rounds: the book is left alone too
  obtain ⟨B', hB'⟩ : ∃ B' : Frm, B' = fun k => B k ∨ k = w.heap.size ∨ k = w.heap.size + 1 := ⟨_, rfl⟩
  have hBB : ∀ k, B k → B' k := fun k hk => by rw [hB']; exact .inl hk
  have hBD : B' w.heap.size := by rw [hB']; exact .inr (.inl rfl)
  have hBl : B' (w.heap.size + 1) := by rw [hB']; exact .inr (.inr rfl)
  let φ : Nat → Nat := M.φ
  let J : List (Fin xs.length) → World → Prop := fun pre W => ∃ S' M', Y (pre.map fun k => xs[k]) ∧ Sim B' S' M' (mkT n L (mt (pre.map fun k => xs[k])) (pinL pin φ)) a W ∧ Ext B S S' w W ∧
    W.heap[w.heap.size + 1]? = some (.loop (rec .ready none)) ∧ W.heap[w.heap.size]? = some (.deferred (some []))
  let Jx : List (Fin xs.length) → World → Prop := fun pre W => ∃ S' M', X (pre.map fun k => xs[k]) ∧ Sim B' S' M' (mkT n L (mx (pre.map fun k => xs[k])) (pinL pin φ)) a W ∧ Ext B S S' w W ∧
    W.heap[w.heap.size + 1]? = some (.loop (rec .done (some .ret))) ∧ W.heap[w.heap.size]? = some (.deferred (some []))
  have calm : ∀ (Z : List (Fin xs.length) → Prop) (st : List (Fin xs.length) → St) (o : Obj), Calm fun pre W => ∃ S' M', Z pre ∧ Sim B' S' M' (st pre) a W ∧ Ext B S S' w W ∧ W.heap[w.heap.size + 1]? = some o ∧ W.heap[w.heap.size]? = some (.deferred (some [])) := by
    rintro Z st o pre W ⟨S', M', g0, g1, g2, g3, g4⟩
    have l1 := (Array.getElem?_eq_some_iff.1 g3).1
    have l2 := (Array.getElem?_eq_some_iff.1 g4).1
    refine ⟨fun o => ⟨S', M', g0, g1.lay o, g2.trans ⟨SLe.refl _, fun _ _ => ⟨fun _ => rfl, rfl⟩, (BelowF.refl B W).alloc (fun k hk => g1.hB k (hBB k hk)) o⟩, (Below.heap_alloc W o _ l1).trans g3, (Below.heap_alloc W o _ l2).trans g4⟩, ⟨S', M', g0, g1.world rfl, g2.trans ⟨SLe.refl _, fun _ _ => ⟨fun _ => rfl, rfl⟩, (BelowF.refl B W).drew⟩, g3, g4⟩⟩
  have hc2 : gfn.body ≠ none := by intro h; simp [h] at c3
  refine ⟨w.heap.size + 1, [{ target := .collected w.heap.size, args := #[] }], W1, { target := .fn (.func gf) ⟨lb⟩, args := #[.func (.yield (w.heap.size + 1)) #[] #[]] }, W1, gf,
    #[.func (.yield (w.heap.size + 1)) #[] #[]] ++ ⟨lb⟩, W1, ?_, ?_, ?_, ?_, (fun h => by cases h), ?_⟩
  · rw [← hW1, hrec]; exact run_enterLoop_outer _ _ _ _ _
  · simp only [resolve, hlb]
    simp [go_sem]
  · intro f' hf'; trivial
  · have hb : ¬ gfn.body = none := hc2
    simp [invoke, callFunc, program, Sem.run, c1, hb, c2]
  · have hJ0 : J [] W1 := by
      have h1 : Sim B S M s a W1 := by rw [← hW1]; exact (hs.lay _).lay _
      have h2 : Sim B' S M s a W1 := h1.widen (hzz := fun k hk => hs.hz k fun h => hk (hBB k h)) fun k hk => by
        rw [hB'] at hk
        rcases hk with hk | rfl | rfl
        · exact .inl hk
        · exact .inr (.inr ⟨_, hK1⟩)
        · exact .inr (.inl ⟨_, hL1⟩)
      exact ⟨S, M, hY, (h2.pin hp).weak (h0.pin.weak (hw [] φ)) (Refs.mkStX (hw [] φ)), ⟨SLe.refl _, (fun _ _ => ⟨fun _ => rfl, rfl⟩), (BelowF.of hWb).mono hs.hB⟩, hL1, hK1⟩
    have hw0 : ∀ pre φ, WholeT [] (mt pre) (pinL pin φ) := fun pre φ => (hw pre φ).noL
    have hwx0 : ∀ pre φ, WholeT [] (mx pre) (pinL pin φ) := fun pre φ => (hwx pre φ).noL
    refine (hseq (w.heap.size + 1) J Jx W1 (Below.refl _ _) (calm _ _ _) (calm _ _ _) ?_ hJ0).mono ?_
    · -- one round
      rintro pre k W ⟨S', M', g0, g1, g2, g3, g4⟩ hlen
      obtain ⟨e1, e2, e3⟩ := henc1 k
      have hy := run_yield (P := P) (args := encs k) g3 (by rw [hrec]; exact e1)
      rw [hrec] at hy
      simp only [zip_foldl] at hy
      refine ⟨fn, _, assign, body, hy, roundIn_of_wpIn hfn ?_⟩
      have hlt : w.heap.size + 1 < W.heap.size := (Array.getElem?_eq_some_iff.1 g3).1
      have hx : xs[k] ∈ xs := List.getElem_mem _
      have hpl : (pre.map fun k => xs[k]).length < xs.length := by rw [List.length_map]; exact hlen
      have hzl : ps.toList.length = (enc xs[k]).length := by rw [e2]; simp
      have st := Sim.putL (ps.toList.zip (enc xs[k])) (encs k).toList g1 (by simp only [List.length_zip, Array.length_toList]; omega) (fun x hx => hps _ (by have := (List.of_mem_zip hx).1; simpa using this)) (fun x hx' => henc _ hx _ (List.of_mem_zip hx').2) (fun i hi => by
        have hi' : i < ps.size := by simp at hi; omega
        have h1 := (e3 i hi').mono g2.1
        have h2 : i < (enc xs[k]).length := by omega
        rw [getD_lt hi, List.getElem_zip]
        rw [getD_lt h2] at h1
        have e : (encs k).toList.getD i undef = (encs k).getD i undef := by simp [Array.getD_eq_getD_getElem?, List.getD_eq_getElem?_getD]
        rw [e]; exact h1)
      rw [List.map_fst_zip (by omega)] at st
      have hround := round (w.heap.size + 1) φ (pre.map fun k => xs[k]) xs[k] hx hpl g0
      have hcat : (pre ++ [k]).map (fun k => xs[k]) = (pre.map fun k => xs[k]) ++ [xs[k]] := by simp
      refine wpIn_mono (hround B' S' M' _ W st) ?_
      rintro e a1 w1 ⟨s1, S1, M1, q1, q2, q3⟩
      cases e with
      | normal =>
        have hl1 : w1.heap[w.heap.size + 1]? = some (.loop (rec .ready none)) := (q3.2.2.block _ hBl).trans g3
        have hk1 : w1.heap[w.heap.size]? = some (.deferred (some [])) := (q3.2.2.block _ hBD).trans g4
        refine ⟨_, run_beginRound hl1 (by rw [hrec]), ?_⟩
        have hl2 : (w1.putObj (w.heap.size + 1) (.loop { rec .ready none with state := .busy })).heap[w.heap.size + 1]? = some (.loop { rec .ready none with state := .busy }) := World.putObj_heap_same (Array.getElem?_eq_some_iff.1 hl1).1
        have hk2 : (w1.putObj (w.heap.size + 1) (.loop { rec .ready none with state := .busy })).heap[w.heap.size]? = some (.deferred (some [])) := (World.putObj_heap_other (by omega)).trans hk1
        have q2' := q2.book (.inl ⟨_, hl1⟩) (.loop { rec .ready none with state := .busy })
        have x2 : Ext B S' S1 W (w1.putObj (w.heap.size + 1) (.loop { rec .ready none with state := .busy })) := ⟨q3.1, fun b hb => q3.2.1 b (hBB b hb), (q3.2.2.mono hBB).putB (fun hb => by have := hs.hB _ hb; omega)⟩
        refine wpIn_mono (q1 B' S1 M1 a1 _ q2') ?_
        rintro e2 a2 w2 ⟨s2, S2, M2, r1, r2, r3⟩
        have hl3 : w2.heap[w.heap.size + 1]? = some (.loop { rec .ready none with state := .busy }) := (r3.2.2.block _ hBl).trans hl2
        have hk3 : w2.heap[w.heap.size]? = some (.deferred (some [])) := (r3.2.2.block _ hBD).trans hk2
        have hle : SLe S' S2 := q3.1.trans r3.1
        have fin : ∀ (jump : Option Code) (m2 : MemT), HasT n [] m2 (pinL pin φ) s2 → WholeT [] m2 (pinL pin φ) →
            (Instr.endRound (w.heap.size + 1) jump).run P w2 = .ok (.bool jump.isNone) (w2.putObj (w.heap.size + 1) (.loop (rec (if jump.isNone then .ready else .done) jump))) ∧
            Sim B' S2 M2 (mkT n L m2 (pinL pin φ)) a (w2.putObj (w.heap.size + 1) (.loop (rec (if jump.isNone then .ready else .done) jump))) ∧
            Ext B S S2 w (w2.putObj (w.heap.size + 1) (.loop (rec (if jump.isNone then .ready else .done) jump))) ∧
            (w2.putObj (w.heap.size + 1) (.loop (rec (if jump.isNone then .ready else .done) jump))).heap[w.heap.size + 1]? = some (.loop (rec (if jump.isNone then .ready else .done) jump)) ∧
            (w2.putObj (w.heap.size + 1) (.loop (rec (if jump.isNone then .ready else .done) jump))).heap[w.heap.size]? = some (.deferred (some [])) := fun jump m2 hh hwh => by
          have := run_endRound (P := P) jump hl3
          rw [hrec] at this ⊢
          refine ⟨this, (g1.back hle r2 hh hL hwh).book (.inl ⟨_, hl3⟩) _, (g2.trans x2).trans ⟨r3.1, fun b hb => r3.2.1 b (hBB b hb), (r3.2.2.mono hBB).putB (fun hb => by have := hs.hB _ hb; omega)⟩, World.putObj_heap_same (Array.getElem?_eq_some_iff.1 hl3).1, (World.putObj_heap_other (by omega)).trans hk3⟩
        cases e2 with
        | normal =>
          obtain ⟨f1, f2, f3, f4, f5⟩ := fin none _ r1.2 (hw0 _ φ)
          exact ⟨_, _, f1, .inl ⟨rfl, ⟨S2, M2, by rw [hcat]; exact r1.1, by rw [hcat]; exact f2, f3, f4, f5⟩, fun _ => f2.stable.s.below (g2.1.trans hle)⟩⟩
        | ret =>
          obtain ⟨f1, f2, f3, f4, f5⟩ := fin (some .ret) _ r1.2 (hwx0 _ φ)
          exact ⟨_, _, f1, .inr ⟨rfl, S2, M2, by rw [hcat]; exact r1.1, by rw [hcat]; exact f2, f3, f4, f5⟩⟩
        | exit id => exact r1.elim
        | goto t => exact r1.elim
        | panic c => exact r1.elim
        | outgrown => exact r1.elim
      | ret => exact q1.elim
      | exit id => exact q1.elim
      | goto t => exact q1.elim
      | panic c => exact q1.elim
      | outgrown => exact q1.elim
    · -- behind the iterator
      rintro e W2 ⟨⟨v, rfl⟩, (⟨ys, rfl, S', M', g0, g1, g2, g3, g4⟩ | ⟨pre, hpre, S', M', g0, g1, g2, g3, g4⟩)⟩
      · subst hrec
        have hr := run_endLoop (P := P) g3 (by simp)
        refine ⟨none, _, hr, ?_⟩
        have he : (List.finRange xs.length).map (fun k => xs[k]) = xs := by
          apply List.ext_getElem
          · simp
          · intro i h1 h2; simp
        have g1' := fun o => (g1.widen (B' := B) (hzz := hs.zle g2.1) fun k hk => .inl (hBB k hk)).book (.inl ⟨_, g3⟩) o
        rw [he] at g1' g0
        exact done w.heap.size φ S' M' _ g0 (g1' _) (g2.trans ⟨SLe.refl _, (fun _ _ => ⟨fun _ => rfl, rfl⟩), (BelowF.refl _ _).putB (fun hb => by have := hs.hB _ hb; omega)⟩) ((World.putObj_heap_other (by omega)).trans g4) (Nat.le_refl _)
      · subst hrec
        have hr := run_endLoop (P := P) g3 (by simp)
        refine ⟨some .ret, _, hr, ?_⟩
        have hpx : (pre.map fun k => xs[k]) <+: xs := by
          have he : (List.finRange xs.length).map (fun k => xs[k]) = xs := by
            apply List.ext_getElem
            · simp
            · intro i h1 h2; simp
          have := hpre.map (fun k => xs[k])
          rwa [he] at this
        have g1' := fun o => (g1.widen (B' := B) (hzz := hs.zle g2.1) fun k hk => .inl (hBB k hk)).book (.inl ⟨_, g3⟩) o
        exact wpIn_ret (stop w.heap.size φ _ S' M' _ hpx g0 (g1' _) (g2.trans ⟨SLe.refl _, (fun _ _ => ⟨fun _ => rfl, rfl⟩), (BelowF.refl _ _).putB (fun hb => by have := hs.hB _ hb; omega)⟩) ((World.putObj_heap_other (by omega)).trans g4) (Nat.le_refl _))
end
end Go.PL

/-! A region that draws its order: what leans on an operation through others too comes behind it -/
namespace Go.PL
open Go.RowKit
set_option linter.unusedVariables false
section
variable {P : Program} {ops : Array Oper} {md : Region.Mode}
variable {l n : Nat}
end
end Go.PL
