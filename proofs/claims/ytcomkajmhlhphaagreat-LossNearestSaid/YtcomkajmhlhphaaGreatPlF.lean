/- A logic of values for functions that only read and build, over the model (part 6): no statement of the seat is proved here. -/
import Derived.Test.YtcomkajmhlhphaaGreatPlE
import GoSem.ClaimChange
import Derived.WalkKit
import Derived.ProofKit
import Derived.OpenShut
import Derived.Carry
import Derived.Test.YtcomkajmhlhphaaGreatPlD
set_option linter.unusedSimpArgs false
set_option linter.unusedVariables false
namespace Go.PL
open Go.RowKit
set_option linter.unusedVariables false

/-- a value out of its cells -/
def asPV (ag : Bool) (ds : List PV) : PV := if ag then .agg ds else ds.getD 0 .any

theorem nb_true {b : Bool} (h : (!b) = false) : b = true := by cases b <;> simp_all
/-- a pointer to nothing, a slice of nothing: not told -/
def oddB (P : Program) (t : TypeId) : Bool :=
  match P.underlying t with
  | some (.slice e) => !(decide (0 < P.cellsOf e) && (tagg P e || P.cellsOf e == 1))
  | some (.pointer e) => !decide (0 < P.cellsOf e)
  | _ => false
mutual
/-- the cells of a value of a type, told of values -/
inductive PT (P : Program) : TypeId → List PV → Prop
  | bool {t : TypeId} (h : P.underlying t = some .bool) (b : Bool) : PT P t [.bool b]
  | int {t : TypeId} {k : IntKind} (h : P.underlying t = some (.int k)) (n : Int) (h1 : k.min ≤ n) (h2 : n ≤ k.max) : PT P t [.int k n]
  | flt {t : TypeId} {k : FloatKind} (h : P.underlying t = some (.float k)) (b : Nat) (hw : (Lit.float k b).wf = true) : PT P t [.flt k b]
  | str {t : TypeId} (h : P.underlying t = some .string) (l : List UInt8) (hl : l.length ≤ maxLen) : PT P t [.str l]
  | nilp {t e : TypeId} (h : P.underlying t = some (.pointer e)) : PT P t [.nilp]
  | ptr {t e : TypeId} (h : P.underlying t = some (.pointer e)) (cs : List PV) (hp : PT P e cs) : PT P t [.rptr cs]
  | sl {t e : TypeId} (h : P.underlying t = some (.slice e)) (n : Nat) (hn : n ≤ maxLen) (f : Nat → List PV) (hp : ∀ i, i < n → PT P e (f i)) : PT P t [.sl .no ((List.range n).map fun i => asPV (tagg P e) (f i))]
  | str' {t : TypeId} {fs : Array Field} (h : P.underlying t = some (.struct fs)) (cs : List PV) (hp : PTs P (fs.toList.map (·.type)) cs) : PT P t cs
  | arr {t e : TypeId} {n : Nat} (h : P.underlying t = some (.array n e)) (cs : List PV) (hp : PTs P (List.replicate n e) cs) : PT P t cs
  | odd {t : TypeId} (h : oddB P t = true) : PT P t [.any]
  | any {t : TypeId} (h : ∀ d, P.underlying t = some d → (match d with | .interface _ | .map _ _ | .func .. | .chan .. | .unsafePointer => True | _ => False)) : PT P t [.any]
inductive PTs (P : Program) : List TypeId → List PV → Prop
  | nil : PTs P [] []
  | cons {t : TypeId} {ts : List TypeId} {a b : List PV} (h : PT P t a) (hs : PTs P ts b) : PTs P (t :: ts) (a ++ b)
end

/-- the type's cells lie as its parts say -/
def offsOk (P : Program) : Nat → List Field → Option Nat
  | o, [] => some o
  | o, f :: fs => if f.offset = o then offsOk P (o + P.cellsOf f.type) fs else none
def layB (P : Program) (t : TypeId) : Bool :=
  match P.underlying t with
  | some (.struct fs) => offsOk P 0 fs.toList == some (P.cellsOf t) && fs.toList.all fun f => decide (f.type < P.types.size)
  | some (.array n e) => P.cellsOf t == n * P.cellsOf e && decide (e < P.types.size)
  | some (.slice e) => decide (e < P.types.size)
  | some (.pointer e) => decide (e < P.types.size)
  | _ => true
def layAll (P : Program) : Bool := (List.range P.types.size).all (layB P)

def RepC (S : Stable) (vs : List Value) (ps : List PV) : Prop := vs.length = ps.length ∧ ∀ i, i < ps.length → Rep S (vs.getD i undef) (ps.getD i .any)

section
variable {P : Program} {S : Stable}

theorem RepC.nil : RepC S [] [] := ⟨rfl, fun i hi => by simp at hi⟩
theorem RepC.one {v : Value} {p : PV} (h : Rep S v p) : RepC S [v] [p] := ⟨rfl, fun i hi => by
  have : i = 0 := by simpa using hi
  subst this; exact h⟩
theorem RepC.append {vs ws : List Value} {ps qs : List PV} (h : RepC S vs ps) (h' : RepC S ws qs) : RepC S (vs ++ ws) (ps ++ qs) := by
  refine ⟨by simp [h.1, h'.1], fun i hi => ?_⟩
  by_cases h1 : i < ps.length
  · rw [getD_append_left (by rw [h.1]; exact h1), getD_append_left h1]; exact h.2 i h1
  · have h1' : ps.length ≤ i := by omega
    have h2 := h'.2 (i - ps.length) (by simp at hi; omega)
    have e1 : (vs ++ ws).getD i undef = ws.getD (i - ps.length) undef := by
      simp only [List.getD_eq_getElem?_getD]; rw [List.getElem?_append_right (by rw [h.1]; exact h1'), h.1]
    have e2 : (ps ++ qs).getD i .any = qs.getD (i - ps.length) .any := by
      simp only [List.getD_eq_getElem?_getD]; rw [List.getElem?_append_right h1']
    rw [e1, e2]; exact h2

/-- every cell of a world -/
def cellsOf (w : World) : Stable := ⟨fun b o => w.cell? ⟨b, o, none⟩, fun _ => none⟩

theorem lay_of {t : TypeId} (hl : layAll P = true) (h : t < P.types.size) : layB P t = true :=
  List.all_eq_true.1 hl t (List.mem_range.2 h)

theorem mapM_some {α β : Type} {f : α → Option β} : ∀ {l : List α} {xs : List β}, l.mapM f = some xs → ∀ a ∈ l, ∃ x, f a = some x
  | [], _, _, a, ha => by cases ha
  | b :: l, xs, h, a, ha => by
    rw [List.mapM_cons] at h
    cases hb : f b with
    | none => rw [hb] at h; cases h
    | some y =>
      rw [hb] at h
      cases hl : l.mapM f with
      | none => rw [hl] at h; cases h
      | some ys =>
        rcases List.mem_cons.1 ha with rfl | ha
        · exact ⟨y, hb⟩
        · exact mapM_some hl a ha

theorem cells_some {w : World} {base : Nat} {a : Addr} {n : Nat} {cs : List Value} (h : w.cells? base a n = some cs) : cs.length = n ∧ ∀ i, i < n → w.cell? (a.add i) = some (cs.getD i undef) := by
  unfold World.cells? at h
  split at h
  · have go : ∀ (l : List Nat) (cs : List Value), (l.mapM fun i => w.cell? (a.add i)) = some cs → cs.length = l.length ∧ ∀ i, i < l.length → w.cell? (a.add (l.getD i 0)) = some (cs.getD i undef) := by
      intro l
      induction l with
      | nil => intro cs h; simp at h; subst h; simp
      | cons b l ih =>
        intro cs h
        rw [List.mapM_cons] at h
        cases hb : w.cell? (a.add b) with
        | none => rw [hb] at h; cases h
        | some y =>
          rw [hb] at h
          cases hl : (l.mapM fun i => w.cell? (a.add i)) with
          | none => rw [hl] at h; cases h
          | some ys =>
            rw [hl] at h
            simp at h
            subst h
            obtain ⟨h1, h2⟩ := ih ys hl
            refine ⟨by simp [h1], fun i hi => ?_⟩
            cases i with
            | zero => simpa using hb
            | succ i => simpa using h2 i (by simpa using hi)
    obtain ⟨h1, h2⟩ := go _ _ h
    refine ⟨by simpa using h1, fun i hi => ?_⟩
    have := h2 i (by simpa using hi)
    simpa [List.getD_eq_getElem?_getD, hi] using this
  · cases h


/-- the cells of a struct's fields, one behind the other -/
theorem struct_pts {g : TypeId → List Value → Prop} (hg : ∀ t cs, t < P.types.size → g t cs → ∃ ps, RepC S cs ps ∧ PT P t ps) : ∀ (fs : List Field) (o n : Nat) (cs : List Value), offsOk P o fs = some n → cs.length = n →
    (∀ f ∈ fs, f.type < P.types.size) → (∀ f ∈ fs, g f.type ((cs.drop f.offset).take (P.cellsOf f.type))) → ∃ ps, RepC S (cs.drop o) ps ∧ PTs P (fs.map (·.type)) ps
  | [], o, n, cs, ho, hn, _, _ => by
    simp only [offsOk, Option.some.injEq] at ho
    subst ho
    rw [List.drop_eq_nil_of_le (by omega)]
    exact ⟨[], .nil, .nil⟩
  | f :: fs, o, n, cs, ho, hn, hlt, h => by
    simp only [offsOk] at ho
    split at ho
    · rename_i hof
      obtain ⟨ps, h1, h2⟩ := struct_pts hg fs _ n cs ho hn (fun f hf => hlt f (by simp [hf])) (fun f hf => h f (by simp [hf]))
      obtain ⟨qs, h3, h4⟩ := hg _ _ (hlt f (by simp)) (h f (by simp))
      rw [hof] at h3
      refine ⟨qs ++ ps, ?_, .cons h4 h2⟩
      have := h3.append h1
      rwa [show cs.drop (o + P.cellsOf f.type) = (cs.drop o).drop (P.cellsOf f.type) by rw [List.drop_drop], List.take_append_drop] at this
    · cases ho

theorem array_pts {g : TypeId → List Value → Prop} (hg : ∀ t cs, t < P.types.size → g t cs → ∃ ps, RepC S cs ps ∧ PT P t ps) {e : TypeId} (he : e < P.types.size) : ∀ (n k : Nat) (cs : List Value), cs.length = (k + n) * P.cellsOf e →
    (∀ i, i < k + n → g e ((cs.drop (i * P.cellsOf e)).take (P.cellsOf e))) → ∃ ps, RepC S (cs.drop (k * P.cellsOf e)) ps ∧ PTs P (List.replicate n e) ps
  | 0, k, cs, hn, _ => by
    rw [List.drop_eq_nil_of_le (by rw [hn, Nat.add_zero]; exact Nat.le_refl _)]
    exact ⟨[], .nil, .nil⟩
  | n + 1, k, cs, hn, h => by
    obtain ⟨ps, h1, h2⟩ := array_pts hg he n (k + 1) cs (by rw [hn]; congr 1; omega) (fun i hi => h i (by omega))
    obtain ⟨qs, h3, h4⟩ := hg _ _ he (h k (by omega))
    refine ⟨qs ++ ps, ?_, .cons h4 h2⟩
    have := h3.append h1
    rwa [show cs.drop ((k + 1) * P.cellsOf e) = (cs.drop (k * P.cellsOf e)).drop (P.cellsOf e) by rw [List.drop_drop, Nat.succ_mul], List.take_append_drop] at this

theorem PT.noAgg {t : TypeId} {ps : List PV} (h : PT P t ps) (ha : tagg P t = false) (h1 : ps.length = 1) : (ps.getD 0 .any).cells = ps := by
  cases h with
  | str' h => unfold tagg at ha; rw [h] at ha; cases ha
  | arr h => unfold tagg at ha; rw [h] at ha; cases ha
  | _ => rfl

theorem asPV_cells {t : TypeId} {ps : List PV} (h : PT P t ps) (h1 : tagg P t = true ∨ ps.length = 1) : (asPV (tagg P t) ps).cells = ps := by
  unfold asPV
  cases ha : tagg P t with
  | true => rfl
  | false => exact h.noAgg ha (by simpa [ha] using h1)

theorem spot_none {w : World} {a : Addr} {v : Value} (h : w.cell? a = some v) : a = ⟨a.block, a.off, none⟩ := by
  obtain ⟨b, o, s⟩ := a
  unfold World.cell? at h
  split at h
  · split at h
    · cases h
    · cases s <;> simp_all
  · cases h

theorem add_zero (a : Addr) : a.add 0 = a := by unfold Addr.add; simp
theorem trod_pt {H : Type} {enc : TypeId × Value → H} {w : World} {base : Nat} {spare : Nat → Bool} {held : Bool} (hl : layAll P = true) :
    ∀ (fuel : Nat) (t : TypeId) (cs : List Value) (x : DataW H × List MemPlace), t < P.types.size → DataW.trod enc P w base spare held fuel t cs = some x → ∃ ps, RepC (cellsOf w) cs ps ∧ PT P t ps := by
  intro fuel
  induction fuel with
  | zero => intro t cs x _ h; cases h
  | succ fuel ih =>
    intro t cs x ht h
    have lay := lay_of hl ht
    have any : ∀ {v : Value}, (∀ d, P.underlying t = some d → (match d with | .interface _ | .map _ _ | .func .. | .chan .. | .unsafePointer => True | _ => False)) → ∃ ps, RepC (cellsOf w) [v] ps ∧ PT P t ps := fun h => ⟨_, .one (.any _), .any h⟩
    have anyd : ∀ {v : Value} {d : TypeDesc}, P.underlying t = some d → (match d with | .interface _ | .map _ _ | .func .. | .chan .. | .unsafePointer => True | _ => False) → ∃ ps, RepC (cellsOf w) [v] ps ∧ PT P t ps := fun h1 h2 => any fun d hd => by rw [h1] at hd; cases hd; exact h2
    unfold DataW.trod at h
    split at h
    · rename_i hu; exact ⟨_, .one (.bool _), .bool hu _⟩
    · rename_i hu
      split at h
      · rename_i hk
        obtain ⟨rfl, hw⟩ := hk
        simp only [Lit.wf, Bool.and_eq_true, decide_eq_true_eq] at hw
        exact ⟨_, .one (.int _ _), .int hu _ hw.1 hw.2⟩
      · cases h
    · rename_i hu
      split at h
      · rename_i hk
        obtain ⟨rfl, hw⟩ := hk
        exact ⟨_, .one (.flt _ _), .flt hu _ hw⟩
      · cases h
    · rename_i s hu
      split at h
      · rename_i hk
        obtain ⟨⟨l⟩⟩ := s
        exact ⟨_, .one (.str l), .str hu l hk⟩
      · cases h
    · rename_i hu; exact ⟨_, .one .nilp, .nilp hu⟩
    · rename_i e a hu
      by_cases hod : oddB P t = true
      · exact ⟨_, .one (.any _), .odd hod⟩
      have lay0 : decide (0 < P.cellsOf e) = true := by
        have : oddB P t = false := by simpa using hod
        unfold oddB at this
        rw [hu] at this
        exact nb_true this
      simp only [layB, hu, decide_eq_true_eq] at lay lay0
      obtain ⟨x', hx, _⟩ := Option.map_eq_some_iff.1 h
      obtain ⟨ds, hc, hx⟩ := Option.bind_eq_some_iff.1 hx
      obtain ⟨ps, h1, h2⟩ := ih _ _ _ lay hx
      obtain ⟨h3, h4⟩ := cells_some hc
      have ha : a = ⟨a.block, a.off, none⟩ := spot_none (add_zero a ▸ h4 0 lay0)
      refine ⟨[.rptr ps], .one ?_, .ptr hu ps h2⟩
      rw [ha]
      refine .rptr _ _ ps (fun j => ds.getD j undef) (fun j hj => ?_) (fun j hj => h1.2 j hj)
      have := h4 j (by rw [← h3, h1.1]; exact hj)
      rw [ha, add_none] at this
      exact this
    · rename_i hu; exact ⟨_, .one (.sl0 none 0), .sl hu 0 (Nat.zero_le _) (fun _ => []) (fun i hi => by omega)⟩
    · rename_i e a len cap hu
      by_cases hod : oddB P t = true
      · exact ⟨_, .one (.any _), .odd hod⟩
      have lay0 : (decide (0 < P.cellsOf e) && (tagg P e || P.cellsOf e == 1)) = true := by
        have : oddB P t = false := by simpa using hod
        unfold oddB at this
        rw [hu] at this
        exact nb_true this
      simp only [layB, hu, decide_eq_true_eq] at lay
      simp only [Bool.and_eq_true, decide_eq_true_eq, Bool.or_eq_true, beq_iff_eq] at lay0
      obtain ⟨l1, l2⟩ := lay0
      have l3 := lay
      simp only at h
      split at h
      · rename_i hb
        obtain ⟨elems, he, h⟩ := Option.bind_eq_some_iff.1 h
        have el : ∀ i, i < len → ∃ ds ps, w.cells? base (a.add (i * P.cellsOf e)) (P.cellsOf e) = some ds ∧ RepC (cellsOf w) ds ps ∧ PT P e ps := fun i hi => by
          obtain ⟨y, hy⟩ := mapM_some he i (List.mem_range.2 hi)
          obtain ⟨ds, hc, hx⟩ := Option.bind_eq_some_iff.1 hy
          obtain ⟨ps, h1, h2⟩ := ih _ _ _ l3 hx
          exact ⟨ds, ps, hc, h1, h2⟩
        obtain ⟨F, hF⟩ : ∃ F : Nat → List Value × List PV, ∀ i, i < len → w.cells? base (a.add (i * P.cellsOf e)) (P.cellsOf e) = some (F i).1 ∧ RepC (cellsOf w) (F i).1 (F i).2 ∧ PT P e (F i).2 := by
          classical
          refine ⟨fun i => if h : i < len then ((el i h).choose, (el i h).choose_spec.choose) else ([], []), fun i hi => ?_⟩
          simp only [hi, dif_pos]
          exact (el i hi).choose_spec.choose_spec
        refine ⟨_, .one ?_, .sl hu len (by omega) (fun i => (F i).2) fun i hi => (hF i hi).2.2⟩
        have hes : ∀ i, i < len → ((List.range len).map fun i => asPV (tagg P e) (F i).2).getD i .any = asPV (tagg P e) (F i).2 := fun i hi => by simp [List.getD_eq_getElem?_getD, hi]
        have hcl : ∀ i, i < len → (asPV (tagg P e) (F i).2).cells = (F i).2 := fun i hi => by
          obtain ⟨h1, h2, h3⟩ := hF i hi
          refine asPV_cells h3 (l2.imp id fun h => ?_)
          rw [← h2.1, (cells_some h1).1, h]
        by_cases h0 : len = 0
        · subst h0; exact .sl0 _ _
        · have hp0 : 0 < len := by omega
          have ha : a = ⟨a.block, a.off, none⟩ := by
            have := (cells_some (hF 0 hp0).1).2 0 l1
            rw [Nat.zero_mul, add_zero, add_zero] at this
            exact spot_none this
          have key := Rep.sl (S := cellsOf w) a.block a.off cap (P.cellsOf e) ((List.range len).map fun i => asPV (tagg P e) (F i).2) (fun i j => (F i).1.getD j undef)
            (fun i hi => by
              have hi : i < len := by simpa using hi
              rw [hes i hi, hcl i hi, ← (hF i hi).2.1.1, (cells_some (hF i hi).1).1])
            (by simp; exact hb.2.1)
            (fun i j hi hj => by
              have hi : i < len := by simpa using hi
              have := (cells_some (hF i hi).1).2 j hj
              rw [ha, add_none, add_none] at this
              exact this)
            (fun i j hi hj => by
              have hi : i < len := by simpa using hi
              rw [hes i hi, hcl i hi]
              exact (hF i hi).2.1.2 j (by rw [← (hF i hi).2.1.1, (cells_some (hF i hi).1).1]; exact hj))
          rw [List.length_map, List.length_range, ← ha] at key
          exact key
      · cases h
    · rename_i fs hu
      simp only [layB, hu, Bool.and_eq_true, beq_iff_eq, List.all_eq_true, decide_eq_true_eq] at lay
      split at h
      · rename_i hn
        obtain ⟨xs, hx, _⟩ := Option.map_eq_some_iff.1 h
        obtain ⟨ps, h1, h2⟩ := struct_pts (S := cellsOf w) (g := fun t cs => ∃ x, DataW.trod enc P w base spare held fuel t cs = some x) (fun t cs ht ⟨x, hx⟩ => ih t cs x ht hx) fs.toList 0 _ _ lay.1 hn lay.2 (fun f hf => mapM_some hx f hf)
        exact ⟨ps, by simpa using h1, .str' hu ps h2⟩
      · cases h
    · rename_i n e hu
      simp only [layB, hu, Bool.and_eq_true, beq_iff_eq, decide_eq_true_eq] at lay
      split at h
      · rename_i hn
        obtain ⟨xs, hx, _⟩ := Option.map_eq_some_iff.1 h
        obtain ⟨ps, h1, h2⟩ := array_pts (S := cellsOf w) (g := fun t cs => ∃ x, DataW.trod enc P w base spare held fuel t cs = some x) (fun t cs ht ⟨x, hx⟩ => ih t cs x ht hx) lay.2 n 0 _ (by rw [hn, lay.1]; simp) (fun i hi => mapM_some hx i (by simpa using hi))
        exact ⟨ps, by simpa using h1, .arr hu ps h2⟩
      · cases h
    all_goals first | (cases h; done) | (rename_i hu; exact anyd hu trivial) | (rename_i hu _; exact anyd hu trivial) | skip
end
end Go.PL

namespace Go.PL
open Go.ChangeShapes Go.WideShapes Go.ChangeAt Go.RowKit
set_option linter.unusedVariables false

/-- an argument of a type, told of values -/
def PA (P : Program) (t : TypeId) (p : PV) : Prop := ∃ cs, PT P t cs ∧ p = asPV (tagg P t) cs
inductive PAs (P : Program) : List TypeId → List PV → Prop
  | nil : PAs P [] []
  | cons {t : TypeId} {ts : List TypeId} {p : PV} {ps : List PV} (h : PA P t p) (hs : PAs P ts ps) : PAs P (t :: ts) (p :: ps)

section
variable {P : Program} {H : Type} {enc : TypeId × Value → H}

theorem noAgg_of_ok {W : World} {base : Nat} {t : TypeId} {v : Value} (ha : tagg P t = false) (hd : ∃ d, P.underlying t = some d) (h : Value.okWide P W .any base t v) : v.cells.toList = [v] := by
  obtain ⟨d, hd⟩ := hd
  cases v with
  | agg cs =>
    exfalso
    unfold Value.okWide at h
    unfold tagg at ha
    rw [hd] at ha h
    cases d <;> simp [Cell.okWide, Cell.ok, hd] at h ha
  | _ => rfl

theorem read_arg {W : World} {base : Nat} {t : TypeId} {v : Value} {d : DataW H} {ps : List MemPlace} (hl : layAll P = true) (ht : t < P.types.size) (hok : Value.okWide P W .any base t v)
    (h : DataW.Trod enc P W 0 (fun _ => true) true t v d ps) : ∃ p, Rep (cellsOf W) v p ∧ PA P t p := by
  obtain ⟨n, hn⟩ := h
  obtain ⟨cs, h1, h2⟩ := trod_pt hl n t _ _ ht hn
  have hd : ∃ d, P.underlying t = some d := by
    cases n with
    | zero => cases hn
    | succ n =>
      cases hu : P.underlying t with
      | none => unfold DataW.trod at hn; rw [hu] at hn; simp at hn
      | some d => exact ⟨d, rfl⟩
  refine ⟨_, ?_, cs, h2, rfl⟩
  unfold asPV
  cases ha : tagg P t with
  | true =>
    obtain ⟨d, hd⟩ := hd
    have : ∃ c, v = .agg c := by
      unfold tagg at ha
      unfold Value.okWide at hok
      rw [hd] at ha hok
      cases d <;> simp at ha
      · obtain ⟨c, hc, _⟩ := hok; exact ⟨c, hc⟩
      · obtain ⟨c, hc, _⟩ := hok; exact ⟨c, hc⟩
    obtain ⟨⟨c⟩, rfl⟩ := this
    exact .agg c cs h1.1 h1.2
  | false =>
    rw [noAgg_of_ok ha hd hok] at h1
    have := h1.2 0 (by rw [← h1.1]; simp)
    simpa using this

theorem read_args {W : World} {base : Nat} (hl : layAll P = true) : ∀ (ts : List TypeId) (vs : List Value) (ds : List (DataW H)) (ps : List MemPlace), (∀ t ∈ ts, t < P.types.size) →
    (∀ (j : Nat) t v, ts[j]? = some t → vs[j]? = some v → Value.okWide P W .any base t v) → DataW.TrodAll enc P W 0 (fun _ => true) true ts vs ds ps →
    ∃ qs, RepC (cellsOf W) vs qs ∧ PAs P ts qs ∧ ds.length = ts.length
  | [], [], [], ps, _, _, h => ⟨[], .nil, .nil, rfl⟩
  | t :: ts, v :: vs, d :: ds, ps, hlt, hok, h => by
    obtain ⟨p, q, h1, h2, rfl⟩ := h
    obtain ⟨x, hx, hp⟩ := read_arg hl (hlt t (by simp)) (hok 0 t v rfl rfl) h1
    obtain ⟨qs, h3, h4, h5⟩ := read_args hl ts vs ds q (fun t ht => hlt t (by simp [ht])) (fun j t v h1 h2 => hok (j + 1) t v (by simpa using h1) (by simpa using h2)) h2
    exact ⟨x :: qs, (RepC.one hx).append h3, .cons hp h4, by simp [h5]⟩
  | [], _ :: _, _, _, _, _, h => by simp [DataW.TrodAll] at h
  | [], [], _ :: _, _, _, _, h => by simp [DataW.TrodAll] at h
  | _ :: _, [], _, _, _, _, h => by simp [DataW.TrodAll] at h
  | _ :: _, _ :: _, [], _, _, _, h => by simp [DataW.TrodAll] at h

theorem stays_args {W W' : World} {sp : Nat → Bool} (hl : laidOutB P = true) (hb : Below W.heap.size W W') : ∀ (ts : List TypeId) (vs : List Value) (ds : List (DataW H)) (ps : List MemPlace), (∀ t ∈ ts, t < P.types.size ∧ P.readableRec t = true) →
    (∀ x ∈ ps, x.block < W.heap.size) → (∀ x ∈ ps, sp x.block = true) → DataW.TrodAll enc P W 0 (fun _ => true) true ts vs ds ps → DataW.TrodAll enc P W' 0 sp true ts vs ds ps
  | [], [], [], ps, _, _, _, h => h
  | t :: ts, v :: vs, d :: ds, ps, ht, hlt, hsp, h => by
    obtain ⟨p, q, h1, h2, rfl⟩ := h
    exact ⟨p, q, WideElems.Trod_stays hl (ht t (by simp)).2 (ht t (by simp)).1 h1 (fun x hx => hb.same (hlt x (by simp [hx]))) (fun x hx => hsp x (by simp [hx])),
      stays_args hl hb ts vs ds q (fun t h => ht t (by simp [h])) (fun x hx => hlt x (by simp [hx])) (fun x hx => hsp x (by simp [hx])) h2, rfl⟩
  | [], _ :: _, _, _, _, _, _, h => by simp [DataW.TrodAll] at h
  | [], [], _ :: _, _, _, _, _, h => by simp [DataW.TrodAll] at h
  | _ :: _, [], _, _, _, _, _, h => by simp [DataW.TrodAll] at h
  | _ :: _, _ :: _, [], _, _, _, _, h => by simp [DataW.TrodAll] at h

/-- A LAW WITHOUT EFFECT, for the rows' template 'true; the input reads as it did' -/
theorem contract_of_pure {f : FuncId} {fn : Func} {s : ChangeSpec} {tb : TypeId} {fresh handsOn again : Bool} (hl : layAll P = true) (hlaid : laidOutB P = true) (hvars : s.vars = [])
    (ht : ∀ t ∈ fn.params.toList, t < P.types.size ∧ P.readableRec t = true) (hres : fn.resultTypes = #[tb]) (hb : P.underlying tb = some .bool)
    (hfn : ∀ ds : List (DataW H), ds.length = fn.params.toList.length → s.fn H ds = { results := [.lit (.bool true)], args := ds })
    (hp : ∀ ps, PAs P fn.params.toList ps → PL.Pure P f ps (.bool true))
    (W : World) (base : Nat) (args : Array Value) (ds gs : List (DataW H)) (before : List MemPlace)
    (hval : ∀ (j : Nat) t v, fn.params[j]? = some t → args[j]? = some v → Value.okWide P W .any base t v)
    (hW : DataW.Whole enc P fn.params.toList s.vars false W args.toList ds gs before) :
    Calls P f args W fun e W' => ∃ v, e = .returned v ∧ s.post enc P fn false fresh handsOn again W args v W' := by
  have hW0 := hW
  obtain ⟨p, q, hA, hV, hpq, hfz, hnd⟩ := hW
  rw [hvars] at hV
  obtain ⟨rfl, rfl⟩ := trodVars_none hV
  obtain ⟨qs, h1, h2, h3⟩ := read_args hl _ _ _ _ (fun t h => (ht t h).1) (fun j t v a b => hval j t v (by simpa using a) (by simpa using b)) hA
  obtain ⟨_, _, hcalls⟩ := hp qs h2
  have := hcalls W (cellsOf W) args.toList ⟨fun b o v h => h, fun b es h => by cases h⟩ h1.1 h1.2
  have ea : (⟨args.toList⟩ : Array Value) = args := rfl
  rw [ea] at this
  refine this.mono fun e W' ⟨v, S', he, hr, _, _, _, hB⟩ => ?_
  subst he
  have hv : v = .bool true := by cases hr; rfl
  subst hv
  have hlt := hW0.lt
  have hps : before = p ++ [] := hpq
  rw [List.append_nil] at hps
  subst hps
  have hf := hfn ds h3
  have hone : (Value.bool true).resultList 1 = [.bool true] := rfl
  have hT : ∀ (sp : Nat → Bool), (∀ x ∈ before, sp x.block = true) → DataW.TrodAll enc P W' 0 sp true fn.params.toList args.toList ds before := fun sp hsp => stays_args hlaid hB _ _ _ _ ht hlt hsp hA
  have hR : ∀ (b : Nat) (sp : Nat → Bool) (hd : Bool), DataW.TrodAll enc P W' b sp hd fn.resultTypes.toList ((Value.bool true).resultList fn.resultTypes.size) [.lit (.bool true)] [] := fun b sp hd => by
    rw [hres]
    exact trodAll_cons_mk (shut_bool hb true) trodAll_mk0
  have hVs : ∀ sp : Nat → Bool, DataW.TrodVars enc P W' sp s.vars ([] : List (DataW H)) [] := fun sp => by rw [hvars]; exact rfl
  refine ⟨_, rfl, ds, [], before, [], before, [], hW0, ?_, ?_, ?_, World.keptBut_mono (fun p hp => ⟨hp, .inr (.inl hp)⟩) (hB.frame _), fun _ => ⟨ok_one hres hone (okWide_bool_mk hb true), ?_⟩⟩
  · rw [List.append_nil, hf]; exact hR _ _ _
  · rw [List.append_nil, hf]; exact hT _ (fun x hx => by simpa using hlt x hx)
  · rw [List.append_nil, hf]; exact hVs _
  · refine ⟨_, _, ([] ++ before) ++ [], ⟨[] ++ before, [], trodAll_append (hT _ fun _ _ => rfl) (hR _ _ _), hVs _, rfl, ?_, fun h => by cases h⟩, ?_⟩
    · intro b off hp
      have hp : MemPlace.cell b off ∈ before := by simpa using hp
      rw [hB.frozen (hlt _ hp)]
      exact hfz b off (by simpa using hp)
    · intro x hx _
      simpa using hx
end
end Go.PL

namespace Go.PL
set_option linter.unusedVariables false
section
variable {P : Program}
theorem PT.struct_inv {t : TypeId} {fs : Array Field} {cs : List PV} (hu : P.underlying t = some (.struct fs)) (h : PT P t cs) : PTs P (fs.toList.map (·.type)) cs := by
  cases h with
  | str' h' _ hp => rw [hu] at h'; cases h'; exact hp
  | any h' => exact (h' _ hu).elim
  | odd h' => simp [oddB, hu] at h'
  | bool h' _ => rw [hu] at h'; cases h'
  | int h' => rw [hu] at h'; cases h'
  | flt h' _ => rw [hu] at h'; cases h'
  | str h' _ => rw [hu] at h'; cases h'
  | nilp h' => rw [hu] at h'; cases h'
  | ptr h' _ => rw [hu] at h'; cases h'
  | sl h' _ => rw [hu] at h'; cases h'
  | arr h' _ => rw [hu] at h'; cases h'
theorem PT.int_inv {t : TypeId} {k : IntKind} {cs : List PV} (hu : P.underlying t = some (.int k)) (h : PT P t cs) : ∃ n, cs = [.int k n] ∧ k.min ≤ n ∧ n ≤ k.max := by
  cases h with
  | int h' n h1 h2 => rw [hu] at h'; cases h'; exact ⟨n, rfl, h1, h2⟩
  | any h' => exact (h' _ hu).elim
  | odd h' => simp [oddB, hu] at h'
  | bool h' _ => rw [hu] at h'; cases h'
  | flt h' _ => rw [hu] at h'; cases h'
  | str h' _ => rw [hu] at h'; cases h'
  | nilp h' => rw [hu] at h'; cases h'
  | ptr h' _ => rw [hu] at h'; cases h'
  | sl h' _ => rw [hu] at h'; cases h'
  | str' h' _ => rw [hu] at h'; cases h'
  | arr h' _ => rw [hu] at h'; cases h'
theorem PT.bool_inv {t : TypeId} {cs : List PV} (hu : P.underlying t = some .bool) (h : PT P t cs) : ∃ b, cs = [.bool b] := by
  cases h with
  | bool h' b => exact ⟨b, rfl⟩
  | any h' => exact (h' _ hu).elim
  | odd h' => simp [oddB, hu] at h'
  | int h' => rw [hu] at h'; cases h'
  | flt h' _ => rw [hu] at h'; cases h'
  | str h' _ => rw [hu] at h'; cases h'
  | nilp h' => rw [hu] at h'; cases h'
  | ptr h' _ => rw [hu] at h'; cases h'
  | sl h' _ => rw [hu] at h'; cases h'
  | str' h' _ => rw [hu] at h'; cases h'
  | arr h' _ => rw [hu] at h'; cases h'
theorem PT.string_inv {t : TypeId} {cs : List PV} (hu : P.underlying t = some .string) (h : PT P t cs) : ∃ l, cs = [.str l] ∧ l.length ≤ maxLen := by
  cases h with
  | str h' l hl => exact ⟨l, rfl, hl⟩
  | any h' => exact (h' _ hu).elim
  | odd h' => simp [oddB, hu] at h'
  | bool h' _ => rw [hu] at h'; cases h'
  | int h' => rw [hu] at h'; cases h'
  | flt h' _ => rw [hu] at h'; cases h'
  | nilp h' => rw [hu] at h'; cases h'
  | ptr h' _ => rw [hu] at h'; cases h'
  | sl h' _ => rw [hu] at h'; cases h'
  | str' h' _ => rw [hu] at h'; cases h'
  | arr h' _ => rw [hu] at h'; cases h'
theorem PT.slice_inv {t e : TypeId} {cs : List PV} (ho : oddB P t = false) (hu : P.underlying t = some (.slice e)) (h : PT P t cs) : ∃ l, cs = [.sl .no l] ∧ l.length ≤ maxLen ∧ ∀ p ∈ l, PA P e p := by
  cases h with
  | sl h' n hn f hp =>
    rw [hu] at h'; cases h'
    refine ⟨_, rfl, by simpa using hn, fun p hp' => ?_⟩
    obtain ⟨i, hi, rfl⟩ := List.mem_map.1 hp'
    exact ⟨f i, hp i (by simpa using hi), rfl⟩
  | any h' => exact (h' _ hu).elim
  | odd h' => rw [ho] at h'; cases h'
  | bool h' _ => rw [hu] at h'; cases h'
  | int h' => rw [hu] at h'; cases h'
  | flt h' _ => rw [hu] at h'; cases h'
  | str h' _ => rw [hu] at h'; cases h'
  | nilp h' => rw [hu] at h'; cases h'
  | ptr h' _ => rw [hu] at h'; cases h'
  | str' h' _ => rw [hu] at h'; cases h'
  | arr h' _ => rw [hu] at h'; cases h'
theorem PTs.cons_inv {t : TypeId} {ts : List TypeId} {cs : List PV} (h : PTs P (t :: ts) cs) : ∃ a b, cs = a ++ b ∧ PT P t a ∧ PTs P ts b := by
  cases h with
  | cons h hs => exact ⟨_, _, rfl, h, hs⟩
theorem PTs.nil_inv {cs : List PV} (h : PTs P [] cs) : cs = [] := by cases h; rfl
theorem PAs.cons_inv {t : TypeId} {ts : List TypeId} {cs : List PV} (h : PAs P (t :: ts) cs) : ∃ a b, cs = a :: b ∧ PA P t a ∧ PAs P ts b := by
  cases h with
  | cons h hs => exact ⟨_, _, rfl, h, hs⟩
theorem PAs.nil_inv {cs : List PV} (h : PAs P [] cs) : cs = [] := by cases h; rfl
/-- a value of an aggregate type, by its cells -/
theorem PA.agg {t : TypeId} {p : PV} (ha : tagg P t = true) (h : PA P t p) : ∃ cs, p = .agg cs ∧ PT P t cs := by
  obtain ⟨cs, h1, h2⟩ := h
  rw [ha] at h2
  exact ⟨cs, h2, h1⟩
theorem PA.one {t : TypeId} {p : PV} (ha : tagg P t = false) (h : PA P t p) : ∃ cs, p = cs.getD 0 .any ∧ PT P t cs := by
  obtain ⟨cs, h1, h2⟩ := h
  rw [ha] at h2
  exact ⟨cs, h2, h1⟩
theorem PA.int {t : TypeId} {k : IntKind} {p : PV} (hu : P.underlying t = some (.int k)) (h : PA P t p) : ∃ n, p = .int k n ∧ k.min ≤ n ∧ n ≤ k.max := by
  obtain ⟨cs, h1, h2⟩ := PA.one (by simp [tagg, hu]) h
  obtain ⟨n, rfl, h3⟩ := PT.int_inv hu h2
  exact ⟨n, h1, h3⟩
theorem PA.string {t : TypeId} {p : PV} (hu : P.underlying t = some .string) (h : PA P t p) : ∃ l, p = .str l ∧ l.length ≤ maxLen := by
  obtain ⟨cs, h1, h2⟩ := PA.one (by simp [tagg, hu]) h
  obtain ⟨n, rfl, h3⟩ := PT.string_inv hu h2
  exact ⟨n, h1, h3⟩
theorem PA.bool {t : TypeId} {p : PV} (hu : P.underlying t = some .bool) (h : PA P t p) : ∃ b, p = .bool b := by
  obtain ⟨cs, h1, h2⟩ := PA.one (by simp [tagg, hu]) h
  obtain ⟨n, rfl⟩ := PT.bool_inv hu h2
  exact ⟨n, h1⟩
theorem PA.slice {t e : TypeId} {p : PV} (ho : oddB P t = false) (hu : P.underlying t = some (.slice e)) (h : PA P t p) : ∃ l, p = .sl .no l ∧ l.length ≤ maxLen ∧ ∀ p ∈ l, PA P e p := by
  obtain ⟨cs, h1, h2⟩ := PA.one (by simp [tagg, hu]) h
  obtain ⟨n, rfl, h3⟩ := PT.slice_inv ho hu h2
  exact ⟨n, h1, h3⟩
/-- a list of which each element is told by something, told by a list of these -/
theorem all_told {α : Type} {enc : α → PV} {Q : α → Prop} : ∀ {l : List PV}, (∀ p ∈ l, ∃ x, p = enc x ∧ Q x) → ∃ xs : List α, l = xs.map enc ∧ ∀ x ∈ xs, Q x
  | [], _ => ⟨[], rfl, fun x hx => by cases hx⟩
  | p :: l, h => by
    obtain ⟨x, rfl, hq⟩ := h p (by simp)
    obtain ⟨xs, rfl, hxs⟩ := all_told (l := l) (fun p hp => h p (by simp [hp]))
    exact ⟨x :: xs, rfl, fun y hy => by
      rcases List.mem_cons.1 hy with e | e
      · rw [e]; exact hq
      · exact hxs y e⟩
end
end Go.PL

namespace Go.PL
set_option linter.unusedVariables false
section
variable {P : Program} {s : St} {Q : Exit → St → Prop}
@[go_sem] theorem upds_nil {α : Type} (f : Nat → α) : upds [] f = f := rfl
@[go_sem] theorem upds_cons {α : Type} (i : Nat) (v : α) (L : List (Nat × α)) (f : Nat → α) : upds ((i, v) :: L) f = upd (upds L f) i v := rfl
@[go_sem] theorem kills_nil (f : Nat → PV) : kills [] f = f := by funext i; simp [kills]
@[go_sem] theorem kills_cons (w : Nat) (ws : List Nat) (f : Nat → PV) : kills (w :: ws) f = upd (kills ws f) w .any := by
  funext i
  simp only [kills, upd, List.contains_cons]
  by_cases h : w = i
  · subst h; simp
  · have : (i == w) = false := by simp; exact fun e => h e.symm
    simp [this, h]
attribute [go_sem] St.inv

theorem vDrawQ {id : Nat} {l : List Oper} (hm : P.follows .mixedOrders = true) (hB : drawB l.toArray = true) (h : @vA P false ⟨@vQ ⟨Q⟩ .normal⟩ ⟨l⟩ ⟨l⟩ s) : awp P (.region id l.toArray true) Q s :=
  vDraw hm hB h

def HRest (X : List Nat) (h' : Nat → Option (List PV)) (z' : Nat → Bool) (h : Nat → Option (List PV)) (z : Nat → Bool) : Prop := ∀ i, X.contains i = false → h i = none ∨ (h i = h' i ∧ z i = z' i)
theorem HRest.refl (X : List Nat) (h : Nat → Option (List PV)) (z : Nat → Bool) : HRest X h z h z := fun _ _ => .inr ⟨rfl, rfl⟩
def QRest (X : List Nat) (q' q : Rows) : Prop := ∀ i, X.contains i = false → q i = none ∨ q i = q' i
theorem QRest.refl (X : List Nat) (q : Rows) : QRest X q q := fun _ _ => .inr rfl
theorem QRest.upd {X : List Nat} {q' q : Rows} {d : Nat} {v : Option Row} (hd : X.contains d = true ∨ q d = none) (hh : QRest X q' q) : QRest X (PL.upd q' d v) q := fun i hi => by
  by_cases e : d = i
  · subst e
    rcases hd with hd | hd
    · rw [hd] at hi; cases hi
    · exact .inl hd
  · rw [upd_ne _ _ e]; exact hh i hi

theorem Live.inv_r {L : List (Nat × PV)} {H : List (Nat × List PV)} {R : List (Nat × Row)} {y : Nat × Row} (hy : y ∈ R) : Live (s.inv [] L H R).m (.r y.1) := by
  show upds (R.map fun x => (x.1, some x.2)) s.m.q y.1 ≠ none
  refine upds_all (R := fun i v => v ≠ none) (fun x hx => by obtain ⟨y, hy, rfl⟩ := List.mem_map.1 hx; simp) ?_
  rw [map1 R some]
  simp only [List.contains_iff_mem, List.mem_map]
  exact ⟨y, hy, rfl⟩
theorem Live.inv_b {L : List (Nat × PV)} {H : List (Nat × List PV)} {R : List (Nat × Row)} {y : Nat × List PV} (hy : y ∈ H) : Live (s.inv [] L H R).m (.b y.1) := by
  show upds (H.map fun x => (x.1, some x.2)) s.m.h y.1 ≠ none
  refine upds_all (R := fun i v => v ≠ none) (fun x hx => by obtain ⟨y, hy, rfl⟩ := List.mem_map.1 hx; simp) ?_
  rw [map1 H some]
  simp only [List.contains_iff_mem, List.mem_map]
  exact ⟨y, hy, rfl⟩
/-- what the head tells leans on rows and blocks that it tells -/
def refIn (H : List (Nat × List PV)) (R : List (Nat × Row)) : Ref → Bool
  | .r i => (R.map (·.1)).contains i
  | .b i => (H.map (·.1)).contains i
theorem Live.of_refIn {L : List (Nat × PV)} {H : List (Nat × List PV)} {R : List (Nat × Row)} {r : Ref} (h : refIn H R r = true) : Live (s.inv [] L H R).m r := by
  cases r with
  | r i =>
    simp only [refIn, List.contains_iff_mem, List.mem_map] at h
    obtain ⟨y, hy, rfl⟩ := h
    exact Live.inv_r hy
  | b i =>
    simp only [refIn, List.contains_iff_mem, List.mem_map] at h
    obtain ⟨y, hy, rfl⟩ := h
    exact Live.inv_b hy
theorem RefsL.of {L : List (Nat × PV)} {H : List (Nat × List PV)} {R : List (Nat × Row)} (h1 : ∀ x ∈ L, x.2.ids.all (refIn H R) = true) (h2 : ∀ x ∈ H, (PV.idsL x.2).all (refIn H R) = true) : RefsL s L H R :=
  ⟨fun x hx r hr => Live.of_refIn (List.all_eq_true.1 (h1 x hx) r hr), fun x hx c hc r hr => Live.of_refIn (List.all_eq_true.1 (h2 x hx) r (PV.mem_idsL.2 ⟨c, hc, hr⟩))⟩
theorem forall_nil {α : Type} {p : α → Prop} : ∀ x ∈ ([] : List α), p x := fun x hx => by cases hx
theorem forall_cons {α : Type} {p : α → Prop} {a : α} {l : List α} (h : p a) (h' : ∀ x ∈ l, p x) : ∀ x ∈ a :: l, p x := fun x hx => by
  rcases List.mem_cons.1 hx with e | e
  · rw [e]; exact h
  · exact h' x e

/-- as Q; by a goto: what J says of the label -/
def gotoQ (J : Nat → St → Prop) (Q : Exit → St → Prop) : Exit → St → Prop
  | .goto l, s => J l s
  | e, s => Q e s

/-- A SCOPE WITH LABELS to which the run jumps, or which it comes to. 'I i': what is told at the label 'lab i'; 'code i': what stands behind it. -/
theorem awp_scope {c : Code} {ι : Type} (lab : ι → Nat) (code : ι → Code) (I : ι → St) (μ : ι → Nat) (hf : ∀ i, findLabel c (lab i) = some (code i)) (hr : Refs s → ∀ i, Refs (I i))
    (pass : ∀ i, (∀ j s', μ j < μ i → Weak (I j) s' → awp P (code j) (gotoQ (fun l s' => ∃ j, lab j = l ∧ μ j < μ i ∧ Weak (I j) s') Q) s') →
      awp P (code i) (gotoQ (fun l s' => ∃ j, lab j = l ∧ μ j < μ i ∧ Weak (I j) s') Q) (I i))
    (first : (∀ j s', Weak (I j) s' → awp P (code j) (gotoQ (fun l s' => ∃ j, lab j = l ∧ Weak (I j) s') Q) s') → awp P c (gotoQ (fun l s' => ∃ j, lab j = l ∧ Weak (I j) s') Q) s) :
    awp P (.scope c) Q s := fun B S M a w hs => by
  have hrefs := hr hs.refs
  have all : ∀ n i, μ i = n → awp P (code i) (gotoQ (fun l s' => ∃ j, lab j = l ∧ μ j < μ i ∧ Weak (I j) s') Q) (I i) := by
    intro n
    induction n using Nat.strongRecOn with
    | _ n ih =>
      intro i hi
      refine pass i fun j s' hj hw => awp_weak hw (fun _ => hrefs j) (awp_mono (fun e s'' h => ?_) (ih (μ j) (by omega) j rfl))
      cases e with
      | goto l => obtain ⟨k, h1, h2, h3⟩ := h; exact ⟨k, h1, by omega, h3⟩
      | _ => exact h
  have hfirst := first fun j s' hw => awp_weak hw (fun _ => hrefs j) (awp_mono (fun e s'' h => by
      cases e with
      | goto l => obtain ⟨k, h1, h2, h3⟩ := h; exact ⟨k, h1, h3⟩
      | _ => exact h) (all _ j rfl))
  intro b k cs
  have hg : ∀ i, gotoIn (lab i) (.inScope c :: k) = some (.code (code i) :: .inScope c :: k) := fun i => by simp [gotoIn, hf i]
  have key : ∀ n i S1 M1 a1 w1, μ i = n → Sim B S1 M1 (I i) a1 w1 → Ext B S S1 w w1 → ∃ e a' w', (∃ s' S' M', Q e s' ∧ Sim B S' M' s' a' w' ∧ Ext B S S' w w') ∧ Arrives P (lone (b.at a1 (.code (code i) :: .inScope c :: k)) cs w1) b k cs e a' w' := by
    intro n
    induction n using Nat.strongRecOn with
    | _ n ih =>
      intro i S1 M1 a1 w1 hi hs1 he1
      obtain ⟨e, a2, w2, ⟨s2, S2, M2, hq, hs2, he2⟩, harr⟩ := all _ i rfl B S1 M1 a1 w1 hs1 b (.inScope c :: k) cs
      cases e with
      | normal => exact ⟨.normal, a2, w2, ⟨s2, S2, M2, hq, hs2, he1.trans he2⟩, Steps.trans harr (.one step_inScope)⟩
      | exit id => exact ⟨.exit id, a2, w2, ⟨s2, S2, M2, hq, hs2, he1.trans he2⟩, fun k' hk => harr k' (by simp [exitTo, hk])⟩
      | goto l' =>
        obtain ⟨j, rfl, hlt, hw⟩ := hq
        obtain ⟨e3, a3, w3, hq3, harr3⟩ := ih (μ j) (by omega) j S2 M2 a2 w2 rfl (hs2.weak hw (hrefs j)) (he1.trans he2)
        exact ⟨e3, a3, w3, hq3, .of_steps (harr _ (hg j)) harr3⟩
      | ret => exact ⟨_, a2, w2, ⟨s2, S2, M2, hq, hs2, he1.trans he2⟩, harr⟩
      | panic ch => exact ⟨_, a2, w2, ⟨s2, S2, M2, hq, hs2, he1.trans he2⟩, harr⟩
      | outgrown => exact ⟨_, a2, w2, ⟨s2, S2, M2, hq, hs2, he1.trans he2⟩, harr⟩
  obtain ⟨e, a1, w1, ⟨s1, S1, M1, hq, hs1, he1⟩, harr⟩ := hfirst B S M a w hs b (.inScope c :: k) cs
  cases e with
  | normal => exact ⟨.normal, a1, w1, ⟨s1, S1, M1, hq, hs1, he1⟩, .head step_scope (Steps.trans harr (.one step_inScope))⟩
  | exit id => exact ⟨.exit id, a1, w1, ⟨s1, S1, M1, hq, hs1, he1⟩, fun k' hk => .head step_scope (harr k' (by simp [exitTo, hk]))⟩
  | goto l' =>
    obtain ⟨j, rfl, hw⟩ := hq
    obtain ⟨e3, a3, w3, hq3, harr3⟩ := key _ j S1 M1 a1 w1 rfl (hs1.weak hw (hrefs j)) he1
    exact ⟨e3, a3, w3, hq3, .of_steps (.head step_scope (harr _ (hg j))) harr3⟩
  | ret => exact ⟨_, a1, w1, ⟨s1, S1, M1, hq, hs1, he1⟩, .of_steps (.one step_scope) harr⟩
  | panic ch => exact ⟨_, a1, w1, ⟨s1, S1, M1, hq, hs1, he1⟩, .of_steps (.one step_scope) harr⟩
  | outgrown => exact ⟨_, a1, w1, ⟨s1, S1, M1, hq, hs1, he1⟩, .of_steps (.one step_scope) harr⟩

/-- a state of which just these slots, blocks and rows are told -/
def mkSt (n : Nat) (L : List (Nat × PV)) (H : List (Nat × List PV × Bool)) (R : List (Nat × Row)) : St :=
  { fr := upds L fun _ => .any, m := { h := upds (H.map fun x => (x.1, some x.2.1)) fun _ => none, z := upds (H.map fun x => (x.1, x.2.2)) fun _ => false, q := upds (R.map fun x => (x.1, some x.2)) fun _ => none, o := fun _ => none, it := fun _ => none }, n := n }
/-- a state holds what is told -/
structure Has (n : Nat) (L : List (Nat × PV)) (H : List (Nat × List PV × Bool)) (R : List (Nat × Row)) (s : St) : Prop where
  n : s.n = n
  fr : ∀ x ∈ L, s.fr x.1 = x.2
  h : ∀ x ∈ H, s.m.h x.1 = some x.2.1 ∧ s.m.z x.1 = x.2.2
  q : ∀ x ∈ R, s.m.q x.1 = some x.2
theorem Has.weak {n : Nat} {L : List (Nat × PV)} {H : List (Nat × List PV × Bool)} {R : List (Nat × Row)} (h : Has n L H R s) : Weak (mkSt n L H R) s := by
  have m1 : ∀ {α β : Type} (L : List (Nat × α)) (f : α → β), (L.map fun x => (x.1, f x.2)).map (·.1) = L.map (·.1) := fun L f => by simp
  refine ⟨h.n.symm, fun i => ?_, fun i => ?_, fun i => ?_, fun _ => .inl rfl, fun _ => .inl rfl⟩
  · by_cases hi : (L.map (·.1)).contains i = true
    · exact .inr (upds_all (R := fun i v => v = s.fr i) (fun x hx => (h.fr x hx).symm) hi)
    · exact .inl (upds_ne (by simpa using hi))
  · show upds (H.map fun x => (x.1, some x.2.1)) (fun _ => none) i = none ∨ (upds (H.map fun x => (x.1, some x.2.1)) (fun _ => none) i = _ ∧ upds (H.map fun x => (x.1, x.2.2)) (fun _ => false) i = _)
    by_cases hi : (H.map (·.1)).contains i = true
    · right
      refine ⟨upds_all (R := fun i v => v = s.m.h i) (fun x hx => ?_) (by rw [m1 H (fun x => some x.1)]; exact hi), upds_all (R := fun i v => v = s.m.z i) (fun x hx => ?_) (by rw [m1 H (fun x => x.2)]; exact hi)⟩
      · obtain ⟨y, hy, rfl⟩ := List.mem_map.1 hx; exact (h.h y hy).1.symm
      · obtain ⟨y, hy, rfl⟩ := List.mem_map.1 hx; exact (h.h y hy).2.symm
    · exact .inl (upds_ne (by rw [m1 H (fun x => some x.1)]; simpa using hi))
  · show upds (R.map fun x => (x.1, some x.2)) (fun _ => none) i = none ∨ upds (R.map fun x => (x.1, some x.2)) (fun _ => none) i = _
    by_cases hi : (R.map (·.1)).contains i = true
    · right
      refine upds_all (R := fun i v => v = s.m.q i) (fun x hx => ?_) (by rw [m1 R some]; exact hi)
      obtain ⟨y, hy, rfl⟩ := List.mem_map.1 hx; exact (h.q y hy).symm
    · exact .inl (upds_ne (by rw [m1 R some]; simpa using hi))
def refInM (H : List (Nat × List PV × Bool)) (R : List (Nat × Row)) : Ref → Bool
  | .r i => (R.map (·.1)).contains i
  | .b i => (H.map (·.1)).contains i
/-- what is told leans on what is told -/
def toldB (L : List (Nat × PV)) (H : List (Nat × List PV × Bool)) (R : List (Nat × Row)) : Prop :=
  (∀ x ∈ L, x.2.ids.all (refInM H R) = true) ∧ ∀ x ∈ H, (PV.idsL x.2.1).all (refInM H R) = true
theorem Refs.mkSt {n : Nat} {L : List (Nat × PV)} {H : List (Nat × List PV × Bool)} {R : List (Nat × Row)} (h : toldB L H R) : Refs (mkSt n L H R) := by
  have m1 : ∀ {α β : Type} (L : List (Nat × α)) (f : α → β), (L.map fun x => (x.1, f x.2)).map (·.1) = L.map (·.1) := fun L f => by simp
  have live : ∀ r, refInM H R r = true → Live (PL.mkSt n L H R).m r := fun r hr => by
    cases r with
    | b i =>
      show upds (H.map fun x => (x.1, some x.2.1)) (fun _ => none) i ≠ none
      exact upds_all (R := fun i v => v ≠ none) (fun x hx => by obtain ⟨y, hy, rfl⟩ := List.mem_map.1 hx; simp) (by rw [m1 H (fun x => some x.1)]; exact hr)
    | r i =>
      show upds (R.map fun x => (x.1, some x.2)) (fun _ => none) i ≠ none
      exact upds_all (R := fun i v => v ≠ none) (fun x hx => by obtain ⟨y, hy, rfl⟩ := List.mem_map.1 hx; simp) (by rw [m1 R some]; exact hr)
  refine ⟨fun i r hr => ?_, fun i cs hi c hc r hr => ?_⟩
  · by_cases hi : (L.map (·.1)).contains i = true
    · exact upds_all (R := fun i v => ∀ r ∈ v.ids, Live (PL.mkSt n L H R).m r) (fun x hx r hr => live r (List.all_eq_true.1 (h.1 x hx) r hr)) hi r hr
    · have hr' : r ∈ (upds L (fun _ => PV.any) i).ids := hr
      rw [upds_ne (by simpa using hi)] at hr'
      simp [PV.ids] at hr'
  · by_cases hi' : (H.map (·.1)).contains i = true
    · have hR := upds_all (R := fun i v => ∀ cs, v = some cs → ∀ c ∈ cs, ∀ r ∈ c.ids, Live (PL.mkSt n L H R).m r) (f := fun _ => none) (L := H.map fun x => (x.1, some x.2.1)) (i := i)
        (fun x hx cs hcs c hc r hr => by obtain ⟨y, hy, rfl⟩ := List.mem_map.1 hx; cases hcs; exact live r (List.all_eq_true.1 (h.2 y hy) r (PV.mem_idsL.2 ⟨c, hc, hr⟩))) (by rw [m1 H (fun x => some x.1)]; exact hi')
      exact hR cs hi c hc r hr
    · have hi2 : upds (H.map fun x => (x.1, some x.2.1)) (fun _ => none) i = some cs := hi
      rw [upds_ne (by rw [m1 H (fun x => some x.1)]; simpa using hi')] at hi2
      cases hi2

/-- the next head, or the next label -/
def Next {ι : Type} (n : Nat) (L : ι → List (Nat × PV)) (H : ι → List (Nat × List PV × Bool)) (R : ι → List (Nat × Row)) (μ : ι → Nat) (i : ι) (s' : St) : Prop := ∃ j, μ j < μ i ∧ Has n (L j) (H j) (R j) s'
def Some' {ι : Type} (n : Nat) (L : ι → List (Nat × PV)) (H : ι → List (Nat × List PV × Bool)) (R : ι → List (Nat × Row)) (s' : St) : Prop := ∃ j, Has n (L j) (H j) (R j) s'

/-- A LOOP, by what is told at its head -/
theorem vLoopM {c : Code} {ι : Type} (n : Nat) (L : ι → List (Nat × PV)) (H : ι → List (Nat × List PV × Bool)) (R : ι → List (Nat × Row)) (μ : ι → Nat) (i0 : ι)
    (h0 : Has n (L i0) (H i0) (R i0) s) (hr : ∀ i, toldB (L i) (H i) (R i))
    (round : ∀ i, @vC P ⟨c⟩ ⟨thenQ (Next n L H R μ i) Q⟩ (mkSt n (L i) (H i) (R i))) : awp P (.loop c) Q s :=
  awp_loop_gen (fun i => mkSt n (L i) (H i) (R i)) μ i0 h0.weak (fun _ i => Refs.mkSt (hr i)) fun i => awp_mono (fun e s' h => by
    cases e with
    | normal => obtain ⟨j, hj, hm⟩ := h; exact ⟨j, hj, hm.weak⟩
    | _ => exact h) (vc_sound _ _ _ (round i))

def gotoJ (l : Nat) (J : St → Prop) : Nat → St → Prop := fun l' s => l' = l ∧ J s
theorem awp_label_seq {l : Nat} {z : Code} (h : awp P z Q s) : awp P (.seq (.label l) z) Q s := awp_seq (awp_label h)

/-- A SCOPE WITH ONE LABEL, by what is told there -/
theorem vScopeM {c : Code} {ι : Type} (n : Nat) (L : ι → List (Nat × PV)) (H : ι → List (Nat × List PV × Bool)) (R : ι → List (Nat × Row)) (μ : ι → Nat) (l : Nat) (z : Code) (hf : findLabel c l = some (.seq .skip z)) (hr : ∀ i, toldB (L i) (H i) (R i))
    (pass : ∀ i, @vC P ⟨z⟩ ⟨gotoQ (gotoJ l (Next n L H R μ i)) Q⟩ (mkSt n (L i) (H i) (R i)))
    (first : (∀ j s', Has n (L j) (H j) (R j) s' → awp P z (gotoQ (gotoJ l (Some' n L H R)) Q) s') → @vC P ⟨c⟩ ⟨gotoQ (gotoJ l (Some' n L H R)) Q⟩ s) : awp P (.scope c) Q s := by
  have sk : ∀ {Q : Exit → St → Prop} {s : St}, awp P z Q s → awp P (.seq .skip z) Q s := fun h => awp_seq (awp_skip h)
  have passA : ∀ i, awp P (.seq .skip z) (gotoQ (fun l' s' => ∃ j, l = l' ∧ μ j < μ i ∧ Weak (mkSt n (L j) (H j) (R j)) s') Q) (mkSt n (L i) (H i) (R i)) := fun i =>
    sk (awp_mono (fun e s' h => by
      cases e with
      | goto l' => obtain ⟨rfl, j, hj, hm⟩ := h; exact ⟨j, rfl, hj, hm.weak⟩
      | _ => exact h) (vc_sound _ _ _ (pass i)))
  refine awp_scope (fun _ : ι => l) (fun _ => .seq .skip z) (fun i => mkSt n (L i) (H i) (R i)) μ (fun _ => hf) (fun _ i => Refs.mkSt (hr i)) (fun i _ => passA i) fun cut => ?_
  have key := first fun j s' hs' B S M a w hsim => by
    have hp := vc_sound _ _ _ (pass j) B S M a w (hsim.weak hs'.weak (Refs.mkSt (hr j)))
    refine wp_mono hp fun e a' w' ⟨s1, S1, M1, h1, h2, h3⟩ => ⟨s1, S1, M1, ?_, h2, h3⟩
    cases e with
    | goto l' => obtain ⟨e, j, _, hm⟩ := h1; exact ⟨e, j, hm⟩
    | _ => exact h1
  refine awp_mono (fun e s' h => ?_) (vc_sound _ _ _ key)
  cases e with
  | goto l' => obtain ⟨rfl, j, hm⟩ := h; exact ⟨j, rfl, hm.weak⟩
  | _ => exact h
/-- a scope through which the run goes without a jump -/
theorem vScope0 {c : Code} (h : @vC P ⟨c⟩ ⟨gotoQ (fun _ _ => False) Q⟩ s) : awp P (.scope c) Q s :=
  awp_scope (ι := Empty) (fun i => i.elim) (fun i => i.elim) (fun i => i.elim) (fun i => i.elim) (fun i => i.elim) (fun _ i => i.elim) (fun i => i.elim) fun _ => awp_mono (fun e s' h => by
    cases e with
    | goto l => exact h.elim
    | _ => exact h) (vc_sound _ _ _ h)
@[go_sem] theorem vQ_goto_normal (J : Nat → St → Prop) (s : St) : @vQ ⟨gotoQ J Q⟩ .normal s = @vQ ⟨Q⟩ .normal s := rfl
@[go_sem] theorem vQ_goto_ret (J : Nat → St → Prop) (s : St) : @vQ ⟨gotoQ J Q⟩ .ret s = @vQ ⟨Q⟩ .ret s := rfl
@[go_sem] theorem vQ_goto_exit (J : Nat → St → Prop) (id : Nat) (s : St) : @vQ ⟨gotoQ J Q⟩ (.exit id) s = @vQ ⟨Q⟩ (.exit id) s := rfl
@[go_sem] theorem vQ_goto_goto (J : Nat → St → Prop) (l : Nat) (s : St) : @vQ ⟨gotoQ J Q⟩ (.goto l) s = J l s := rfl
@[go_sem] theorem gotoJ_same (l : Nat) (J : St → Prop) (s : St) : gotoJ l J l s = J s := by simp [gotoJ]
attribute [go_sem] mkSt
end
end Go.PL

namespace Go.PL
open Go.RowKit
set_option linter.unusedVariables false
section
variable {P : Program} {B : Frm} {S : Stable} {M : Maps} {s : St} {a : Act} {w : World} {Q : Exit → St → Prop}

/-- a row that a slot tells, under another number -/
theorem awp_moveRow {c : Code} (i id d n sz : Nat) (e : TypeId) (es : List PV) (hi : s.fr i = .sl (.row id) es) (hid : s.m.q id = some (.live n sz e)) (hd : s.m.q d = none)
    (h : awp P c Q ({ s with fr := upd s.fr i (.sl (.row d) es) }.with ((s.m.setq id .dead).setq d (.live n sz e)))) : awp P c Q s := fun B S M a w hs => by
  have hne : id ≠ d := fun e => by rw [e, hd] at hid; cases hid
  have hs1 := hs.moveRow hid hd
  have hrow := hs.fr i
  rw [hi] at hrow
  have key : ∃ r : Rep S (a.tmps.getD i undef) (.sl .no es), (es.length ≤ n ∧ (es.length = n → (M.κ id = 0 → a.tmps.getD i undef = .slice none 0 0) ∧ (∀ c, M.κ id = c + 1 → a.tmps.getD i undef = .slice (some ⟨M.ψ id, 0, none⟩) n c))) := by
    generalize a.tmps.getD i undef = v at hrow
    cases hrow with
    | clean r => cases r
    | row _ _ _ r t => exact ⟨r, t n sz e hid⟩
  obtain ⟨r, t⟩ := key
  refine h B S _ a w ⟨hs1.defers, hs1.hn, hs1.hB, hs1.stable, fun k => ?_, fun k r hr => ?_, hs1.blk, hs1.row, hs1.inj, hs1.injq, hs1.injx⟩
  · show RepS _ _ _ _ (upd s.fr i (.sl (.row d) es) k)
    by_cases ek : i = k
    · subst ek
      rw [upd_same]
      refine .row d _ es r fun n' sz' e' hq => ?_
      have hq' : upd (upd s.m.q id (some .dead)) d (some (.live n sz e)) d = some (.live n' sz' e') := hq
      rw [upd_same] at hq'
      cases hq'
      refine ⟨t.1, fun el => ?_⟩
      have := t.2 el
      simpa only [upd_same] using this
    · rw [upd_ne _ _ ek]; exact hs1.fr k
  · have hr' : r ∈ (upd s.fr i (.sl (.row d) es) k).ids := hr
    by_cases ek : i = k
    · subst ek
      rw [upd_same] at hr'
      simp only [PV.ids, List.mem_singleton] at hr'
      subst hr'
      show upd _ _ _ _ ≠ none
      simp [upd_same]
    · rw [upd_ne _ _ ek] at hr'; exact hs1.ids k r hr'
end
end Go.PL

namespace Go.PL
open Go.RowKit
set_option linter.unusedVariables false
section
variable {P : Program} {s : St} {Q : Exit → St → Prop}
def NextL {ι : Type} (n : Nat) (L : ι → List (Nat × PV)) (H : ι → List (Nat × List PV × Bool)) (R : ι → List (Nat × Row)) (μ : ι → Nat) (lab : ι → Nat) (i : ι) : Nat → St → Prop := fun l s' => ∃ j, lab j = l ∧ μ j < μ i ∧ Has n (L j) (H j) (R j) s'
def SomeL {ι : Type} (n : Nat) (L : ι → List (Nat × PV)) (H : ι → List (Nat × List PV × Bool)) (R : ι → List (Nat × Row)) (lab : ι → Nat) : Nat → St → Prop := fun l s' => ∃ j, lab j = l ∧ Has n (L j) (H j) (R j) s'
/-- A SCOPE WITH MANY LABELS, by what is told at each -/
theorem vScopeL {c : Code} {ι : Type} (n : Nat) (L : ι → List (Nat × PV)) (H : ι → List (Nat × List PV × Bool)) (R : ι → List (Nat × Row)) (μ : ι → Nat) (lab : ι → Nat) (z : ι → Code)
    (hf : ∀ i, findLabel c (lab i) = some (.seq .skip (z i))) (hr : ∀ i, toldB (L i) (H i) (R i))
    (pass : ∀ i, (∀ j s', μ j < μ i → Has n (L j) (H j) (R j) s' → awp P (z j) (gotoQ (NextL n L H R μ lab i) Q) s') → @vC P ⟨z i⟩ ⟨gotoQ (NextL n L H R μ lab i) Q⟩ (mkSt n (L i) (H i) (R i)))
    (first : (∀ j s', Has n (L j) (H j) (R j) s' → awp P (z j) (gotoQ (SomeL n L H R lab) Q) s') → @vC P ⟨c⟩ ⟨gotoQ (SomeL n L H R lab) Q⟩ s) : awp P (.scope c) Q s := by
  have sk : ∀ {z : Code} {Q : Exit → St → Prop} {s : St}, awp P z Q s → awp P (.seq .skip z) Q s := fun h => awp_seq (awp_skip h)
  have all : ∀ m i, μ i = m → awp P (z i) (gotoQ (NextL n L H R μ lab i) Q) (mkSt n (L i) (H i) (R i)) := by
    intro m
    induction m using Nat.strongRecOn with
    | _ m ih =>
      intro i hi
      refine vc_sound _ _ _ (pass i fun j s' hj hh => ?_)
      refine awp_weak hh.weak (fun _ => Refs.mkSt (hr j)) (awp_mono (fun e s'' h => ?_) (ih (μ j) (by omega) j rfl))
      cases e with
      | goto l => obtain ⟨k, h1, h2, h3⟩ := h; exact ⟨k, h1, by omega, h3⟩
      | _ => exact h
  refine awp_scope lab (fun i => .seq .skip (z i)) (fun i => mkSt n (L i) (H i) (R i)) μ hf (fun _ i => Refs.mkSt (hr i)) (fun i _ => ?_) fun _ => ?_
  · refine sk (awp_mono (fun e s' h => ?_) (all _ i rfl))
    cases e with
    | goto l => obtain ⟨k, h1, h2, h3⟩ := h; exact ⟨k, h1, h2, h3.weak⟩
    | _ => exact h
  · refine awp_mono (fun e s' h => ?_) (vc_sound _ _ _ (first fun j s' hh => ?_))
    · cases e with
      | goto l => obtain ⟨k, h1, h3⟩ := h; exact ⟨k, h1, h3.weak⟩
      | _ => exact h
    · refine awp_weak hh.weak (fun _ => Refs.mkSt (hr j)) (awp_mono (fun e s'' h => ?_) (all _ j rfl))
      cases e with
      | goto l => obtain ⟨k, h1, h2, h3⟩ := h; exact ⟨k, h1, h3⟩
      | _ => exact h
def gotoJ2 (l0 : Nat) (J0 : St → Prop) (l1 : Nat) (J1 : St → Prop) : Nat → St → Prop := fun l s => (l = l0 ∧ J0 s) ∨ (l = l1 ∧ J1 s)
/-- A SCOPE WITH TWO LABELS: from the first the run comes to the second, never back -/
theorem vScope2 {c : Code} {ι0 ι1 : Type} (n : Nat) (L0 : ι0 → List (Nat × PV)) (H0 : ι0 → List (Nat × List PV × Bool)) (R0 : ι0 → List (Nat × Row)) (μ0 : ι0 → Nat)
    (L1 : ι1 → List (Nat × PV)) (H1 : ι1 → List (Nat × List PV × Bool)) (R1 : ι1 → List (Nat × Row)) (μ1 : ι1 → Nat) (B : Nat) (hB : ∀ j, μ1 j < B)
    (l0 l1 : Nat) (z0 z1 : Code) (hf0 : findLabel c l0 = some (.seq .skip z0)) (hf1 : findLabel c l1 = some (.seq .skip z1)) (hr0 : ∀ i, toldB (L0 i) (H0 i) (R0 i)) (hr1 : ∀ i, toldB (L1 i) (H1 i) (R1 i))
    (pass0 : ∀ i, (∀ j s', Has n (L1 j) (H1 j) (R1 j) s' → awp P z1 (gotoQ (gotoJ2 l0 (Next n L0 H0 R0 μ0 i) l1 (Some' n L1 H1 R1)) Q) s') → @vC P ⟨z0⟩ ⟨gotoQ (gotoJ2 l0 (Next n L0 H0 R0 μ0 i) l1 (Some' n L1 H1 R1)) Q⟩ (mkSt n (L0 i) (H0 i) (R0 i)))
    (pass1 : ∀ i, @vC P ⟨z1⟩ ⟨gotoQ (gotoJ l1 (Next n L1 H1 R1 μ1 i)) Q⟩ (mkSt n (L1 i) (H1 i) (R1 i)))
    (first : (∀ j s', Has n (L0 j) (H0 j) (R0 j) s' → awp P z0 (gotoQ (gotoJ2 l0 (Some' n L0 H0 R0) l1 (Some' n L1 H1 R1)) Q) s') → @vC P ⟨c⟩ ⟨gotoQ (gotoJ2 l0 (Some' n L0 H0 R0) l1 (Some' n L1 H1 R1)) Q⟩ s) : awp P (.scope c) Q s := by
  refine vScopeL (ι := ι0 ⊕ ι1) n (Sum.elim L0 L1) (Sum.elim H0 H1) (Sum.elim R0 R1) (Sum.elim (fun i => B + μ0 i) μ1) (Sum.elim (fun _ => l0) (fun _ => l1)) (Sum.elim (fun _ => z0) (fun _ => z1)) ?_ ?_ ?_ ?_
  · rintro (i | i)
    · exact hf0
    · exact hf1
  · rintro (i | i)
    · exact hr0 i
    · exact hr1 i
  · rintro (i | i) cut
    · have hm : ∀ l s', gotoJ2 l0 (Next n L0 H0 R0 μ0 i) l1 (Some' n L1 H1 R1) l s' → NextL n (Sum.elim L0 L1) (Sum.elim H0 H1) (Sum.elim R0 R1) (Sum.elim (fun i => B + μ0 i) μ1) (Sum.elim (fun _ => l0) (fun _ => l1)) (.inl i) l s' := by
        rintro l s' (⟨rfl, j, h1, h2⟩ | ⟨rfl, j, h2⟩)
        · exact ⟨.inl j, rfl, by simp only [Sum.elim_inl]; omega, h2⟩
        · exact ⟨.inr j, rfl, by have := hB j; simp only [Sum.elim_inl, Sum.elim_inr]; omega, h2⟩
      have hm' : ∀ l s', NextL n (Sum.elim L0 L1) (Sum.elim H0 H1) (Sum.elim R0 R1) (Sum.elim (fun i => B + μ0 i) μ1) (Sum.elim (fun _ => l0) (fun _ => l1)) (.inl i) l s' → gotoJ2 l0 (Next n L0 H0 R0 μ0 i) l1 (Some' n L1 H1 R1) l s' := by
        rintro l s' ⟨j | j, h0, h1, h2⟩
        · exact .inl ⟨h0.symm, j, by simp only [Sum.elim_inl] at h1; omega, h2⟩
        · exact .inr ⟨h0.symm, j, h2⟩
      have e : (gotoJ2 l0 (Next n L0 H0 R0 μ0 i) l1 (Some' n L1 H1 R1)) = NextL n (Sum.elim L0 L1) (Sum.elim H0 H1) (Sum.elim R0 R1) (Sum.elim (fun i => B + μ0 i) μ1) (Sum.elim (fun _ => l0) (fun _ => l1)) (.inl i) := by
        funext l s'; exact propext ⟨hm l s', hm' l s'⟩
      have := pass0 i fun j s' hh => by rw [e]; exact cut (.inr j) s' (by have := hB j; simp only [Sum.elim_inl, Sum.elim_inr]; omega) hh
      rw [e] at this
      exact this
    · have hp := vc_sound _ _ _ (pass1 i)
      have e : ∀ l s', gotoJ l1 (Next n L1 H1 R1 μ1 i) l s' → NextL n (Sum.elim L0 L1) (Sum.elim H0 H1) (Sum.elim R0 R1) (Sum.elim (fun i => B + μ0 i) μ1) (Sum.elim (fun _ => l0) (fun _ => l1)) (.inr i) l s' := by
        rintro l s' ⟨rfl, j, h1, h2⟩
        exact ⟨.inr j, rfl, h1, h2⟩
      have e' : ∀ l s', NextL n (Sum.elim L0 L1) (Sum.elim H0 H1) (Sum.elim R0 R1) (Sum.elim (fun i => B + μ0 i) μ1) (Sum.elim (fun _ => l0) (fun _ => l1)) (.inr i) l s' → gotoJ l1 (Next n L1 H1 R1 μ1 i) l s' := by
        rintro l s' ⟨j | j, h0, h1, h2⟩
        · have := hB i; simp only [Sum.elim_inl, Sum.elim_inr] at h1; omega
        · exact ⟨h0.symm, j, h1, h2⟩
      have ee : gotoJ l1 (Next n L1 H1 R1 μ1 i) = NextL n (Sum.elim L0 L1) (Sum.elim H0 H1) (Sum.elim R0 R1) (Sum.elim (fun i => B + μ0 i) μ1) (Sum.elim (fun _ => l0) (fun _ => l1)) (.inr i) := by
        funext l s'; exact propext ⟨e l s', e' l s'⟩
      have := pass1 i
      rw [ee] at this
      exact this
  · intro cut
    have e : gotoJ2 l0 (Some' n L0 H0 R0) l1 (Some' n L1 H1 R1) = SomeL n (Sum.elim L0 L1) (Sum.elim H0 H1) (Sum.elim R0 R1) (Sum.elim (fun _ => l0) (fun _ => l1)) := by
      funext l s'
      refine propext ⟨?_, ?_⟩
      · rintro (⟨rfl, j, h2⟩ | ⟨rfl, j, h2⟩)
        · exact ⟨.inl j, rfl, h2⟩
        · exact ⟨.inr j, rfl, h2⟩
      · rintro ⟨j | j, h0, h2⟩
        · exact .inl ⟨h0.symm, j, h2⟩
        · exact .inr ⟨h0.symm, j, h2⟩
    have := first fun j s' hh => by rw [e]; exact cut (.inl j) s' hh
    rw [e] at this
    exact this
end
end Go.PL

namespace Go.PL
open Go.RowKit
set_option linter.unusedVariables false

section
variable {P : Program} {ops : Array Oper} {md : Region.Mode}

/-- two operations that may change places if they may when both are carried out -/
theorem yield_swap' {s s1 s2 : St} {oi oj : Oper} (hap : oi.apart ops oj = true)
    (core : ∀ vi mi vj mj, StepM P oi s.eval s.m vi mi → StepM P oj s.eval mi vj mj → ∃ ma, StepM P oj s.eval s.m vj ma ∧ StepM P oi s.eval ma vi mj)
    (h1 : Yield P ops oi s s1) (h2 : Yield P ops oj s1 s2) : ∃ s1', Yield P ops oj s s1' ∧ Yield P ops oi s1' s2 := by
  obtain ⟨a1, a2, a3⟩ := Oper.apart_spec hap
  obtain ⟨d1, h1⟩ := h1
  obtain ⟨d2, h2⟩ := h2
  have n1 : s1.n = s.n := by rcases h1 with ⟨_, v, m', _, rfl⟩ | ⟨_, rfl⟩ <;> simp [put_n, St.with]
  rw [n1] at d2
  have ej : ∀ x ∈ oj.op.operands, s1.eval x = s.eval x := fun x hx => by
    rcases h1 with ⟨_, v, m', _, rfl⟩ | ⟨_, rfl⟩
    · rw [put_eval (looks_ops a1 x hx), with_eval]
    · rw [put_eval (looks_ops a1 x hx)]
  have gj : gd ops s1 oj = gd ops s oj := by
    rcases h1 with ⟨_, v, m', _, rfl⟩ | ⟨_, rfl⟩
    · exact put_gd a1
    · exact put_gd (m := s.m) a1
  have a2' : ∀ d, oj.dst = some d → oi.dst ≠ some d := fun d hd e => a2 d e hd
  rcases h1 with ⟨g1, vi, mi, st1, rfl⟩ | ⟨g1, rfl⟩
  · rcases h2 with ⟨g2, vj, mj, st2, rfl⟩ | ⟨g2, rfl⟩
    · rw [put_m] at st2
      have st2' : StepM P oj s.eval mi vj mj := stepM_congr ej st2
      obtain ⟨ma, sta, stb⟩ := core vi mi vj mj st1 st2'
      refine ⟨(s.with ma).put oj.dst vj, ⟨d2, .inl ⟨by rw [← gj]; exact g2, vj, ma, sta, rfl⟩⟩, by rw [put_n]; exact d1, .inl ⟨by rw [put_gd a3]; exact g1, vi, mj, ?_, ?_⟩⟩
      · rw [put_m]
        refine stepM_congr (fun x hx => ?_) stb
        rw [put_eval (looks_ops a3 x hx), with_eval]
      · rw [put_with, put_with, put_comm _ _ _ a2]; rfl
    · refine ⟨s.put oj.dst (.tup []), ⟨d2, .inr ⟨by rw [← gj]; exact g2, rfl⟩⟩, by rw [put_n]; exact d1, .inl ⟨by rw [show s.put oj.dst (.tup []) = (s.with s.m).put oj.dst (.tup []) from rfl, put_gd a3]; exact g1, vi, mi, ?_, ?_⟩⟩
      · rw [put_m]
        exact stepM_congr (fun x hx => by rw [put_eval (looks_ops a3 x hx)]) st1
      · rw [put_with, put_comm _ _ _ a2]
  · rcases h2 with ⟨g2, vj, mj, st2, rfl⟩ | ⟨g2, rfl⟩
    · rw [put_m] at st2
      refine ⟨(s.with mj).put oj.dst vj, ⟨d2, .inl ⟨by rw [← gj]; exact g2, vj, mj, stepM_congr ej st2, rfl⟩⟩, by rw [put_n]; exact d1, .inr ⟨by rw [put_gd a3]; exact g1, ?_⟩⟩
      rw [put_with, put_comm _ _ _ a2]
    · refine ⟨s.put oj.dst (.tup []), ⟨d2, .inr ⟨by rw [← gj]; exact g2, rfl⟩⟩, by rw [put_n]; exact d1, .inr ⟨by rw [show s.put oj.dst (.tup []) = (s.with s.m).put oj.dst (.tup []) from rfl, put_gd a3]; exact g1, ?_⟩⟩
      rw [put_comm _ _ _ a2]

theorem aStore_h {t : TypeId} {x v : PV} {m : Hp} {i : Nat} (hi : .b i ∉ x.dids) : ((aStore P t x v m).m).h i = m.h i ∨ ¬ (aStore P t x v m).ok := by
  unfold aStore
  cases x with
  | ptr id off =>
    have hne : id ≠ i := fun e => hi (by simp [PV.dids, e])
    cases hh : m.h id with
    | none => right; simp only [hh]; exact fun h => h
    | some cs => left; simp only [hh]; exact upd_ne _ _ hne
  | _ => exact .inr (fun h => h.elim)

theorem step_store {o : Oper} {t : TypeId} {y w : Operand} (ho : o.op = .store t y w) {ρ : Operand → PV} {m m' : Hp} {v : PV} (h : StepM P o ρ m v m') : ∀ i, .b i ∉ (ρ y).dids → m'.h i = m.h i := by
  rcases h with ⟨h1, h2, h3⟩ | ⟨c, g, args, hc, _⟩
  · intro i hi
    have hop : aop P o ρ m = if tkn P t then aStore P t (ρ y) (ρ w) m else .fail := by unfold aop; rw [ho]
    rw [h3]
    rw [hop] at h1 ⊢
    split at h1
    · rename_i hk
      simp only [hk, if_true] at h1 ⊢
      rcases aStore_h (P := P) (t := t) (x := ρ y) (v := ρ w) (m := m) hi with h | h
      · exact h
      · exact absurd h1 h
    · exact h1.elim
  · rw [ho] at hc; cases hc

theorem step_load {o : Oper} {t : TypeId} {x : Operand} (ho : o.op = .load t x) {ρ : Operand → PV} {m m' : Hp} {v : PV} (h : StepM P o ρ m v m') :
    m' = m ∧ ∀ m2 : Hp, (∀ i, .b i ∈ (ρ x).dids → m2.h i = m.h i) → StepM P o ρ m2 v m2 := by
  rcases h with ⟨h1, h2, h3⟩ | ⟨c, g, args, hc, _⟩
  · have hop : ∀ m, aop P o ρ m = if tkn P t then aLoad P t (ρ x) m else .fail := fun m => by unfold aop; rw [ho]
    have key : ∀ m2 : Hp, (∀ i, .b i ∈ (ρ x).dids → m2.h i = m.h i) → (aop P o ρ m).m = m ∧ (aop P o ρ m2).ok ∧ (aop P o ρ m2).v = (aop P o ρ m).v ∧ (aop P o ρ m2).m = m2 := by
      intro m2 hm2
      rw [hop] at h1 ⊢
      rw [hop]
      split at h1
      · rename_i hk
        simp only [hk, if_true]
        revert h1
        unfold aLoad
        cases hx : ρ x with
        | rptr cs => exact fun h => ⟨rfl, h, rfl, rfl⟩
        | ptr id off =>
          have := hm2 id (by rw [hx]; simp [PV.dids])
          simp only [this]
          cases m.h id with
          | none => exact fun h => h.elim
          | some cs => exact fun h => ⟨rfl, h, rfl, rfl⟩
        | _ => exact fun h => h.elim
      · exact h1.elim
    refine ⟨by rw [h3]; exact (key m fun _ _ => rfl).1, fun m2 hm2 => ?_⟩
    obtain ⟨_, g1, g2, g3⟩ := key m2 hm2
    exact .inl ⟨g1, by rw [g2]; exact h2, g3.symm⟩
  · rw [ho] at hc; cases hc

/-- a load and a store elsewhere -/
theorem core_ls {s : St} {oi oj : Oper} {t u : TypeId} {x y w : Operand} (hi : oi.op = .load t x) (hj : oj.op = .store u y w) (hd : ∀ r ∈ (s.eval x).dids, r ∉ (s.eval y).dids) :
    ∀ vi mi vj mj, StepM P oi s.eval s.m vi mi → StepM P oj s.eval mi vj mj → ∃ ma, StepM P oj s.eval s.m vj ma ∧ StepM P oi s.eval ma vi mj := by
  intro vi mi vj mj st1 st2
  obtain ⟨e, h⟩ := step_load hi st1
  subst e
  exact ⟨mj, st2, h mj fun i hi => step_store hj st2 i (hd _ hi)⟩
theorem core_sl {s : St} {oi oj : Oper} {t u : TypeId} {x y w : Operand} (hi : oi.op = .store u y w) (hj : oj.op = .load t x) (hd : ∀ r ∈ (s.eval x).dids, r ∉ (s.eval y).dids) :
    ∀ vi mi vj mj, StepM P oi s.eval s.m vi mi → StepM P oj s.eval mi vj mj → ∃ ma, StepM P oj s.eval s.m vj ma ∧ StepM P oi s.eval ma vi mj := by
  intro vi mi vj mj st1 st2
  obtain ⟨e, h⟩ := step_load hj st2
  subst e
  exact ⟨s.m, h s.m fun i hi' => (step_store hi st1 i (hd _ hi')).symm, st1⟩

/-! ### Where an address comes from, by the text -/
def isDst (ops : Array Oper) (t : Nat) : Bool := ops.toList.any fun o => o.dst == some t
/-- the slot behind an address that a fieldAddr makes -/
def adrOf (o : Oper) : Option Nat := match o.op with | .fieldAddr _ (.tmp x) _ => some x | _ => none
def rootOf (ops : Array Oper) : Nat → Nat → Nat
  | 0, t => t
  | n + 1, t => match ops.toList.find? (fun o => o.dst == some t) with
    | some o => match adrOf o with | some x => rootOf ops n x | none => t
    | none => t
/-- the slot is from outside, or made by a fieldAddr ahead of the operation -/
def srcOk (md : Region.Mode) (ops : Array Oper) (root : Nat → Nat) (o : Oper) (x : Nat) : Bool :=
  (!isDst ops x && root x == x) || o.after.any fun e => Region.binds md e && match ops[e.on]? with
    | some o' => o'.dst == some x && match adrOf o' with | some x' => root x' == root x | none => false
    | none => false
def adrOk (md : Region.Mode) (ops : Array Oper) (root : Nat → Nat) : Bool := ops.toList.all fun o => match adrOf o with | some x => srcOk md ops root o x | none => true
def onceB : List Oper → Bool
  | [] => true
  | o :: l => (match o.dst with | some d => l.all fun o' => o'.dst != some d | none => true) && onceB l

structure Good (ops : Array Oper) (root : Nat → Nat) (s0 : St) (listed : Array Bool) (s : St) : Prop where
  ext : ∀ t, isDst ops t = false → s.fr t = s0.fr t
  adr : ∀ k o d x, ops[k]? = some o → adrOf o = some x → o.dst = some d → listed.getD k false = true → ∀ r ∈ (s.fr d).dids, r ∈ (s0.fr (root x)).dids

theorem Good.src {root : Nat → Nat} {s0 s : St} {listed : Array Bool} (g : Good ops root s0 listed s) {k : Nat} {o : Oper} {x : Nat} (ho : ops[k]? = some o) (hr : k ∈ Region.ready md ops listed) (hs : srcOk md ops root o x = true) :
    ∀ r ∈ (s.fr x).dids, r ∈ (s0.fr (root x)).dids := by
  simp only [srcOk, Bool.or_eq_true, Bool.and_eq_true, Bool.not_eq_true', beq_iff_eq] at hs
  rcases hs with ⟨h1, h2⟩ | h
  · rw [g.ext x h1, h2]; exact fun r hr => hr
  · obtain ⟨e, he, hb⟩ := Array.any_eq_true'.1 h
    simp only [Bool.and_eq_true] at hb
    obtain ⟨hb, hm⟩ := hb
    obtain ⟨_, o1, ho1, hall⟩ := mem_ready.1 hr
    rw [ho] at ho1; cases ho1
    have hl := hall e he hb
    cases ho' : ops[e.on]? with
    | none => rw [ho'] at hm; cases hm
    | some o' =>
      rw [ho'] at hm
      simp only [Bool.and_eq_true, beq_iff_eq] at hm
      obtain ⟨hd, hm⟩ := hm
      cases ha : adrOf o' with
      | none => rw [ha] at hm; cases hm
      | some x' =>
        rw [ha] at hm
        simp only [beq_iff_eq] at hm
        rw [← hm]
        exact g.adr e.on o' x x' ho' ha hd hl

theorem isDst_of {k : Nat} {o : Oper} {d : Nat} (ho : ops[k]? = some o) (hd : o.dst = some d) : isDst ops d = true := by
  unfold isDst
  rw [List.any_eq_true]
  obtain ⟨hk, rfl⟩ := Array.getElem?_eq_some_iff.1 ho
  exact ⟨ops[k], by simp, by simp [hd]⟩

theorem onceB_spec : ∀ {l : List Oper}, onceB l = true → ∀ (i j : Nat) (oi oj : Oper) (d : Nat), l[i]? = some oi → l[j]? = some oj → oi.dst = some d → oj.dst = some d → i = j
  | [], _, i, j, oi, oj, d, h, _, _, _ => by simp at h
  | o :: l, hB, i, j, oi, oj, d, hi, hj, di, dj => by
    simp only [onceB, Bool.and_eq_true] at hB
    obtain ⟨h1, h2⟩ := hB
    cases i with
    | zero =>
      cases j with
      | zero => rfl
      | succ j =>
        simp only [List.getElem?_cons_zero, Option.some.injEq] at hi
        simp only [List.getElem?_cons_succ] at hj
        subst hi
        rw [di] at h1
        have := List.all_eq_true.1 h1 oj (List.mem_of_getElem? hj)
        simp [dj] at this
    | succ i =>
      cases j with
      | zero =>
        simp only [List.getElem?_cons_zero, Option.some.injEq] at hj
        simp only [List.getElem?_cons_succ] at hi
        subst hj
        rw [dj] at h1
        have := List.all_eq_true.1 h1 oi (List.mem_of_getElem? hi)
        simp [di] at this
      | succ j =>
        simp only [List.getElem?_cons_succ] at hi hj
        rw [onceB_spec h2 i j oi oj d hi hj di dj]

theorem adr_step {o : Oper} {x : Nat} (ha : adrOf o = some x) {ρ : Operand → PV} {m m' : Hp} {v : PV} (h : StepM P o ρ m v m') : ∀ r ∈ v.dids, r ∈ (ρ (.tmp x)).dids := by
  unfold adrOf at ha
  split at ha
  · rename_i t y f heq
    cases ha
    rcases h with ⟨h1, h2, h3⟩ | ⟨c, g, args, hc, _⟩
    · rw [h2]
      have hop : aop P o ρ m = aFieldAddr P t (ρ (.tmp x)) f m := by unfold aop; rw [heq]
      rw [hop]
      exact v_fieldAddr
    · rw [heq] at hc; cases hc
  · cases ha

theorem Good.next {root : Nat → Nat} {s0 s s' : St} {listed : Array Bool} (g : Good ops root s0 listed s) (h1 : adrOk md ops root = true) (h2 : onceB ops.toList = true) {k : Nat} {o : Oper} (ho : ops[k]? = some o)
    (hr : k ∈ Region.ready md ops listed) (hy : Yield P ops o s s') : Good ops root s0 (listed.setIfInBounds k true) s' := by
  have hfr : ∀ t, o.dst ≠ some t → s'.fr t = s.fr t := fun t ht => by
    obtain ⟨_, hy⟩ := hy
    rcases hy with ⟨_, v, m', _, rfl⟩ | ⟨_, rfl⟩
    · rw [put_fr ht]; rfl
    · rw [put_fr ht]
  refine ⟨fun t ht => ?_, fun k2 o2 d x ho2 ha hd hl r hr' => ?_⟩
  · rw [hfr t (fun e => by rw [isDst_of ho e] at ht; cases ht), g.ext t ht]
  · by_cases hk : k = k2
    · subst hk
      rw [ho] at ho2; cases ho2
      have hs : srcOk md ops root o x = true := by
        have := List.all_eq_true.1 h1 o (by obtain ⟨hk, rfl⟩ := Array.getElem?_eq_some_iff.1 ho; simp)
        rw [ha] at this; exact this
      obtain ⟨_, hy⟩ := hy
      rcases hy with ⟨_, v, m', st, rfl⟩ | ⟨_, rfl⟩
      · have hv : ((s.with m').put o.dst v).fr d = v := by rw [hd]; simp [St.put, upd]
        rw [hv] at hr'
        exact g.src ho hr hs r (adr_step ha st r hr')
      · have hv : (s.put o.dst (.tup [])).fr d = .tup [] := by rw [hd]; simp [St.put, upd]
        rw [hv] at hr'
        simp [PV.dids, PV.didsL] at hr'
    · rw [getD_set_ne false hk] at hl
      have hne : o.dst ≠ some d := fun e => hk (onceB_spec h2 k k2 o o2 d (by simpa using ho) (by simpa using ho2) e hd)
      rw [hfr d hne] at hr'
      exact g.adr k2 o2 d x ho2 ha hd hl r hr'

/-- a load and a store whose addresses come from slots that are told apart -/
def lsB (md : Region.Mode) (ops : Array Oper) (root : Nat → Nat) (D : List (Nat × Nat)) (a b : Oper) : Bool :=
  match a.op, b.op with
  | .load _ (.tmp x), .store _ (.tmp y) _ => srcOk md ops root a x && srcOk md ops root b y && D.contains (root x, root y)
  | .store _ (.tmp y) _, .load _ (.tmp x) => srcOk md ops root b x && srcOk md ops root a y && D.contains (root x, root y)
  | _, _ => false

theorem swap_ls {root : Nat → Nat} {D : List (Nat × Nat)} {s0 s s1 s2 : St} {listed : Array Bool} {i j : Nat} {oi oj : Oper} (hD : ∀ p ∈ D, ∀ r ∈ (s0.fr p.1).dids, r ∉ (s0.fr p.2).dids) (g : Good ops root s0 listed s)
    (hoi : ops[i]? = some oi) (hoj : ops[j]? = some oj) (ri : i ∈ Region.ready md ops listed) (rj : j ∈ Region.ready md ops listed)
    (hap : oi.apart ops oj = true) (hls : lsB md ops root D oi oj = true) (h1 : Yield P ops oi s s1) (h2 : Yield P ops oj s1 s2) : ∃ s1', Yield P ops oj s s1' ∧ Yield P ops oi s1' s2 := by
  unfold lsB at hls
  split at hls
  · rename_i t x u y w e1 e2
    simp only [Bool.and_eq_true] at hls
    obtain ⟨⟨ha, hb⟩, hc⟩ := hls
    refine yield_swap' hap (core_ls e1 e2 fun r hr hr' => ?_) h1 h2
    exact hD _ (List.contains_iff_mem.1 hc) r (g.src hoi ri ha r hr) (g.src hoj rj hb r hr')
  · rename_i u y w t x e1 e2
    simp only [Bool.and_eq_true] at hls
    obtain ⟨⟨ha, hb⟩, hc⟩ := hls
    refine yield_swap' hap (core_sl e1 e2 fun r hr hr' => ?_) h1 h2
    exact hD _ (List.contains_iff_mem.1 hc) r (g.src hoj rj ha r hr) (g.src hoi ri hb r hr')
  · cases hls

theorem anyS_first {root : Nat → Nat} {D : List (Nat × Nat)} {s0 : St} (hD : ∀ p ∈ D, ∀ r ∈ (s0.fr p.1).dids, r ∉ (s0.fr p.2).dids) (k1 : adrOk md ops root = true) (k2 : onceB ops.toList = true) {K : St → Prop} {i : Nat} {oi : Oper} (hi : ops[i]? = some oi) :
    ∀ (fuel : Nat) (listed : Array Bool) (s s1 : St), RefsD s → Good ops root s0 listed s →
      (∀ j oj, ops[j]? = some oj → j ≠ i → listed.getD j true = false → (∀ e ∈ oj.after, Region.binds md e = true → e.on ≠ i) → oi.apart ops oj = true ∧ (compat oi.op oj.op = true ∨ lsB md ops root D oi oj = true)) →
      i ∈ Region.ready md ops listed → Yield P ops oi s s1 →
      anyA P md ops K fuel (listed.setIfInBounds i true) s1 → anyA P md ops K (fuel + 1) listed s := by
  intro fuel
  induction fuel with
  | zero =>
    intro listed s s1 hR _ _ hr hy H
    refine ⟨fun h => (by rw [h] at hr; cases hr), fun j hj => ?_⟩
    by_cases hji : j = i
    · subst hji; exact ⟨oi, s1, hi, hy, H⟩
    · have := ready_mono hj hji
      rw [H.1] at this
      cases this
  | succ fuel ih =>
    intro listed s s1 hR hG hfree hr hy H
    refine ⟨fun h => (by rw [h] at hr; cases hr), fun j hj => ?_⟩
    by_cases hji : j = i
    · subst hji; exact ⟨oi, s1, hi, hy, H⟩
    · obtain ⟨oj, s2, hoj, hy2, h1⟩ := H.2 j (ready_mono hj hji)
      obtain ⟨hjun, oj', hoj', hall⟩ := mem_ready.1 hj
      rw [hoj] at hoj'; cases hoj'
      have hnot : ∀ e ∈ oj.after, Region.binds md e = true → e.on ≠ i := fun e he hb heq => by
        have h1 := hall e he hb
        have h0 := (mem_ready.1 hr).1
        rw [heq] at h1
        rcases Nat.lt_or_ge i listed.size with h' | h'
        · simp [h'] at h0 h1; rw [h0] at h1; cases h1
        · simp [Array.getElem?_eq_none h'] at h1
      obtain ⟨hap, hcp⟩ := hfree j oj hoj hji hjun hnot
      obtain ⟨s1', hya, hyb⟩ : ∃ s1', Yield P ops oj s s1' ∧ Yield P ops oi s1' s2 := by
        rcases hcp with hcp | hls
        · exact yield_swap hR.refs hap hcp hy hy2
        · exact swap_ls hD hG hi hoj hr hj hap hls hy hy2
      have hfree' : ∀ k ok, ops[k]? = some ok → k ≠ i → (listed.setIfInBounds j true).getD k true = false →
          (∀ e ∈ ok.after, Region.binds md e = true → e.on ≠ i) → oi.apart ops ok = true ∧ (compat oi.op ok.op = true ∨ lsB md ops root D oi ok = true) := fun k ok hk hki hun hno => by
        refine hfree k ok hk hki ?_ hno
        by_cases hjk : j = k
        · subst hjk; exact hjun
        · rw [getD_set_ne true hjk] at hun; exact hun
      refine ⟨oj, s1', hoj, hya, ih (listed.setIfInBounds j true) s1' s2 (refs_yield hR hya) (hG.next k1 k2 hoj hj hya) hfree' (ready_mono hr (Ne.symm hji)) hyb ?_⟩
      rw [Array.setIfInBounds_comm _ _ hji]
      exact h1

def freeS (md : Region.Mode) (ops : Array Oper) (root : Nat → Nat) (D : List (Nat × Nat)) (listed : Array Bool) (i : Nat) : Bool :=
  match ops[i]? with
  | none => false
  | some oi => (List.range ops.size).all fun j => j == i || listed.getD j true || match ops[j]? with
      | some oj => oj.after.any (fun e => Region.binds md e && e.on == i) || (oi.apart ops oj && (compat oi.op oj.op || lsB md ops root D oi oj))
      | none => true

theorem freeS_spec {root : Nat → Nat} {D : List (Nat × Nat)} {i : Nat} {oi : Oper} {listed : Array Bool} (hi : ops[i]? = some oi) (h : freeS md ops root D listed i = true) (j : Nat) (oj : Oper)
    (hj : ops[j]? = some oj) (hne : j ≠ i) (hun : listed.getD j true = false) (hno : ∀ e ∈ oj.after, Region.binds md e = true → e.on ≠ i) :
    oi.apart ops oj = true ∧ (compat oi.op oj.op = true ∨ lsB md ops root D oi oj = true) := by
  simp only [freeS, hi, List.all_eq_true, List.mem_range] at h
  have h1 := h j (Array.getElem?_eq_some_iff.1 hj).1
  simp only [hj, Bool.or_eq_true, beq_iff_eq, hne, false_or, hun, Bool.false_eq_true] at h1
  rcases h1 with h1 | h1
  · obtain ⟨e, he, hb⟩ := Array.any_eq_true'.1 h1
    simp only [Bool.and_eq_true, beq_iff_eq] at hb
    exact absurd hb.2 (hno e he hb.1)
  · simpa using h1

def lexFromS (md : Region.Mode) (ops : Array Oper) (root : Nat → Nat) (D : List (Nat × Nat)) : Nat → Nat → Array Bool → Bool
  | 0, _, listed => (Region.ready md ops listed).isEmpty
  | fuel + 1, k, listed => (Region.ready md ops listed).contains k && freeS md ops root D listed k && lexFromS md ops root D fuel (k + 1) (listed.setIfInBounds k true)

/-- ONE WALK OF THE TEXT'S ORDER SERVES EVERY ORDER, where the stores go elsewhere than the loads -/
def drawSB (D : List (Nat × Nat)) (ops : Array Oper) : Bool :=
  lexFromS .any ops (rootOf ops ops.size) D ops.size 0 (Array.replicate ops.size false) && (adrOk .any ops (rootOf ops ops.size) && onceB ops.toList)

theorem anyS_lex {root : Nat → Nat} {D : List (Nat × Nat)} {s0 : St} (hD : ∀ p ∈ D, ∀ r ∈ (s0.fr p.1).dids, r ∉ (s0.fr p.2).dids) (k1 : adrOk md ops root = true) (k2 : onceB ops.toList = true) {K : St → Prop} :
    ∀ (l : List Oper) (k : Nat) (listed : Array Bool) (s : St), RefsD s → Good ops root s0 listed s → (∀ j, l[j]? = ops[k + j]?) →
    lexFromS md ops root D l.length k listed = true → lexA P ops K l s → anyA P md ops K l.length listed s
  | [], _, _, _, _, _, _, hB, h => ⟨by simpa [lexFromS] using hB, h⟩
  | o :: l, k, listed, s, hR, hG, hl, hB, h => by
    have h0 : ops[k]? = some o := by simpa using (hl 0).symm
    simp only [List.length_cons, lexFromS, Bool.and_eq_true] at hB
    obtain ⟨⟨hr, hf⟩, hB'⟩ := hB
    obtain ⟨hd, h⟩ := h
    have hr' : k ∈ Region.ready md ops listed := by simpa using hr
    have hl' : ∀ j, l[j]? = ops[(k + 1) + j]? := fun j => by have := hl (j + 1); simpa [Nat.add_assoc, Nat.add_comm 1 j] using this
    rcases h with ⟨hg, v, m', hst, hrest⟩ | ⟨hg, hrest⟩
    · have hy : Yield P ops o s ((s.with m').put o.dst v) := ⟨hd, .inl ⟨hg, v, m', hst, rfl⟩⟩
      exact anyS_first hD k1 k2 h0 l.length listed s _ hR hG (freeS_spec h0 hf) hr' hy (anyS_lex hD k1 k2 l (k + 1) _ _ (refs_yield hR hy) (hG.next k1 k2 h0 hr' hy) hl' hB' hrest)
    · have hy : Yield P ops o s (s.put o.dst (.tup [])) := ⟨hd, .inr ⟨hg, rfl⟩⟩
      exact anyS_first hD k1 k2 h0 l.length listed s _ hR hG (freeS_spec h0 hf) hr' hy (anyS_lex hD k1 k2 l (k + 1) _ _ (refs_yield hR hy) (hG.next k1 k2 h0 hr' hy) hl' hB' hrest)

def apartB (s : St) (D : List (Nat × Nat)) : Bool := D.all fun p => (s.fr p.1).dids.all fun r => !((s.fr p.2).dids.contains r)

theorem awp_drawS {id : Nat} {Q : Exit → St → Prop} {s : St} (D : List (Nat × Nat)) (hm : P.follows .mixedOrders = true) (hB : drawSB D ops = true) (hD : apartB s D = true) (h : lexA P ops (Q .normal) ops.toList s) : awp P (.region id ops true) Q s := fun B S M a w hs => by
  refine wp_region_any hm ?_
  have he : Ext B S S w { w with drawn := w.drawn + 1 } := ⟨SLe.refl _, fun _ _ => ⟨fun _ => rfl, rfl⟩, (BelowF.refl B w).drew⟩
  have hs' : Sim B S M s a { w with drawn := w.drawn + 1 } := hs.world rfl
  simp only [drawSB, Bool.and_eq_true] at hB
  obtain ⟨hB, k1, k2⟩ := hB
  have hD' : ∀ p ∈ D, ∀ r ∈ (s.fr p.1).dids, r ∉ (s.fr p.2).dids := fun p hp r hr hr' => by
    have := List.all_eq_true.1 (List.all_eq_true.1 hD p hp) r hr
    simp only [Bool.not_eq_true', List.contains_eq_mem, decide_eq_false_iff_not] at this
    exact this hr'
  have hG : Good ops (rootOf ops ops.size) s (Array.replicate ops.size false) s := ⟨fun _ _ => rfl, fun k o d x hk _ _ hl => by
    exfalso
    simp only [Array.getD_eq_getD_getElem?, Array.getElem?_replicate] at hl
    split at hl <;> simp at hl⟩
  have := anyS_lex (P := P) (K := Q .normal) (md := .any) hD' k1 k2 ops.toList 0 (Array.replicate ops.size false) s hs.refsD hG (by simp) (by simpa using hB) h
  have := any_sound (B := B) (S0 := S) (w0 := w) (Qc := fun e a' w' => ∃ s' S' M', Q e s' ∧ Sim B S' M' s' a' w' ∧ Ext B S S' w w') (fun s' S' M' a' w' h1 h2 h3 => ⟨s', S', M', h1, h2, h3⟩) _ _ s this S M a _ hs' he
  simpa using this

theorem vDrawS {id : Nat} {l : List Oper} {Q : Exit → St → Prop} {s : St} (D : List (Nat × Nat)) (hm : P.follows .mixedOrders = true) (hB : drawSB D l.toArray = true) (hD : apartB s D = true) (h : @vA P false ⟨@vQ ⟨Q⟩ .normal⟩ ⟨l⟩ ⟨l⟩ s) : awp P (.region id l.toArray true) Q s :=
  awp_drawS D hm hB hD (by rw [List.toList_toArray]; exact vcA_lex l s h)
end
end Go.PL

namespace Go.PL
open Go.RowKit
set_option linter.unusedVariables false
section
variable {P : Program} {s : St} {Q : Exit → St → Prop}

/-- a state of which just these slots, blocks, rows, maps and walks are told -/
def mkStO (n : Nat) (L : List (Nat × PV)) (H : List (Nat × List PV × Bool)) (R : List (Nat × Row)) (O : List (Nat × MapC)) (I : List (Nat × IterC)) : St :=
  { fr := upds L fun _ => .any, m := { h := upds (H.map fun x => (x.1, some x.2.1)) fun _ => none, z := upds (H.map fun x => (x.1, x.2.2)) fun _ => false, q := upds (R.map fun x => (x.1, some x.2)) fun _ => none, o := upds (O.map fun x => (x.1, some x.2)) fun _ => none, it := upds (I.map fun x => (x.1, some x.2)) fun _ => none }, n := n }
structure HasO (n : Nat) (L : List (Nat × PV)) (H : List (Nat × List PV × Bool)) (R : List (Nat × Row)) (O : List (Nat × MapC)) (I : List (Nat × IterC)) (s : St) : Prop where
  b : Has n L H R s
  o : ∀ x ∈ O, s.m.o x.1 = some x.2
  it : ∀ x ∈ I, s.m.it x.1 = some x.2
theorem upds_weak {α : Type} (O : List (Nat × α)) (f : Nat → Option α) (h : ∀ x ∈ O, f x.1 = some x.2) (i : Nat) : upds (O.map fun x => (x.1, some x.2)) (fun _ => none) i = none ∨ upds (O.map fun x => (x.1, some x.2)) (fun _ => none) i = f i := by
  have m1 : (O.map fun x => (x.1, some x.2)).map (·.1) = O.map (·.1) := by simp
  by_cases hi : (O.map (·.1)).contains i = true
  · right
    refine upds_all (R := fun i v => v = f i) (fun x hx => ?_) (by rw [m1]; exact hi)
    obtain ⟨y, hy, rfl⟩ := List.mem_map.1 hx; exact (h y hy).symm
  · exact .inl (upds_ne (by rw [m1]; simpa using hi))
theorem HasO.weak {n : Nat} {L : List (Nat × PV)} {H : List (Nat × List PV × Bool)} {R : List (Nat × Row)} {O : List (Nat × MapC)} {I : List (Nat × IterC)} (h : HasO n L H R O I s) : Weak (mkStO n L H R O I) s :=
  ⟨h.b.weak.n, h.b.weak.fr, h.b.weak.h, h.b.weak.q, upds_weak O s.m.o h.o, upds_weak I s.m.it h.it⟩
theorem Refs.mkStO {n : Nat} {L : List (Nat × PV)} {H : List (Nat × List PV × Bool)} {R : List (Nat × Row)} {O : List (Nat × MapC)} {I : List (Nat × IterC)} (h : toldB L H R) : Refs (mkStO n L H R O I) := by
  have k := Refs.mkSt (n := n) h
  have lv : ∀ r, Live (PL.mkSt n L H R).m r → Live (PL.mkStO n L H R O I).m r := fun r hr => by cases r <;> exact hr
  exact ⟨fun i r hr => lv r (k.fr i r hr), fun i cs hi c hc r hr => lv r (k.h i cs hi c hc r hr)⟩

def NextO {ι : Type} (n : Nat) (L : ι → List (Nat × PV)) (H : ι → List (Nat × List PV × Bool)) (R : ι → List (Nat × Row)) (O : ι → List (Nat × MapC)) (I : ι → List (Nat × IterC)) (μ : ι → Nat) (i : ι) (s' : St) : Prop := ∃ j, μ j < μ i ∧ HasO n (L j) (H j) (R j) (O j) (I j) s'
def SomeO {ι : Type} (n : Nat) (L : ι → List (Nat × PV)) (H : ι → List (Nat × List PV × Bool)) (R : ι → List (Nat × Row)) (O : ι → List (Nat × MapC)) (I : ι → List (Nat × IterC)) (s' : St) : Prop := ∃ j, HasO n (L j) (H j) (R j) (O j) (I j) s'

/-- A LOOP, by what is told at its head, of maps too -/
theorem vLoopO {c : Code} {ι : Type} (n : Nat) (L : ι → List (Nat × PV)) (H : ι → List (Nat × List PV × Bool)) (R : ι → List (Nat × Row)) (O : ι → List (Nat × MapC)) (I : ι → List (Nat × IterC)) (μ : ι → Nat) (i0 : ι)
    (h0 : HasO n (L i0) (H i0) (R i0) (O i0) (I i0) s) (hr : ∀ i, toldB (L i) (H i) (R i))
    (round : ∀ i, @vC P ⟨c⟩ ⟨thenQ (NextO n L H R O I μ i) Q⟩ (mkStO n (L i) (H i) (R i) (O i) (I i))) : awp P (.loop c) Q s :=
  awp_loop_gen (fun i => mkStO n (L i) (H i) (R i) (O i) (I i)) μ i0 h0.weak (fun _ i => Refs.mkStO (hr i)) fun i => awp_mono (fun e s' h => by
    cases e with
    | normal => obtain ⟨j, hj, hm⟩ := h; exact ⟨j, hj, hm.weak⟩
    | _ => exact h) (vc_sound _ _ _ (round i))

/-- A SCOPE WITH ONE LABEL, by what is told there, of maps too -/
theorem vScopeO {c : Code} {ι : Type} (n : Nat) (L : ι → List (Nat × PV)) (H : ι → List (Nat × List PV × Bool)) (R : ι → List (Nat × Row)) (O : ι → List (Nat × MapC)) (I : ι → List (Nat × IterC)) (μ : ι → Nat) (l : Nat) (z : Code) (hf : findLabel c l = some (.seq .skip z)) (hr : ∀ i, toldB (L i) (H i) (R i))
    (pass : ∀ i, @vC P ⟨z⟩ ⟨gotoQ (gotoJ l (NextO n L H R O I μ i)) Q⟩ (mkStO n (L i) (H i) (R i) (O i) (I i)))
    (first : (∀ j s', HasO n (L j) (H j) (R j) (O j) (I j) s' → awp P z (gotoQ (gotoJ l (SomeO n L H R O I)) Q) s') → @vC P ⟨c⟩ ⟨gotoQ (gotoJ l (SomeO n L H R O I)) Q⟩ s) : awp P (.scope c) Q s := by
  have sk : ∀ {Q : Exit → St → Prop} {s : St}, awp P z Q s → awp P (.seq .skip z) Q s := fun h => awp_seq (awp_skip h)
  have passA : ∀ i, awp P (.seq .skip z) (gotoQ (fun l' s' => ∃ j, l = l' ∧ μ j < μ i ∧ Weak (mkStO n (L j) (H j) (R j) (O j) (I j)) s') Q) (mkStO n (L i) (H i) (R i) (O i) (I i)) := fun i =>
    sk (awp_mono (fun e s' h => by
      cases e with
      | goto l' => obtain ⟨rfl, j, hj, hm⟩ := h; exact ⟨j, rfl, hj, hm.weak⟩
      | _ => exact h) (vc_sound _ _ _ (pass i)))
  refine awp_scope (fun _ : ι => l) (fun _ => .seq .skip z) (fun i => mkStO n (L i) (H i) (R i) (O i) (I i)) μ (fun _ => hf) (fun _ i => Refs.mkStO (hr i)) (fun i _ => passA i) fun cut => ?_
  have key := first fun j s' hs' B S M a w hsim => by
    have hp := vc_sound _ _ _ (pass j) B S M a w (hsim.weak hs'.weak (Refs.mkStO (hr j)))
    refine wp_mono hp fun e a' w' ⟨s1, S1, M1, h1, h2, h3⟩ => ⟨s1, S1, M1, ?_, h2, h3⟩
    cases e with
    | goto l' => obtain ⟨e, j, _, hm⟩ := h1; exact ⟨e, j, hm⟩
    | _ => exact h1
  refine awp_mono (fun e s' h => ?_) (vc_sound _ _ _ key)
  cases e with
  | goto l' => obtain ⟨rfl, j, hm⟩ := h; exact ⟨j, rfl, hm.weak⟩
  | _ => exact h

/-- a row that a slot tells, told as a plain slice -/
theorem awp_plain {c : Code} (i d : Nat) (es : List PV) (hi : s.fr i = .sl (.row d) es) (h : awp P c Q { s with fr := upd s.fr i (.sl .no es) }) : awp P c Q s := fun B S M a w hs => by
  have hrow := hs.fr i
  rw [hi] at hrow
  have key : Rep S (a.tmps.getD i undef) (.sl .no es) := hrow.sl_inv
  refine h B S M a w ⟨hs.defers, hs.hn, hs.hB, hs.stable, fun k => ?_, fun k r hr => ?_, hs.blk, hs.row, hs.inj, hs.injq, hs.injx⟩
  · show RepS _ _ _ _ (upd s.fr i (.sl .no es) k)
    by_cases e : i = k
    · subst e; rw [upd_same]; exact .clean key
    · rw [upd_ne _ _ e]; exact hs.fr k
  · have hr' : r ∈ (upd s.fr i (.sl .no es) k).ids := hr
    by_cases e : i = k
    · subst e; rw [upd_same] at hr'; simp [PV.ids] at hr'
    · rw [upd_ne _ _ e] at hr'; exact hs.ids k r hr'

/-! ### how contracts with maps begin and end -/
def St.initO (args : List PV) (n b : Nat) (c : MapC) : St := ⟨initFr 0 args, ⟨fun _ => none, fun _ => false, fun _ => none, upd (fun _ => none) b (some c), fun _ => none⟩, n⟩
def wRetQ (P : Program) (rs : List ResultVar) (r : PV) (b : Nat) (c' : MapC) : Exit → St → Prop
  | .normal, s => vRet P r s [] rs ∧ s.m.o b = some c'
  | .ret, s => vRet P r s [] rs ∧ s.m.o b = some c'
  | _, _ => False
def sRetQ (P : Program) (rs : List ResultVar) (r : PV) : Exit → St → Prop
  | .normal, s => ∃ r', vRet P r' s [] rs ∧ r = r'.shut s.m.o
  | .ret, s => ∃ r', vRet P r' s [] rs ∧ r = r'.shut s.m.o
  | _, _ => False
def mRetQ (t : Nat) (r : Nat → PV) (c : MapC) : Exit → St → Prop
  | .ret, s => ∃ b id cs, s.fr t = .ptr id 0 ∧ s.m.h id = some cs ∧ PV.idsL cs = [] ∧ s.m.o b = some c ∧ r b = .rptr cs
  | _, _ => False
theorem vQ_wret_ret (rs : List ResultVar) (r : PV) (b : Nat) (c' : MapC) (s : St) : @vQ ⟨wRetQ P rs r b c'⟩ .ret s = (vRet P r s [] rs ∧ s.m.o b = some c') := rfl
theorem vQ_wret_normal (rs : List ResultVar) (r : PV) (b : Nat) (c' : MapC) (s : St) : @vQ ⟨wRetQ P rs r b c'⟩ .normal s = (vRet P r s [] rs ∧ s.m.o b = some c') := rfl
theorem vQ_sret_ret (rs : List ResultVar) (r : PV) (s : St) : @vQ ⟨sRetQ P rs r⟩ .ret s = ∃ r', vRet P r' s [] rs ∧ r = r'.shut s.m.o := rfl
theorem vQ_sret_normal (rs : List ResultVar) (r : PV) (s : St) : @vQ ⟨sRetQ P rs r⟩ .normal s = ∃ r', vRet P r' s [] rs ∧ r = r'.shut s.m.o := rfl
theorem vQ_mret_ret (t : Nat) (r : Nat → PV) (c : MapC) (s : St) : @vQ ⟨mRetQ t r c⟩ .ret s = ∃ b id cs, s.fr t = .ptr id 0 ∧ s.m.h id = some cs ∧ PV.idsL cs = [] ∧ s.m.o b = some c ∧ r b = .rptr cs := rfl

theorem init_rep {S : Stable} {vs : List Value} {args : List PV} {n : Nat} (hl : vs.length = args.length) (hr : ∀ i, i < args.length → Rep S (vs.getD i undef) (args.getD i .any)) (i : Nat) :
    Rep S (((⟨vs⟩ : Array Value) ++ Array.replicate (n - vs.length) undef).getD i undef) (initFr 0 args i) := by
  rw [initFr_getD args 0 i (Nat.zero_le _), Nat.sub_zero]
  by_cases hi : i < args.length
  · have := hr i hi
    rw [getD_lt hi] at this ⊢
    rw [getD_lt (by omega)] at this
    have e : ((⟨vs⟩ : Array Value) ++ Array.replicate (n - vs.length) undef).getD i undef = vs[i]'(by omega) := by
      rw [Array.getD_eq_getD_getElem?, Array.getElem?_append_left (by simp; omega)]
      simp [show i < vs.length by omega]
    rw [e]; exact this
  · rw [getD_ge (by omega)]
    have e : ((⟨vs⟩ : Array Value) ++ Array.replicate (n - vs.length) undef).getD i undef = undef := by
      rw [Array.getD_eq_getD_getElem?, Array.getElem?_append_right (by simp; omega)]
      simp only [Array.getElem?_replicate]
      split <;> rfl
    rw [e]
    exact .tup [] [] rfl (fun i hi => by simp at hi)
theorem sim_init {B : Frm} {S : Stable} {w : World} {vs : List Value} {args : List PV} {n : Nat} {o : Nat → Option MapC} (hn : args.length ≤ n) (hl : vs.length = args.length) (hr : ∀ i, i < args.length → Rep S (vs.getD i undef) (args.getD i .any))
    (hB : ∀ k, B k → k < w.heap.size) (hst : Stab B S w o (fun _ => none)) :
    Sim B S ⟨id, id, id⟩ ⟨initFr 0 args, ⟨fun _ => none, fun _ => false, fun _ => none, o, fun _ => none⟩, n⟩ { tmps := ⟨vs⟩ ++ Array.replicate (n - vs.length) undef, defers := [] } w := by
  refine ⟨rfl, ?_, hB, hst, fun i => .clean (init_rep hl hr i), fun i id hid => absurd hid ((init_rep (n := n) hl hr i).clean_ids id), fun id cs hid => ?_, fun id r hid => ?_, fun id id' cs cs' hid => ?_, fun id id' n sz e n' sz' e' hid => ?_, fun id id' cs n sz e hid => ?_⟩
  · simp; omega
  · simp at hid
  · simp at hid
  · simp at hid
  · simp at hid
  · simp at hid

theorem vRet_run {B : Frm} {S : Stable} {M : Maps} {s : St} {a : Act} {w : World} {fn : Func} {r : PV} {rs : List ResultVar} (hs : Sim B S M s a w) (hrs : fn.results = rs.toArray) (h : vRet P r s [] rs) : ∃ v, (results fn a.tmps).run P w = .ok v w ∧ Rep S v r := by
  obtain ⟨g1, g2, g3⟩ := vRet_retP (fn := fn) rs [] h
  have hl : fn.results.toList = rs := by rw [hrs]
  have g1' : allOk (fn.results.toList.map (resV P s)) := by rw [hl]; exact g1
  obtain ⟨v, hv, hrv⟩ := results_sound hs g1'
  rw [hl] at hrv
  refine ⟨v, hv, ?_⟩
  rw [g3]
  simp only [List.reverse_nil, List.nil_append] at g2 ⊢
  exact hrv.give hs g2

theorem Wr.of_v {f : FuncId} {fn : Func} {c : Code} {args : Nat → List PV} {r : PV} {n : Nat} {rs : List ResultVar} {mc mc' : MapC} (hf : P.funcs[f]? = some fn) (hname : fn.name ≠ "runtime.NumGoroutine") (hb : fn.body = some c) (hn : fn.ntmps = n) (hrs : fn.results = rs.toArray) (hl : ∀ b, (args b).length ≤ n) (hi : r.dids = [])
    (h : ∀ b, @vC P ⟨c⟩ ⟨wRetQ P rs r b mc'⟩ (St.initO (args b) n b mc)) : Wr P f args mc r mc' := by
  subst hn
  refine ⟨⟨fn, hf, hname, by rw [hb]; rfl⟩, hi, fun b w S vs hst hSb hmap hlen hr => ?_⟩
  refine calls_of_wp hf hb ?_
  have hs := sim_init (B := fun k => k < w.heap.size ∧ k ≠ b) (w := w) (n := fn.ntmps) (o := upd (fun _ => none) b (some mc)) (hl b) hlen hr (fun k hk => hk.1)
    ⟨hst, fun k d hd => (by
      by_cases e : b = k
      · subst e; rw [upd_same] at hd; cases hd; exact ⟨fun hh => hh.2 rfl, hSb, hmap⟩
      · rw [upd_ne _ _ e] at hd; cases hd), fun k x hx => (by cases hx)⟩
  have hsz : (⟨vs⟩ : Array Value).size = vs.length := by simp
  rw [hsz]
  refine wp_mono (vc_sound _ _ _ (h b) _ S _ _ w hs) fun e a' w' hq => ?_
  obtain ⟨s', S', M', h1, h2, h3⟩ := hq
  have fin : vRet P r s' [] rs ∧ s'.m.o b = some mc' → a'.defers = [] ∧ ∃ v, (results fn a'.tmps).run P w' = .ok v w' ∧ ∃ v' S', Ending.returned v = .returned v' ∧ Rep S' v' r ∧ StabS S' w' ∧ SLe S S' ∧ (∀ k, k < w.heap.size → k ≠ b → (∀ o, S' k o = S k o) ∧ S'.m k = S.m k) ∧ S'.m b = none ∧ MapAt S' w' b mc' ∧ BelowF (fun k => k < w.heap.size ∧ k ≠ b) w w' := by
    rintro ⟨g1, g2⟩
    obtain ⟨v, hv, hrv⟩ := vRet_run h2 hrs g1
    obtain ⟨_, k2, k3⟩ := h2.stable.o b mc' g2
    exact ⟨h2.defers, v, hv, v, S', rfl, hrv, h2.stable.s, h3.1, fun k hk hkb => h3.2.1 k ⟨hk, hkb⟩, k2, k3, h3.2.2⟩
  cases e with
  | normal => exact fin h1
  | ret => exact fin h1
  | _ => exact h1.elim

theorem Pure.of_vs {f : FuncId} {fn : Func} {c : Code} {args : List PV} {r : PV} {n : Nat} {rs : List ResultVar} (hf : P.funcs[f]? = some fn) (hname : fn.name ≠ "runtime.NumGoroutine") (hb : fn.body = some c) (hn : fn.ntmps = n) (hrs : fn.results = rs.toArray) (hl : args.length ≤ n) (hi : r.dids = [])
    (h : @vC P ⟨c⟩ ⟨sRetQ P rs r⟩ (St.init args n)) : Pure P f args r := by
  subst hn
  refine ⟨⟨fn, hf, hname, by rw [hb]; rfl⟩, hi, fun w S vs hst hlen hr => ?_⟩
  refine calls_of_wp hf hb ?_
  have hs := sim_init (B := fun k => k < w.heap.size) (w := w) (n := fn.ntmps) (o := fun _ => none) hl hlen hr (fun k hk => hk) ⟨hst, fun k d hd => (by cases hd), fun k x hx => (by cases hx)⟩
  have hsz : (⟨vs⟩ : Array Value).size = vs.length := by simp
  rw [hsz]
  refine wp_mono (vc_sound _ _ _ h _ S _ _ w hs) fun e a' w' hq => ?_
  obtain ⟨s', S', M', h1, h2, h3⟩ := hq
  have fin : (∃ r', vRet P r' s' [] rs ∧ r = r'.shut s'.m.o) → a'.defers = [] ∧ ∃ v, (results fn a'.tmps).run P w' = .ok v w' ∧ ∃ v' S', Ending.returned v = .returned v' ∧ Rep S' v' r ∧ StabS S' w' ∧ SLe S S' ∧ (∀ b, b < w.heap.size → (∀ o, S' b o = S b o) ∧ S'.m b = S.m b) ∧ Below w.heap.size w w' := by
    rintro ⟨r', g1, rfl⟩
    obtain ⟨v, hv, hrv⟩ := vRet_run h2 hrs g1
    refine ⟨h2.defers, v, hv, v, sealS S' w' s'.m.o, rfl, hrv.shut h2.stable, sealS_stab h2.stable, h3.1.trans (sealS_le h2.stable), fun k hk => ⟨(h3.2.1 k hk).1, ?_⟩, h3.2.2.to⟩
    rw [← (h3.2.1 k hk).2]
    cases ho : s'.m.o k with
    | none => simp [sealS, ho]
    | some d => exact absurd hk (h2.stable.o k d ho).1
  cases e with
  | normal => exact fin h1
  | ret => exact fin h1
  | _ => exact h1.elim

theorem Mk.of_v {f : FuncId} {fn : Func} {c : Code} {args : List PV} {r : Nat → PV} {n t : Nat} {mc : MapC} (hf : P.funcs[f]? = some fn) (hname : fn.name ≠ "runtime.NumGoroutine") (hb : fn.body = some c) (hn : fn.ntmps = n) (hrs : fn.results = #[.tmp t]) (hl : args.length ≤ n) (hi : ∀ b, (r b).dids = [])
    (h : @vC P ⟨c⟩ ⟨mRetQ t r mc⟩ (St.init args n)) : Mk P f args r mc := by
  subst hn
  refine ⟨⟨fn, hf, hname, by rw [hb]; rfl⟩, hi, fun w S vs hst hlen hr => ?_⟩
  refine calls_of_wp hf hb ?_
  have hs := sim_init (B := fun k => k < w.heap.size) (w := w) (n := fn.ntmps) (o := fun _ => none) hl hlen hr (fun k hk => hk) ⟨hst, fun k d hd => (by cases hd), fun k x hx => (by cases hx)⟩
  have hsz : (⟨vs⟩ : Array Value).size = vs.length := by simp
  rw [hsz]
  refine wp_mono (vc_sound _ _ _ h _ S _ _ w hs) fun e a' w' hq => ?_
  obtain ⟨s', S', M', h1, h2, h3⟩ := hq
  cases e with
  | ret =>
    obtain ⟨b, id, cs, g1, g2, g3, g4, g5⟩ := h1
    obtain ⟨S2, k1, k2⟩ := h2.freeze g2 g3
    have hgiv : (PV.ptr id 0).givable (s'.m.freeze id) := ⟨upd_same _ _ _, by show s'.m.h id ≠ none; rw [g2]; simp⟩
    have hfr := k1.fr t
    have hfr' : RepS S2 M' (s'.with (s'.m.freeze id)).m.q (a'.tmps.getD t undef) (.ptr id 0) := by
      have : (s'.with (s'.m.freeze id)).fr t = .ptr id 0 := g1
      rw [this] at hfr; exact hfr
    have hrep := hfr'.give k1 hgiv
    have hgive : (PV.ptr id 0).give (s'.m.freeze id) = .rptr cs := by
      have e1 : (s'.m.freeze id).z id = true := upd_same _ _ _
      have e2 : (s'.m.freeze id).h id = some cs := g2
      simp [PV.give, e1, e2]
    have hrep' : Rep S2 (a'.tmps.getD t undef) (r b) := by rw [g5, ← hgive]; exact hrep
    obtain ⟨q1, q2, q3⟩ := k1.stable.o b mc g4
    refine ⟨h2.defers, a'.tmps.getD t undef, ?_, a'.tmps.getD t undef, S2, b, rfl, Nat.not_lt.1 q1, hrep', k1.stable.s, h3.1.trans k2.1, fun k hk => ⟨fun o => ((k2.2.1 k hk).1 o).trans ((h3.2.1 k hk).1 o), (k2.2.1 k hk).2.trans (h3.2.1 k hk).2⟩, q2, q3, h3.2.2.to⟩
    simp [results, hrs]
  | _ => exact h1.elim

theorem RepS.row_inv {S : Stable} {M : Maps} {q : Rows} {v : Value} {id : Nat} {es : List PV} (r : RepS S M q v (.sl (.row id) es)) : Rep S v (.sl .no es) ∧
    ∀ n sz e, q id = some (.live n sz e) → es.length ≤ n ∧ (es.length = n → (M.κ id = 0 → v = .slice none 0 0) ∧ (∀ c, M.κ id = c + 1 → v = .slice (some ⟨M.ψ id, 0, none⟩) n c)) := by
  cases r with
  | row _ _ _ r t => exact ⟨r, t⟩
  | clean r => cases r
/-- how a function that hands on a row ends: the row, and one value more -/
def rwRetQ (t u : Nat) (es : List PV) (c : PV) (sz : Nat) (e : TypeId) : Exit → St → Prop
  | .ret, s => ∃ k, s.fr t = .sl (.row k) es ∧ s.m.q k = some (.live es.length sz e) ∧ s.fr u = c
  | _, _ => False
theorem vQ_rwret_ret (t u : Nat) (es : List PV) (c : PV) (sz : Nat) (e : TypeId) (s : St) : @vQ ⟨rwRetQ t u es c sz e⟩ .ret s = ∃ k, s.fr t = .sl (.row k) es ∧ s.m.q k = some (.live es.length sz e) ∧ s.fr u = c := rfl
theorem Rw.of_v {f : FuncId} {fn : Func} {co : Code} {args : List PV} {es : List PV} {c : PV} {n t u sz : Nat} {e : TypeId} (hf : P.funcs[f]? = some fn) (hname : fn.name ≠ "runtime.NumGoroutine") (hb : fn.body = some co) (hn : fn.ntmps = n) (hrs : fn.results = #[.tmp t, .tmp u]) (hl : args.length ≤ n) (hi : c.ids = [])
    (h : @vC P ⟨co⟩ ⟨rwRetQ t u es c sz e⟩ (St.init args n)) : Rw P f args (fun d => .tup [.sl (.row d) es, c]) es.length sz e := by
  subst hn
  refine ⟨⟨fn, hf, hname, by rw [hb]; rfl⟩, fun d i hi' => ?_, fun w S vs hst hlen hr => ?_⟩
  · simpa [PV.ids, PV.idsL, hi] using hi'
  refine calls_of_wp hf hb ?_
  have hs := sim_init (B := fun k => k < w.heap.size) (w := w) (n := fn.ntmps) (o := fun _ => none) hl hlen hr (fun k hk => hk) ⟨hst, fun k d hd => (by cases hd), fun k x hx => (by cases hx)⟩
  have hsz : (⟨vs⟩ : Array Value).size = vs.length := by simp
  rw [hsz]
  refine wp_mono (vc_sound _ _ _ h _ S _ _ w hs) fun en a' w' hq => ?_
  obtain ⟨s', S', M', h1, h2, h3⟩ := hq
  cases en with
  | ret =>
    obtain ⟨k, g1, g2, g3⟩ := h1
    have hrt := h2.fr t
    rw [g1] at hrt
    have hru := h2.fr u
    rw [g3] at hru
    have hcu : Rep S' (a'.tmps.getD u undef) c := hru.alone hi
    have hrow := h2.row k _ g2
    refine ⟨h2.defers, .tuple ⟨[a'.tmps.getD t undef, a'.tmps.getD u undef]⟩, ?_, .tuple ⟨[a'.tmps.getD t undef, a'.tmps.getD u undef]⟩, S', M'.κ k, M'.ψ k, rfl, fun d M q hκ hψ hq => ?_, hrow, h2.stable.s, h3.1, fun j hj => h3.2.1 j hj, h3.2.2.to⟩
    · simp [results, hrs]
    · refine .tup _ _ rfl fun i hi' => ?_
      match i, hi' with
      | 0, _ =>
        obtain ⟨rr, tt⟩ := hrt.row_inv
        refine .row d _ es rr fun n' sz' e' hq' => ?_
        rw [hq] at hq'
        cases hq'
        refine ⟨Nat.le_refl _, fun _ => ?_⟩
        rw [hκ, hψ]
        exact (tt _ _ _ g2).2 rfl
      | 1, _ => exact .clean hcu
  | _ => exact h1.elim
end
attribute [go_sem] vQ_rwret_ret
attribute [go_sem] vQ_wret_ret vQ_wret_normal vQ_sret_ret vQ_sret_normal vQ_mret_ret mkStO St.initO
end Go.PL
