/- A logic of values for functions that only read and build, over the model (part 8): no statement of the seat is proved here. -/
import Derived.Test.YtmnibpgmcgdfpaaPlG
import GoSem.ClaimChange
import Derived.WalkKit
import Derived.ProofKit
import Derived.OpenShut
import Derived.Carry
import Derived.Test.YtmnibpgmcgdfpaaPlF
set_option linter.unusedSimpArgs false
set_option linter.unusedVariables false
namespace Go.PL
open Go.RowKit
set_option linter.unusedVariables false

/-- a value out of its cells -/
def asPV (ag : Bool) (ds : List PV) : PV := if ag then .agg ds else ds.getD 0 .any

theorem nb_true {b : Bool} (h : (!b) = false) : b = true := by cases b <;> simp_all
/-- a pointer to nothing, a slice of nothing: not told -/
def oddB (P : Program) (t : TypeId) : Bool :=
  match P.underlying t with
  | some (.slice e) => !(decide (0 < P.cellsOf e) && (tagg P e || P.cellsOf e == 1))
  | some (.pointer e) => !decide (0 < P.cellsOf e)
  | _ => false
mutual
/-- the cells of a value of a type, told of values -/
inductive PT (P : Program) : TypeId → List PV → Prop
  | bool {t : TypeId} (h : P.underlying t = some .bool) (b : Bool) : PT P t [.bool b]
  | int {t : TypeId} {k : IntKind} (h : P.underlying t = some (.int k)) (n : Int) (h1 : k.min ≤ n) (h2 : n ≤ k.max) : PT P t [.int k n]
  | flt {t : TypeId} {k : FloatKind} (h : P.underlying t = some (.float k)) (b : Nat) (hw : (Lit.float k b).wf = true) : PT P t [.flt k b]
  | str {t : TypeId} (h : P.underlying t = some .string) (l : List UInt8) (hl : l.length ≤ maxLen) : PT P t [.str l]
  | nilp {t e : TypeId} (h : P.underlying t = some (.pointer e)) : PT P t [.nilp]
  | ptr {t e : TypeId} (h : P.underlying t = some (.pointer e)) (cs : List PV) (hp : PT P e cs) : PT P t [.rptr cs]
  | sl {t e : TypeId} (h : P.underlying t = some (.slice e)) (n : Nat) (hn : n ≤ maxLen) (f : Nat → List PV) (hp : ∀ i, i < n → PT P e (f i)) : PT P t [.sl .no ((List.range n).map fun i => asPV (tagg P e) (f i))]
  | str' {t : TypeId} {fs : Array Field} (h : P.underlying t = some (.struct fs)) (cs : List PV) (hp : PTs P (fs.toList.map (·.type)) cs) : PT P t cs
  | arr {t e : TypeId} {n : Nat} (h : P.underlying t = some (.array n e)) (cs : List PV) (hp : PTs P (List.replicate n e) cs) : PT P t cs
  | odd {t : TypeId} (h : oddB P t = true) : PT P t [.any]
  | any {t : TypeId} (h : ∀ d, P.underlying t = some d → (match d with | .interface _ | .map _ _ | .func .. | .chan .. | .unsafePointer => True | _ => False)) : PT P t [.any]
inductive PTs (P : Program) : List TypeId → List PV → Prop
  | nil : PTs P [] []
  | cons {t : TypeId} {ts : List TypeId} {a b : List PV} (h : PT P t a) (hs : PTs P ts b) : PTs P (t :: ts) (a ++ b)
end

/-- the type's cells lie as its parts say -/
def offsOk (P : Program) : Nat → List Field → Option Nat
  | o, [] => some o
  | o, f :: fs => if f.offset = o then offsOk P (o + P.cellsOf f.type) fs else none
def layB (P : Program) (t : TypeId) : Bool :=
  match P.underlying t with
  | some (.struct fs) => offsOk P 0 fs.toList == some (P.cellsOf t) && fs.toList.all fun f => decide (f.type < P.types.size)
  | some (.array n e) => P.cellsOf t == n * P.cellsOf e && decide (e < P.types.size)
  | some (.slice e) => decide (e < P.types.size)
  | some (.pointer e) => decide (e < P.types.size)
  | _ => true
def layAll (P : Program) : Bool := (List.range P.types.size).all (layB P)

def RepC (S : Stable) (vs : List Value) (ps : List PV) : Prop := vs.length = ps.length ∧ ∀ i, i < ps.length → Rep S (vs.getD i undef) (ps.getD i .any)

section
variable {P : Program} {S : Stable}

theorem RepC.nil : RepC S [] [] := ⟨rfl, fun i hi => by simp at hi⟩
theorem RepC.one {v : Value} {p : PV} (h : Rep S v p) : RepC S [v] [p] := ⟨rfl, fun i hi => by
  have : i = 0 := by simpa using hi
  subst this; exact h⟩
theorem RepC.append {vs ws : List Value} {ps qs : List PV} (h : RepC S vs ps) (h' : RepC S ws qs) : RepC S (vs ++ ws) (ps ++ qs) := by
  refine ⟨by simp [h.1, h'.1], fun i hi => ?_⟩
  by_cases h1 : i < ps.length
  · rw [getD_append_left (by rw [h.1]; exact h1), getD_append_left h1]; exact h.2 i h1
  · have h1' : ps.length ≤ i := by omega
    have h2 := h'.2 (i - ps.length) (by simp at hi; omega)
    have e1 : (vs ++ ws).getD i undef = ws.getD (i - ps.length) undef := by
      simp only [List.getD_eq_getElem?_getD]; rw [List.getElem?_append_right (by rw [h.1]; exact h1'), h.1]
    have e2 : (ps ++ qs).getD i .any = qs.getD (i - ps.length) .any := by
      simp only [List.getD_eq_getElem?_getD]; rw [List.getElem?_append_right h1']
    rw [e1, e2]; exact h2

/-- every cell of a world -/
def cellsOf (w : World) : Stable := ⟨fun b o => w.cell? ⟨b, o, none⟩, fun _ => none, fun _ => True, fun _ => False⟩

theorem lay_of {t : TypeId} (hl : layAll P = true) (h : t < P.types.size) : layB P t = true :=
  List.all_eq_true.1 hl t (List.mem_range.2 h)

theorem mapM_some {α β : Type} {f : α → Option β} : ∀ {l : List α} {xs : List β}, l.mapM f = some xs → ∀ a ∈ l, ∃ x, f a = some x
  | [], _, _, a, ha => by cases ha
  | b :: l, xs, h, a, ha => by
    rw [List.mapM_cons] at h
    cases hb : f b with
    | none => rw [hb] at h; cases h
    | some y =>
      rw [hb] at h
      cases hl : l.mapM f with
      | none => rw [hl] at h; cases h
      | some ys =>
        rcases List.mem_cons.1 ha with rfl | ha
        · exact ⟨y, hb⟩
        · exact mapM_some hl a ha

theorem cells_some {w : World} {base : Nat} {a : Addr} {n : Nat} {cs : List Value} (h : w.cells? base a n = some cs) : cs.length = n ∧ ∀ i, i < n → w.cell? (a.add i) = some (cs.getD i undef) := by
  unfold World.cells? at h
  split at h
  · have go : ∀ (l : List Nat) (cs : List Value), (l.mapM fun i => w.cell? (a.add i)) = some cs → cs.length = l.length ∧ ∀ i, i < l.length → w.cell? (a.add (l.getD i 0)) = some (cs.getD i undef) := by
      intro l
      induction l with
      | nil => intro cs h; simp at h; subst h; simp
      | cons b l ih =>
        intro cs h
        rw [List.mapM_cons] at h
        cases hb : w.cell? (a.add b) with
        | none => rw [hb] at h; cases h
        | some y =>
          rw [hb] at h
          cases hl : (l.mapM fun i => w.cell? (a.add i)) with
          | none => rw [hl] at h; cases h
          | some ys =>
            rw [hl] at h
            simp at h
            subst h
            obtain ⟨h1, h2⟩ := ih ys hl
            refine ⟨by simp [h1], fun i hi => ?_⟩
            cases i with
            | zero => simpa using hb
            | succ i => simpa using h2 i (by simpa using hi)
    obtain ⟨h1, h2⟩ := go _ _ h
    refine ⟨by simpa using h1, fun i hi => ?_⟩
    have := h2 i (by simpa using hi)
    simpa [List.getD_eq_getElem?_getD, hi] using this
  · cases h


/-- the cells of a struct's fields, one behind the other -/
theorem struct_pts {g : TypeId → List Value → Prop} (hg : ∀ t cs, t < P.types.size → g t cs → ∃ ps, RepC S cs ps ∧ PT P t ps) : ∀ (fs : List Field) (o n : Nat) (cs : List Value), offsOk P o fs = some n → cs.length = n →
    (∀ f ∈ fs, f.type < P.types.size) → (∀ f ∈ fs, g f.type ((cs.drop f.offset).take (P.cellsOf f.type))) → ∃ ps, RepC S (cs.drop o) ps ∧ PTs P (fs.map (·.type)) ps
  | [], o, n, cs, ho, hn, _, _ => by
    simp only [offsOk, Option.some.injEq] at ho
    subst ho
    rw [List.drop_eq_nil_of_le (by omega)]
    exact ⟨[], .nil, .nil⟩
  | f :: fs, o, n, cs, ho, hn, hlt, h => by
    simp only [offsOk] at ho
    split at ho
    · rename_i hof
      obtain ⟨ps, h1, h2⟩ := struct_pts hg fs _ n cs ho hn (fun f hf => hlt f (by simp [hf])) (fun f hf => h f (by simp [hf]))
      obtain ⟨qs, h3, h4⟩ := hg _ _ (hlt f (by simp)) (h f (by simp))
      rw [hof] at h3
      refine ⟨qs ++ ps, ?_, .cons h4 h2⟩
      have := h3.append h1
      rwa [show cs.drop (o + P.cellsOf f.type) = (cs.drop o).drop (P.cellsOf f.type) by rw [List.drop_drop], List.take_append_drop] at this
    · cases ho

theorem array_pts {g : TypeId → List Value → Prop} (hg : ∀ t cs, t < P.types.size → g t cs → ∃ ps, RepC S cs ps ∧ PT P t ps) {e : TypeId} (he : e < P.types.size) : ∀ (n k : Nat) (cs : List Value), cs.length = (k + n) * P.cellsOf e →
    (∀ i, i < k + n → g e ((cs.drop (i * P.cellsOf e)).take (P.cellsOf e))) → ∃ ps, RepC S (cs.drop (k * P.cellsOf e)) ps ∧ PTs P (List.replicate n e) ps
  | 0, k, cs, hn, _ => by
    rw [List.drop_eq_nil_of_le (by rw [hn, Nat.add_zero]; exact Nat.le_refl _)]
    exact ⟨[], .nil, .nil⟩
  | n + 1, k, cs, hn, h => by
    obtain ⟨ps, h1, h2⟩ := array_pts hg he n (k + 1) cs (by rw [hn]; congr 1; omega) (fun i hi => h i (by omega))
    obtain ⟨qs, h3, h4⟩ := hg _ _ he (h k (by omega))
    refine ⟨qs ++ ps, ?_, .cons h4 h2⟩
    have := h3.append h1
    rwa [show cs.drop ((k + 1) * P.cellsOf e) = (cs.drop (k * P.cellsOf e)).drop (P.cellsOf e) by rw [List.drop_drop, Nat.succ_mul], List.take_append_drop] at this

theorem PT.noAgg {t : TypeId} {ps : List PV} (h : PT P t ps) (ha : tagg P t = false) (h1 : ps.length = 1) : (ps.getD 0 .any).cells = ps := by
  cases h with
  | str' h => unfold tagg at ha; rw [h] at ha; cases ha
  | arr h => unfold tagg at ha; rw [h] at ha; cases ha
  | _ => rfl

theorem asPV_cells {t : TypeId} {ps : List PV} (h : PT P t ps) (h1 : tagg P t = true ∨ ps.length = 1) : (asPV (tagg P t) ps).cells = ps := by
  unfold asPV
  cases ha : tagg P t with
  | true => rfl
  | false => exact h.noAgg ha (by simpa [ha] using h1)

theorem spot_none {w : World} {a : Addr} {v : Value} (h : w.cell? a = some v) : a = ⟨a.block, a.off, none⟩ := by
  obtain ⟨b, o, s⟩ := a
  unfold World.cell? at h
  split at h
  · split at h
    · cases h
    · cases s <;> simp_all
  · cases h

theorem add_zero (a : Addr) : a.add 0 = a := by unfold Addr.add; simp
theorem trod_pt {H : Type} {enc : TypeId × Value → H} {w : World} {base : Nat} {spare : Nat → Bool} {held : Bool} (hl : layAll P = true) :
    ∀ (fuel : Nat) (t : TypeId) (cs : List Value) (x : DataW H × List MemPlace), t < P.types.size → DataW.trod enc P w base spare held fuel t cs = some x → ∃ ps, RepC (cellsOf w) cs ps ∧ PT P t ps := by
  intro fuel
  induction fuel with
  | zero => intro t cs x _ h; cases h
  | succ fuel ih =>
    intro t cs x ht h
    have lay := lay_of hl ht
    have any : ∀ {v : Value}, (∀ d, P.underlying t = some d → (match d with | .interface _ | .map _ _ | .func .. | .chan .. | .unsafePointer => True | _ => False)) → ∃ ps, RepC (cellsOf w) [v] ps ∧ PT P t ps := fun h => ⟨_, .one (.any _), .any h⟩
    have anyd : ∀ {v : Value} {d : TypeDesc}, P.underlying t = some d → (match d with | .interface _ | .map _ _ | .func .. | .chan .. | .unsafePointer => True | _ => False) → ∃ ps, RepC (cellsOf w) [v] ps ∧ PT P t ps := fun h1 h2 => any fun d hd => by rw [h1] at hd; cases hd; exact h2
    unfold DataW.trod at h
    split at h
    · rename_i hu; exact ⟨_, .one (.bool _), .bool hu _⟩
    · rename_i hu
      split at h
      · rename_i hk
        obtain ⟨rfl, hw⟩ := hk
        simp only [Lit.wf, Bool.and_eq_true, decide_eq_true_eq] at hw
        exact ⟨_, .one (.int _ _), .int hu _ hw.1 hw.2⟩
      · cases h
    · rename_i hu
      split at h
      · rename_i hk
        obtain ⟨rfl, hw⟩ := hk
        exact ⟨_, .one (.flt _ _), .flt hu _ hw⟩
      · cases h
    · rename_i s hu
      split at h
      · rename_i hk
        obtain ⟨⟨l⟩⟩ := s
        exact ⟨_, .one (.str l), .str hu l hk⟩
      · cases h
    · rename_i hu; exact ⟨_, .one .nilp, .nilp hu⟩
    · rename_i e a hu
      by_cases hod : oddB P t = true
      · exact ⟨_, .one (.any _), .odd hod⟩
      have lay0 : decide (0 < P.cellsOf e) = true := by
        have : oddB P t = false := by simpa using hod
        unfold oddB at this
        rw [hu] at this
        exact nb_true this
      simp only [layB, hu, decide_eq_true_eq] at lay lay0
      obtain ⟨x', hx, _⟩ := Option.map_eq_some_iff.1 h
      obtain ⟨ds, hc, hx⟩ := Option.bind_eq_some_iff.1 hx
      obtain ⟨ps, h1, h2⟩ := ih _ _ _ lay hx
      obtain ⟨h3, h4⟩ := cells_some hc
      have ha : a = ⟨a.block, a.off, none⟩ := spot_none (add_zero a ▸ h4 0 lay0)
      refine ⟨[.rptr ps], .one ?_, .ptr hu ps h2⟩
      rw [ha]
      refine .rptr _ _ ps (fun j => ds.getD j undef) (fun j hj => ?_) (fun j hj => h1.2 j hj)
      have := h4 j (by rw [← h3, h1.1]; exact hj)
      rw [ha, add_none] at this
      exact this
    · rename_i hu; exact ⟨_, .one (.sl0 none 0), .sl hu 0 (Nat.zero_le _) (fun _ => []) (fun i hi => by omega)⟩
    · rename_i e a len cap hu
      by_cases hod : oddB P t = true
      · exact ⟨_, .one (.any _), .odd hod⟩
      have lay0 : (decide (0 < P.cellsOf e) && (tagg P e || P.cellsOf e == 1)) = true := by
        have : oddB P t = false := by simpa using hod
        unfold oddB at this
        rw [hu] at this
        exact nb_true this
      simp only [layB, hu, decide_eq_true_eq] at lay
      simp only [Bool.and_eq_true, decide_eq_true_eq, Bool.or_eq_true, beq_iff_eq] at lay0
      obtain ⟨l1, l2⟩ := lay0
      have l3 := lay
      simp only at h
      split at h
      · rename_i hb
        obtain ⟨elems, he, h⟩ := Option.bind_eq_some_iff.1 h
        have el : ∀ i, i < len → ∃ ds ps, w.cells? base (a.add (i * P.cellsOf e)) (P.cellsOf e) = some ds ∧ RepC (cellsOf w) ds ps ∧ PT P e ps := fun i hi => by
          obtain ⟨y, hy⟩ := mapM_some he i (List.mem_range.2 hi)
          obtain ⟨ds, hc, hx⟩ := Option.bind_eq_some_iff.1 hy
          obtain ⟨ps, h1, h2⟩ := ih _ _ _ l3 hx
          exact ⟨ds, ps, hc, h1, h2⟩
        obtain ⟨F, hF⟩ : ∃ F : Nat → List Value × List PV, ∀ i, i < len → w.cells? base (a.add (i * P.cellsOf e)) (P.cellsOf e) = some (F i).1 ∧ RepC (cellsOf w) (F i).1 (F i).2 ∧ PT P e (F i).2 := by
          classical
          refine ⟨fun i => if h : i < len then ((el i h).choose, (el i h).choose_spec.choose) else ([], []), fun i hi => ?_⟩
          simp only [hi, dif_pos]
          exact (el i hi).choose_spec.choose_spec
        refine ⟨_, .one ?_, .sl hu len (by omega) (fun i => (F i).2) fun i hi => (hF i hi).2.2⟩
        have hes : ∀ i, i < len → ((List.range len).map fun i => asPV (tagg P e) (F i).2).getD i .any = asPV (tagg P e) (F i).2 := fun i hi => by simp [List.getD_eq_getElem?_getD, hi]
        have hcl : ∀ i, i < len → (asPV (tagg P e) (F i).2).cells = (F i).2 := fun i hi => by
          obtain ⟨h1, h2, h3⟩ := hF i hi
          refine asPV_cells h3 (l2.imp id fun h => ?_)
          rw [← h2.1, (cells_some h1).1, h]
        by_cases h0 : len = 0
        · subst h0; exact .sl0 _ _
        · have hp0 : 0 < len := by omega
          have ha : a = ⟨a.block, a.off, none⟩ := by
            have := (cells_some (hF 0 hp0).1).2 0 l1
            rw [Nat.zero_mul, add_zero, add_zero] at this
            exact spot_none this
          have key := Rep.sl (S := cellsOf w) a.block a.off cap (P.cellsOf e) ((List.range len).map fun i => asPV (tagg P e) (F i).2) (fun i j => (F i).1.getD j undef)
            (fun i hi => by
              have hi : i < len := by simpa using hi
              rw [hes i hi, hcl i hi, ← (hF i hi).2.1.1, (cells_some (hF i hi).1).1])
            (by simp; exact hb.2.1)
            (fun i j hi hj => by
              have hi : i < len := by simpa using hi
              have := (cells_some (hF i hi).1).2 j hj
              rw [ha, add_none, add_none] at this
              exact this)
            (fun i j hi hj => by
              have hi : i < len := by simpa using hi
              rw [hes i hi, hcl i hi]
              exact (hF i hi).2.1.2 j (by rw [← (hF i hi).2.1.1, (cells_some (hF i hi).1).1]; exact hj))
          rw [List.length_map, List.length_range, ← ha] at key
          exact key
      · cases h
    · rename_i fs hu
      simp only [layB, hu, Bool.and_eq_true, beq_iff_eq, List.all_eq_true, decide_eq_true_eq] at lay
      split at h
      · rename_i hn
        obtain ⟨xs, hx, _⟩ := Option.map_eq_some_iff.1 h
        obtain ⟨ps, h1, h2⟩ := struct_pts (S := cellsOf w) (g := fun t cs => ∃ x, DataW.trod enc P w base spare held fuel t cs = some x) (fun t cs ht ⟨x, hx⟩ => ih t cs x ht hx) fs.toList 0 _ _ lay.1 hn lay.2 (fun f hf => mapM_some hx f hf)
        exact ⟨ps, by simpa using h1, .str' hu ps h2⟩
      · cases h
    · rename_i n e hu
      simp only [layB, hu, Bool.and_eq_true, beq_iff_eq, decide_eq_true_eq] at lay
      split at h
      · rename_i hn
        obtain ⟨xs, hx, _⟩ := Option.map_eq_some_iff.1 h
        obtain ⟨ps, h1, h2⟩ := array_pts (S := cellsOf w) (g := fun t cs => ∃ x, DataW.trod enc P w base spare held fuel t cs = some x) (fun t cs ht ⟨x, hx⟩ => ih t cs x ht hx) lay.2 n 0 _ (by rw [hn, lay.1]; simp) (fun i hi => mapM_some hx i (by simpa using hi))
        exact ⟨ps, by simpa using h1, .arr hu ps h2⟩
      · cases h
    all_goals first | (cases h; done) | (rename_i hu; exact anyd hu trivial) | (rename_i hu _; exact anyd hu trivial) | skip
end
end Go.PL

namespace Go.PL
open Go.ChangeShapes Go.WideShapes Go.ChangeAt Go.RowKit
set_option linter.unusedVariables false

/-- an argument of a type, told of values -/
def PA (P : Program) (t : TypeId) (p : PV) : Prop := ∃ cs, PT P t cs ∧ p = asPV (tagg P t) cs
inductive PAs (P : Program) : List TypeId → List PV → Prop
  | nil : PAs P [] []
  | cons {t : TypeId} {ts : List TypeId} {p : PV} {ps : List PV} (h : PA P t p) (hs : PAs P ts ps) : PAs P (t :: ts) (p :: ps)

section
variable {P : Program} {H : Type} {enc : TypeId × Value → H}

theorem noAgg_of_ok {W : World} {base : Nat} {t : TypeId} {v : Value} (ha : tagg P t = false) (hd : ∃ d, P.underlying t = some d) (h : Value.okWide P W .any base t v) : v.cells.toList = [v] := by
  obtain ⟨d, hd⟩ := hd
  cases v with
  | agg cs =>
    exfalso
    unfold Value.okWide at h
    unfold tagg at ha
    rw [hd] at ha h
    cases d <;> simp [Cell.okWide, Cell.ok, hd] at h ha
  | _ => rfl

theorem read_arg {W : World} {base : Nat} {t : TypeId} {v : Value} {d : DataW H} {ps : List MemPlace} (hl : layAll P = true) (ht : t < P.types.size) (hok : Value.okWide P W .any base t v)
    (h : DataW.Trod enc P W 0 (fun _ => true) true t v d ps) : ∃ p, Rep (cellsOf W) v p ∧ PA P t p := by
  obtain ⟨n, hn⟩ := h
  obtain ⟨cs, h1, h2⟩ := trod_pt hl n t _ _ ht hn
  have hd : ∃ d, P.underlying t = some d := by
    cases n with
    | zero => cases hn
    | succ n =>
      cases hu : P.underlying t with
      | none => unfold DataW.trod at hn; rw [hu] at hn; simp at hn
      | some d => exact ⟨d, rfl⟩
  refine ⟨_, ?_, cs, h2, rfl⟩
  unfold asPV
  cases ha : tagg P t with
  | true =>
    obtain ⟨d, hd⟩ := hd
    have : ∃ c, v = .agg c := by
      unfold tagg at ha
      unfold Value.okWide at hok
      rw [hd] at ha hok
      cases d <;> simp at ha
      · obtain ⟨c, hc, _⟩ := hok; exact ⟨c, hc⟩
      · obtain ⟨c, hc, _⟩ := hok; exact ⟨c, hc⟩
    obtain ⟨⟨c⟩, rfl⟩ := this
    exact .agg c cs h1.1 h1.2
  | false =>
    rw [noAgg_of_ok ha hd hok] at h1
    have := h1.2 0 (by rw [← h1.1]; simp)
    simpa using this

theorem read_args {W : World} {base : Nat} (hl : layAll P = true) : ∀ (ts : List TypeId) (vs : List Value) (ds : List (DataW H)) (ps : List MemPlace), (∀ t ∈ ts, t < P.types.size) →
    (∀ (j : Nat) t v, ts[j]? = some t → vs[j]? = some v → Value.okWide P W .any base t v) → DataW.TrodAll enc P W 0 (fun _ => true) true ts vs ds ps →
    ∃ qs, RepC (cellsOf W) vs qs ∧ PAs P ts qs ∧ ds.length = ts.length
  | [], [], [], ps, _, _, h => ⟨[], .nil, .nil, rfl⟩
  | t :: ts, v :: vs, d :: ds, ps, hlt, hok, h => by
    obtain ⟨p, q, h1, h2, rfl⟩ := h
    obtain ⟨x, hx, hp⟩ := read_arg hl (hlt t (by simp)) (hok 0 t v rfl rfl) h1
    obtain ⟨qs, h3, h4, h5⟩ := read_args hl ts vs ds q (fun t ht => hlt t (by simp [ht])) (fun j t v h1 h2 => hok (j + 1) t v (by simpa using h1) (by simpa using h2)) h2
    exact ⟨x :: qs, (RepC.one hx).append h3, .cons hp h4, by simp [h5]⟩
  | [], _ :: _, _, _, _, _, h => by simp [DataW.TrodAll] at h
  | [], [], _ :: _, _, _, _, h => by simp [DataW.TrodAll] at h
  | _ :: _, [], _, _, _, _, h => by simp [DataW.TrodAll] at h
  | _ :: _, _ :: _, [], _, _, _, h => by simp [DataW.TrodAll] at h

theorem stays_args {W W' : World} {sp : Nat → Bool} (hl : laidOutB P = true) (hb : Below W.heap.size W W') : ∀ (ts : List TypeId) (vs : List Value) (ds : List (DataW H)) (ps : List MemPlace), (∀ t ∈ ts, t < P.types.size ∧ P.readableRec t = true) →
    (∀ x ∈ ps, x.block < W.heap.size) → (∀ x ∈ ps, sp x.block = true) → DataW.TrodAll enc P W 0 (fun _ => true) true ts vs ds ps → DataW.TrodAll enc P W' 0 sp true ts vs ds ps
  | [], [], [], ps, _, _, _, h => h
  | t :: ts, v :: vs, d :: ds, ps, ht, hlt, hsp, h => by
    obtain ⟨p, q, h1, h2, rfl⟩ := h
    exact ⟨p, q, WideElems.Trod_stays hl (ht t (by simp)).2 (ht t (by simp)).1 h1 (fun x hx => hb.same (hlt x (by simp [hx]))) (fun x hx => hsp x (by simp [hx])),
      stays_args hl hb ts vs ds q (fun t h => ht t (by simp [h])) (fun x hx => hlt x (by simp [hx])) (fun x hx => hsp x (by simp [hx])) h2, rfl⟩
  | [], _ :: _, _, _, _, _, _, h => by simp [DataW.TrodAll] at h
  | [], [], _ :: _, _, _, _, _, h => by simp [DataW.TrodAll] at h
  | _ :: _, [], _, _, _, _, _, h => by simp [DataW.TrodAll] at h
  | _ :: _, _ :: _, [], _, _, _, _, h => by simp [DataW.TrodAll] at h

/-- A LAW WITHOUT EFFECT, for the rows' template 'true; the input reads as it did' -/
theorem contract_of_pure {f : FuncId} {fn : Func} {s : ChangeSpec} {tb : TypeId} {fresh handsOn again : Bool} (hl : layAll P = true) (hlaid : laidOutB P = true) (hvars : s.vars = [])
    (ht : ∀ t ∈ fn.params.toList, t < P.types.size ∧ P.readableRec t = true) (hres : fn.resultTypes = #[tb]) (hb : P.underlying tb = some .bool)
    (hfn : ∀ ds : List (DataW H), ds.length = fn.params.toList.length → s.fn H ds = { results := [.lit (.bool true)], args := ds })
    (hp : ∀ ps, PAs P fn.params.toList ps → PL.Pure P f ps (.bool true))
    (W : World) (base : Nat) (args : Array Value) (ds gs : List (DataW H)) (before : List MemPlace)
    (hval : ∀ (j : Nat) t v, fn.params[j]? = some t → args[j]? = some v → Value.okWide P W .any base t v)
    (hW : DataW.Whole enc P fn.params.toList s.vars false W args.toList ds gs before) :
    Calls P f args W fun e W' => ∃ v, e = .returned v ∧ s.post enc P fn false fresh handsOn again W args v W' := by
  have hW0 := hW
  obtain ⟨p, q, hA, hV, hpq, hfz, hnd⟩ := hW
  rw [hvars] at hV
  obtain ⟨rfl, rfl⟩ := trodVars_none hV
  obtain ⟨qs, h1, h2, h3⟩ := read_args hl _ _ _ _ (fun t h => (ht t h).1) (fun j t v a b => hval j t v (by simpa using a) (by simpa using b)) hA
  obtain ⟨_, _, hcalls⟩ := hp qs h2
  have := hcalls W (cellsOf W) args.toList ⟨fun b o v h => h, fun b es h => (by cases h), fun b h => h.elim⟩ (fun _ _ => trivial) h1.1 h1.2
  have ea : (⟨args.toList⟩ : Array Value) = args := rfl
  rw [ea] at this
  refine this.mono fun e W' ⟨v, S', he, hr, _, _, _, hB⟩ => ?_
  subst he
  have hv : v = .bool true := by cases hr; rfl
  subst hv
  have hlt := hW0.lt
  have hps : before = p ++ [] := hpq
  rw [List.append_nil] at hps
  subst hps
  have hf := hfn ds h3
  have hone : (Value.bool true).resultList 1 = [.bool true] := rfl
  have hT : ∀ (sp : Nat → Bool), (∀ x ∈ before, sp x.block = true) → DataW.TrodAll enc P W' 0 sp true fn.params.toList args.toList ds before := fun sp hsp => stays_args hlaid hB _ _ _ _ ht hlt hsp hA
  have hR : ∀ (b : Nat) (sp : Nat → Bool) (hd : Bool), DataW.TrodAll enc P W' b sp hd fn.resultTypes.toList ((Value.bool true).resultList fn.resultTypes.size) [.lit (.bool true)] [] := fun b sp hd => by
    rw [hres]
    exact trodAll_cons_mk (shut_bool hb true) trodAll_mk0
  have hVs : ∀ sp : Nat → Bool, DataW.TrodVars enc P W' sp s.vars ([] : List (DataW H)) [] := fun sp => by rw [hvars]; exact rfl
  refine ⟨_, rfl, ds, [], before, [], before, [], hW0, ?_, ?_, ?_, World.keptBut_mono (fun p hp => ⟨hp, .inr (.inl hp)⟩) (hB.frame _), fun _ => ⟨ok_one hres hone (okWide_bool_mk hb true), ?_⟩⟩
  · rw [List.append_nil, hf]; exact hR _ _ _
  · rw [List.append_nil, hf]; exact hT _ (fun x hx => by simpa using hlt x hx)
  · rw [List.append_nil, hf]; exact hVs _
  · refine ⟨_, _, ([] ++ before) ++ [], ⟨[] ++ before, [], trodAll_append (hT _ fun _ _ => rfl) (hR _ _ _), hVs _, rfl, ?_, fun h => by cases h⟩, ?_⟩
    · intro b off hp
      have hp : MemPlace.cell b off ∈ before := by simpa using hp
      rw [hB.frozen (hlt _ hp)]
      exact hfz b off (by simpa using hp)
    · intro x hx _
      simpa using hx
end
end Go.PL

namespace Go.PL
set_option linter.unusedVariables false
section
variable {P : Program}
theorem PT.struct_inv {t : TypeId} {fs : Array Field} {cs : List PV} (hu : P.underlying t = some (.struct fs)) (h : PT P t cs) : PTs P (fs.toList.map (·.type)) cs := by
  cases h with
  | str' h' _ hp => rw [hu] at h'; cases h'; exact hp
  | any h' => exact (h' _ hu).elim
  | odd h' => simp [oddB, hu] at h'
  | bool h' _ => rw [hu] at h'; cases h'
  | int h' => rw [hu] at h'; cases h'
  | flt h' _ => rw [hu] at h'; cases h'
  | str h' _ => rw [hu] at h'; cases h'
  | nilp h' => rw [hu] at h'; cases h'
  | ptr h' _ => rw [hu] at h'; cases h'
  | sl h' _ => rw [hu] at h'; cases h'
  | arr h' _ => rw [hu] at h'; cases h'
theorem PT.int_inv {t : TypeId} {k : IntKind} {cs : List PV} (hu : P.underlying t = some (.int k)) (h : PT P t cs) : ∃ n, cs = [.int k n] ∧ k.min ≤ n ∧ n ≤ k.max := by
  cases h with
  | int h' n h1 h2 => rw [hu] at h'; cases h'; exact ⟨n, rfl, h1, h2⟩
  | any h' => exact (h' _ hu).elim
  | odd h' => simp [oddB, hu] at h'
  | bool h' _ => rw [hu] at h'; cases h'
  | flt h' _ => rw [hu] at h'; cases h'
  | str h' _ => rw [hu] at h'; cases h'
  | nilp h' => rw [hu] at h'; cases h'
  | ptr h' _ => rw [hu] at h'; cases h'
  | sl h' _ => rw [hu] at h'; cases h'
  | str' h' _ => rw [hu] at h'; cases h'
  | arr h' _ => rw [hu] at h'; cases h'
theorem PT.bool_inv {t : TypeId} {cs : List PV} (hu : P.underlying t = some .bool) (h : PT P t cs) : ∃ b, cs = [.bool b] := by
  cases h with
  | bool h' b => exact ⟨b, rfl⟩
  | any h' => exact (h' _ hu).elim
  | odd h' => simp [oddB, hu] at h'
  | int h' => rw [hu] at h'; cases h'
  | flt h' _ => rw [hu] at h'; cases h'
  | str h' _ => rw [hu] at h'; cases h'
  | nilp h' => rw [hu] at h'; cases h'
  | ptr h' _ => rw [hu] at h'; cases h'
  | sl h' _ => rw [hu] at h'; cases h'
  | str' h' _ => rw [hu] at h'; cases h'
  | arr h' _ => rw [hu] at h'; cases h'
theorem PT.string_inv {t : TypeId} {cs : List PV} (hu : P.underlying t = some .string) (h : PT P t cs) : ∃ l, cs = [.str l] ∧ l.length ≤ maxLen := by
  cases h with
  | str h' l hl => exact ⟨l, rfl, hl⟩
  | any h' => exact (h' _ hu).elim
  | odd h' => simp [oddB, hu] at h'
  | bool h' _ => rw [hu] at h'; cases h'
  | int h' => rw [hu] at h'; cases h'
  | flt h' _ => rw [hu] at h'; cases h'
  | nilp h' => rw [hu] at h'; cases h'
  | ptr h' _ => rw [hu] at h'; cases h'
  | sl h' _ => rw [hu] at h'; cases h'
  | str' h' _ => rw [hu] at h'; cases h'
  | arr h' _ => rw [hu] at h'; cases h'
theorem PT.slice_inv {t e : TypeId} {cs : List PV} (ho : oddB P t = false) (hu : P.underlying t = some (.slice e)) (h : PT P t cs) : ∃ l, cs = [.sl .no l] ∧ l.length ≤ maxLen ∧ ∀ p ∈ l, PA P e p := by
  cases h with
  | sl h' n hn f hp =>
    rw [hu] at h'; cases h'
    refine ⟨_, rfl, by simpa using hn, fun p hp' => ?_⟩
    obtain ⟨i, hi, rfl⟩ := List.mem_map.1 hp'
    exact ⟨f i, hp i (by simpa using hi), rfl⟩
  | any h' => exact (h' _ hu).elim
  | odd h' => rw [ho] at h'; cases h'
  | bool h' _ => rw [hu] at h'; cases h'
  | int h' => rw [hu] at h'; cases h'
  | flt h' _ => rw [hu] at h'; cases h'
  | str h' _ => rw [hu] at h'; cases h'
  | nilp h' => rw [hu] at h'; cases h'
  | ptr h' _ => rw [hu] at h'; cases h'
  | str' h' _ => rw [hu] at h'; cases h'
  | arr h' _ => rw [hu] at h'; cases h'
theorem PTs.cons_inv {t : TypeId} {ts : List TypeId} {cs : List PV} (h : PTs P (t :: ts) cs) : ∃ a b, cs = a ++ b ∧ PT P t a ∧ PTs P ts b := by
  cases h with
  | cons h hs => exact ⟨_, _, rfl, h, hs⟩
theorem PTs.nil_inv {cs : List PV} (h : PTs P [] cs) : cs = [] := by cases h; rfl
theorem PAs.cons_inv {t : TypeId} {ts : List TypeId} {cs : List PV} (h : PAs P (t :: ts) cs) : ∃ a b, cs = a :: b ∧ PA P t a ∧ PAs P ts b := by
  cases h with
  | cons h hs => exact ⟨_, _, rfl, h, hs⟩
theorem PAs.nil_inv {cs : List PV} (h : PAs P [] cs) : cs = [] := by cases h; rfl
/-- a value of an aggregate type, by its cells -/
theorem PA.agg {t : TypeId} {p : PV} (ha : tagg P t = true) (h : PA P t p) : ∃ cs, p = .agg cs ∧ PT P t cs := by
  obtain ⟨cs, h1, h2⟩ := h
  rw [ha] at h2
  exact ⟨cs, h2, h1⟩
theorem PA.one {t : TypeId} {p : PV} (ha : tagg P t = false) (h : PA P t p) : ∃ cs, p = cs.getD 0 .any ∧ PT P t cs := by
  obtain ⟨cs, h1, h2⟩ := h
  rw [ha] at h2
  exact ⟨cs, h2, h1⟩
theorem PA.int {t : TypeId} {k : IntKind} {p : PV} (hu : P.underlying t = some (.int k)) (h : PA P t p) : ∃ n, p = .int k n ∧ k.min ≤ n ∧ n ≤ k.max := by
  obtain ⟨cs, h1, h2⟩ := PA.one (by simp [tagg, hu]) h
  obtain ⟨n, rfl, h3⟩ := PT.int_inv hu h2
  exact ⟨n, h1, h3⟩
theorem PA.string {t : TypeId} {p : PV} (hu : P.underlying t = some .string) (h : PA P t p) : ∃ l, p = .str l ∧ l.length ≤ maxLen := by
  obtain ⟨cs, h1, h2⟩ := PA.one (by simp [tagg, hu]) h
  obtain ⟨n, rfl, h3⟩ := PT.string_inv hu h2
  exact ⟨n, h1, h3⟩
theorem PA.bool {t : TypeId} {p : PV} (hu : P.underlying t = some .bool) (h : PA P t p) : ∃ b, p = .bool b := by
  obtain ⟨cs, h1, h2⟩ := PA.one (by simp [tagg, hu]) h
  obtain ⟨n, rfl⟩ := PT.bool_inv hu h2
  exact ⟨n, h1⟩
theorem PA.slice {t e : TypeId} {p : PV} (ho : oddB P t = false) (hu : P.underlying t = some (.slice e)) (h : PA P t p) : ∃ l, p = .sl .no l ∧ l.length ≤ maxLen ∧ ∀ p ∈ l, PA P e p := by
  obtain ⟨cs, h1, h2⟩ := PA.one (by simp [tagg, hu]) h
  obtain ⟨n, rfl, h3⟩ := PT.slice_inv ho hu h2
  exact ⟨n, h1, h3⟩
/-- a list of which each element is told by something, told by a list of these -/
theorem all_told {α : Type} {enc : α → PV} {Q : α → Prop} : ∀ {l : List PV}, (∀ p ∈ l, ∃ x, p = enc x ∧ Q x) → ∃ xs : List α, l = xs.map enc ∧ ∀ x ∈ xs, Q x
  | [], _ => ⟨[], rfl, fun x hx => by cases hx⟩
  | p :: l, h => by
    obtain ⟨x, rfl, hq⟩ := h p (by simp)
    obtain ⟨xs, rfl, hxs⟩ := all_told (l := l) (fun p hp => h p (by simp [hp]))
    exact ⟨x :: xs, rfl, fun y hy => by
      rcases List.mem_cons.1 hy with e | e
      · rw [e]; exact hq
      · exact hxs y e⟩
end
end Go.PL

namespace Go.PL
set_option linter.unusedVariables false
section
variable {P : Program} {s : St} {Q : Exit → St → Prop}
@[go_sem] theorem upds_nil {α : Type} (f : Nat → α) : upds [] f = f := rfl
@[go_sem] theorem upds_cons {α : Type} (i : Nat) (v : α) (L : List (Nat × α)) (f : Nat → α) : upds ((i, v) :: L) f = upd (upds L f) i v := rfl
@[go_sem] theorem kills_nil (f : Nat → PV) : kills [] f = f := by funext i; simp [kills]
@[go_sem] theorem kills_cons (w : Nat) (ws : List Nat) (f : Nat → PV) : kills (w :: ws) f = upd (kills ws f) w .any := by
  funext i
  simp only [kills, upd, List.contains_cons]
  by_cases h : w = i
  · subst h; simp
  · have : (i == w) = false := by simp; exact fun e => h e.symm
    simp [this, h]
attribute [go_sem] St.inv

theorem vDrawQ {id : Nat} {l : List Oper} (hm : P.follows .mixedOrders = true) (hB : drawB l.toArray = true) (h : @vA P false ⟨@vQ ⟨Q⟩ .normal⟩ ⟨l⟩ ⟨l⟩ s) : awp P (.region id l.toArray true) Q s :=
  vDraw hm hB h

def HRest (X : List Nat) (h' : Nat → Option (List PV)) (z' : Nat → Bool) (h : Nat → Option (List PV)) (z : Nat → Bool) : Prop := ∀ i, X.contains i = false → h i = none ∨ (h i = h' i ∧ z i = z' i)
theorem HRest.refl (X : List Nat) (h : Nat → Option (List PV)) (z : Nat → Bool) : HRest X h z h z := fun _ _ => .inr ⟨rfl, rfl⟩
def QRest (X : List Nat) (q' q : Rows) : Prop := ∀ i, X.contains i = false → q i = none ∨ q i = q' i
theorem QRest.refl (X : List Nat) (q : Rows) : QRest X q q := fun _ _ => .inr rfl
theorem QRest.upd {X : List Nat} {q' q : Rows} {d : Nat} {v : Option Row} (hd : X.contains d = true ∨ q d = none) (hh : QRest X q' q) : QRest X (PL.upd q' d v) q := fun i hi => by
  by_cases e : d = i
  · subst e
    rcases hd with hd | hd
    · rw [hd] at hi; cases hi
    · exact .inl hd
  · rw [upd_ne _ _ e]; exact hh i hi

theorem Live.inv_r {L : List (Nat × PV)} {H : List (Nat × List PV)} {R : List (Nat × Row)} {y : Nat × Row} (hy : y ∈ R) : Live (s.inv [] L H R).m (.r y.1) := by
  show upds (R.map fun x => (x.1, some x.2)) s.m.q y.1 ≠ none
  refine upds_all (R := fun i v => v ≠ none) (fun x hx => by obtain ⟨y, hy, rfl⟩ := List.mem_map.1 hx; simp) ?_
  rw [map1 R some]
  simp only [List.contains_iff_mem, List.mem_map]
  exact ⟨y, hy, rfl⟩
theorem Live.inv_b {L : List (Nat × PV)} {H : List (Nat × List PV)} {R : List (Nat × Row)} {y : Nat × List PV} (hy : y ∈ H) : Live (s.inv [] L H R).m (.b y.1) := by
  show upds (H.map fun x => (x.1, some x.2)) s.m.h y.1 ≠ none
  refine upds_all (R := fun i v => v ≠ none) (fun x hx => by obtain ⟨y, hy, rfl⟩ := List.mem_map.1 hx; simp) ?_
  rw [map1 H some]
  simp only [List.contains_iff_mem, List.mem_map]
  exact ⟨y, hy, rfl⟩
/-- what the head tells leans on rows and blocks that it tells -/
def refIn (H : List (Nat × List PV)) (R : List (Nat × Row)) : Ref → Bool
  | .r i => (R.map (·.1)).contains i
  | .b i => (H.map (·.1)).contains i
theorem Live.of_refIn {L : List (Nat × PV)} {H : List (Nat × List PV)} {R : List (Nat × Row)} {r : Ref} (h : refIn H R r = true) : Live (s.inv [] L H R).m r := by
  cases r with
  | r i =>
    simp only [refIn, List.contains_iff_mem, List.mem_map] at h
    obtain ⟨y, hy, rfl⟩ := h
    exact Live.inv_r hy
  | b i =>
    simp only [refIn, List.contains_iff_mem, List.mem_map] at h
    obtain ⟨y, hy, rfl⟩ := h
    exact Live.inv_b hy
theorem RefsL.of {L : List (Nat × PV)} {H : List (Nat × List PV)} {R : List (Nat × Row)} (h1 : ∀ x ∈ L, x.2.ids.all (refIn H R) = true) (h2 : ∀ x ∈ H, (PV.idsL x.2).all (refIn H R) = true) : RefsL s L H R :=
  ⟨fun x hx r hr => Live.of_refIn (List.all_eq_true.1 (h1 x hx) r hr), fun x hx c hc r hr => Live.of_refIn (List.all_eq_true.1 (h2 x hx) r (PV.mem_idsL.2 ⟨c, hc, hr⟩))⟩
theorem forall_nil {α : Type} {p : α → Prop} : ∀ x ∈ ([] : List α), p x := fun x hx => by cases hx
theorem forall_cons {α : Type} {p : α → Prop} {a : α} {l : List α} (h : p a) (h' : ∀ x ∈ l, p x) : ∀ x ∈ a :: l, p x := fun x hx => by
  rcases List.mem_cons.1 hx with e | e
  · rw [e]; exact h
  · exact h' x e

/-- as Q; by a goto: what J says of the label -/
def gotoQ (J : Nat → St → Prop) (Q : Exit → St → Prop) : Exit → St → Prop
  | .goto l, s => J l s
  | e, s => Q e s

/-- a state of which just these slots, blocks and rows are told -/
def mkSt (n : Nat) (L : List (Nat × PV)) (H : List (Nat × List PV × Bool)) (R : List (Nat × Row)) : St :=
  { fr := upds L fun _ => .any, m := { h := upds (H.map fun x => (x.1, some x.2.1)) fun _ => none, z := upds (H.map fun x => (x.1, x.2.2)) fun _ => false, q := upds (R.map fun x => (x.1, some x.2)) fun _ => none, o := fun _ => none, it := fun _ => none, om := fun _ => none, v := fun _ => none, ph := fun _ => none, pq := fun _ => none, vm := fun _ => false }, n := n }
/-- a state holds what is told -/
structure Has (n : Nat) (L : List (Nat × PV)) (H : List (Nat × List PV × Bool)) (R : List (Nat × Row)) (s : St) : Prop where
  n : s.n = n
  fr : ∀ x ∈ L, s.fr x.1 = x.2
  h : ∀ x ∈ H, s.m.h x.1 = some x.2.1 ∧ s.m.z x.1 = x.2.2
  q : ∀ x ∈ R, s.m.q x.1 = some x.2
theorem Has.weak {n : Nat} {L : List (Nat × PV)} {H : List (Nat × List PV × Bool)} {R : List (Nat × Row)} (h : Has n L H R s) : Weak (mkSt n L H R) s := by
  have m1 : ∀ {α β : Type} (L : List (Nat × α)) (f : α → β), (L.map fun x => (x.1, f x.2)).map (·.1) = L.map (·.1) := fun L f => by simp
  refine ⟨h.n.symm, fun i => ?_, fun i => ?_, fun i => ?_, fun _ => .inl rfl, fun _ => .inl rfl, fun _ => .inl rfl, fun _ => .inl rfl, fun _ => .inl rfl, fun _ => .inl rfl⟩
  · by_cases hi : (L.map (·.1)).contains i = true
    · exact .inr (upds_all (R := fun i v => v = s.fr i) (fun x hx => (h.fr x hx).symm) hi)
    · exact .inl (upds_ne (by simpa using hi))
  · show upds (H.map fun x => (x.1, some x.2.1)) (fun _ => none) i = none ∨ (upds (H.map fun x => (x.1, some x.2.1)) (fun _ => none) i = _ ∧ upds (H.map fun x => (x.1, x.2.2)) (fun _ => false) i = _)
    by_cases hi : (H.map (·.1)).contains i = true
    · right
      refine ⟨upds_all (R := fun i v => v = s.m.h i) (fun x hx => ?_) (by rw [m1 H (fun x => some x.1)]; exact hi), upds_all (R := fun i v => v = s.m.z i) (fun x hx => ?_) (by rw [m1 H (fun x => x.2)]; exact hi)⟩
      · obtain ⟨y, hy, rfl⟩ := List.mem_map.1 hx; exact (h.h y hy).1.symm
      · obtain ⟨y, hy, rfl⟩ := List.mem_map.1 hx; exact (h.h y hy).2.symm
    · exact .inl (upds_ne (by rw [m1 H (fun x => some x.1)]; simpa using hi))
  · show upds (R.map fun x => (x.1, some x.2)) (fun _ => none) i = none ∨ upds (R.map fun x => (x.1, some x.2)) (fun _ => none) i = _
    by_cases hi : (R.map (·.1)).contains i = true
    · right
      refine upds_all (R := fun i v => v = s.m.q i) (fun x hx => ?_) (by rw [m1 R some]; exact hi)
      obtain ⟨y, hy, rfl⟩ := List.mem_map.1 hx; exact (h.q y hy).symm
    · exact .inl (upds_ne (by rw [m1 R some]; simpa using hi))
def refInM (H : List (Nat × List PV × Bool)) (R : List (Nat × Row)) : Ref → Bool
  | .r i => (R.map (·.1)).contains i
  | .b i => (H.map (·.1)).contains i
/-- what is told leans on what is told -/
def toldB (L : List (Nat × PV)) (H : List (Nat × List PV × Bool)) (R : List (Nat × Row)) : Prop :=
  (∀ x ∈ L, x.2.ids.all (refInM H R) = true) ∧ ∀ x ∈ H, (PV.idsL x.2.1).all (refInM H R) = true
theorem Refs.mkSt {n : Nat} {L : List (Nat × PV)} {H : List (Nat × List PV × Bool)} {R : List (Nat × Row)} (h : toldB L H R) : Refs (mkSt n L H R) := by
  have m1 : ∀ {α β : Type} (L : List (Nat × α)) (f : α → β), (L.map fun x => (x.1, f x.2)).map (·.1) = L.map (·.1) := fun L f => by simp
  have live : ∀ r, refInM H R r = true → Live (PL.mkSt n L H R).m r := fun r hr => by
    cases r with
    | b i =>
      show upds (H.map fun x => (x.1, some x.2.1)) (fun _ => none) i ≠ none
      exact upds_all (R := fun i v => v ≠ none) (fun x hx => by obtain ⟨y, hy, rfl⟩ := List.mem_map.1 hx; simp) (by rw [m1 H (fun x => some x.1)]; exact hr)
    | r i =>
      show upds (R.map fun x => (x.1, some x.2)) (fun _ => none) i ≠ none
      exact upds_all (R := fun i v => v ≠ none) (fun x hx => by obtain ⟨y, hy, rfl⟩ := List.mem_map.1 hx; simp) (by rw [m1 R some]; exact hr)
  refine ⟨fun i r hr => ?_, fun i cs hi c hc r hr => ?_, fun i es hi => (by cases hi), fun b c hc => (by cases hc)⟩
  · by_cases hi : (L.map (·.1)).contains i = true
    · exact upds_all (R := fun i v => ∀ r ∈ v.ids, Live (PL.mkSt n L H R).m r) (fun x hx r hr => live r (List.all_eq_true.1 (h.1 x hx) r hr)) hi r hr
    · have hr' : r ∈ (upds L (fun _ => PV.any) i).ids := hr
      rw [upds_ne (by simpa using hi)] at hr'
      simp [PV.ids] at hr'
  · by_cases hi' : (H.map (·.1)).contains i = true
    · have hR := upds_all (R := fun i v => ∀ cs, v = some cs → ∀ c ∈ cs, ∀ r ∈ c.ids, Live (PL.mkSt n L H R).m r) (f := fun _ => none) (L := H.map fun x => (x.1, some x.2.1)) (i := i)
        (fun x hx cs hcs c hc r hr => by obtain ⟨y, hy, rfl⟩ := List.mem_map.1 hx; cases hcs; exact live r (List.all_eq_true.1 (h.2 y hy) r (PV.mem_idsL.2 ⟨c, hc, hr⟩))) (by rw [m1 H (fun x => some x.1)]; exact hi')
      exact hR cs hi c hc r hr
    · have hi2 : upds (H.map fun x => (x.1, some x.2.1)) (fun _ => none) i = some cs := hi
      rw [upds_ne (by rw [m1 H (fun x => some x.1)]; simpa using hi')] at hi2
      cases hi2

/-- the next head, or the next label -/
def Next {ι : Type} (n : Nat) (L : ι → List (Nat × PV)) (H : ι → List (Nat × List PV × Bool)) (R : ι → List (Nat × Row)) (μ : ι → Nat) (i : ι) (s' : St) : Prop := ∃ j, μ j < μ i ∧ Has n (L j) (H j) (R j) s'
/-- A LOOP, by what is told at its head -/
theorem vLoopM {c : Code} {ι : Type} (n : Nat) (L : ι → List (Nat × PV)) (H : ι → List (Nat × List PV × Bool)) (R : ι → List (Nat × Row)) (μ : ι → Nat) (i0 : ι)
    (h0 : Has n (L i0) (H i0) (R i0) s) (hr : ∀ i, toldB (L i) (H i) (R i))
    (round : ∀ i, @vC P ⟨c⟩ ⟨thenQ (Next n L H R μ i) Q⟩ (mkSt n (L i) (H i) (R i))) : awp P (.loop c) Q s :=
  awp_loop_gen (fun i => mkSt n (L i) (H i) (R i)) μ i0 h0.weak (fun _ i => Refs.mkSt (hr i)) fun i => awp_mono (fun e s' h => by
    cases e with
    | normal => obtain ⟨j, hj, hm⟩ := h; exact ⟨j, hj, hm.weak⟩
    | _ => exact h) (vc_sound _ _ _ (round i))

def gotoJ (l : Nat) (J : St → Prop) : Nat → St → Prop := fun l' s => l' = l ∧ J s
@[go_sem] theorem vQ_goto_normal (J : Nat → St → Prop) (s : St) : @vQ ⟨gotoQ J Q⟩ .normal s = @vQ ⟨Q⟩ .normal s := rfl
@[go_sem] theorem vQ_goto_ret (J : Nat → St → Prop) (s : St) : @vQ ⟨gotoQ J Q⟩ .ret s = @vQ ⟨Q⟩ .ret s := rfl
@[go_sem] theorem vQ_goto_exit (J : Nat → St → Prop) (id : Nat) (s : St) : @vQ ⟨gotoQ J Q⟩ (.exit id) s = @vQ ⟨Q⟩ (.exit id) s := rfl
@[go_sem] theorem vQ_goto_goto (J : Nat → St → Prop) (l : Nat) (s : St) : @vQ ⟨gotoQ J Q⟩ (.goto l) s = J l s := rfl
@[go_sem] theorem gotoJ_same (l : Nat) (J : St → Prop) (s : St) : gotoJ l J l s = J s := by simp [gotoJ]
attribute [go_sem] mkSt
end
end Go.PL

namespace Go.PL
open Go.RowKit
set_option linter.unusedVariables false
section
variable {P : Program} {B : Frm} {S : Stable} {M : Maps} {s : St} {a : Act} {w : World} {Q : Exit → St → Prop}

/-- a row that a slot tells, under another number -/
theorem awp_moveRow {c : Code} (i id d n sz : Nat) (e : TypeId) (es : List PV) (hi : s.fr i = .sl (.row id) es) (hid : s.m.q id = some (.live n sz e)) (hd : s.m.q d = none)
    (h : awp P c Q ({ s with fr := upd s.fr i (.sl (.row d) es) }.with ((s.m.setq id .dead).setq d (.live n sz e)))) : awp P c Q s := fun B S M a w hs => by
  have hne : id ≠ d := fun e => by rw [e, hd] at hid; cases hid
  have hs1 := hs.moveRow hid hd
  have hrow := hs.fr i
  rw [hi] at hrow
  have key : ∃ r : Rep S (a.tmps.getD i undef) (.sl .no es), (es.length ≤ n ∧ (es.length = n → (M.κ id = 0 → a.tmps.getD i undef = .slice none 0 0) ∧ (∀ c, M.κ id = c + 1 → a.tmps.getD i undef = .slice (some ⟨M.ψ id, 0, none⟩) n c))) := by
    generalize a.tmps.getD i undef = v at hrow
    cases hrow with
    | clean r => cases r
    | row _ _ _ r t => exact ⟨r, t n sz e hid⟩
  obtain ⟨r, t⟩ := key
  refine h B S _ a w ⟨hs1.defers, hs1.hn, hs1.hB, hs1.stable, fun k => ?_, fun k r hr => ?_, hs1.blk, hs1.row, hs1.inj, hs1.injq, hs1.injx, hs1.rm, hs1.vc, ⟨hs1.pn.h, hs1.pn.q⟩, hs1.hz⟩
  · show RepS _ _ _ _ (upd s.fr i (.sl (.row d) es) k)
    by_cases ek : i = k
    · subst ek
      rw [upd_same]
      refine .row d _ es r fun n' sz' e' hq => ?_
      have hq' : upd (upd s.m.q id (some .dead)) d (some (.live n sz e)) d = some (.live n' sz' e') := hq
      rw [upd_same] at hq'
      cases hq'
      refine ⟨t.1, fun el => ?_⟩
      have := t.2 el
      simpa only [upd_same] using this
    · rw [upd_ne _ _ ek]; exact hs1.fr k
  · have hr' : r ∈ (upd s.fr i (.sl (.row d) es) k).ids := hr
    by_cases ek : i = k
    · subst ek
      rw [upd_same] at hr'
      simp only [PV.ids, List.mem_singleton] at hr'
      subst hr'
      show upd _ _ _ _ ≠ none
      simp [upd_same]
    · rw [upd_ne _ _ ek] at hr'; exact hs1.ids k r hr'
end
end Go.PL

namespace Go.PL
open Go.RowKit
set_option linter.unusedVariables false
section
variable {P : Program} {s : St} {Q : Exit → St → Prop}
end
end Go.PL

namespace Go.PL
open Go.RowKit
set_option linter.unusedVariables false

section
variable {P : Program} {ops : Array Oper} {md : Region.Mode}

/-! ### Where an address comes from, by the text -/
def isDst (ops : Array Oper) (t : Nat) : Bool := ops.toList.any fun o => o.dst == some t
/-- the slot is from outside, or moved from there -/
def outS (ops : Array Oper) (x : Nat) : Bool := !isDst ops x || ops.toList.any fun o => o.dst == some x && match o.op with | .move (.tmp y) => !isDst ops y | _ => false
/-- the slot behind an address that a fieldAddr or an indexAddr makes -/
def adrOf (ops : Array Oper) (o : Oper) : Option Nat := match o.op with
  | .fieldAddr _ (.tmp x) _ => some x
  | .indexAddr _ (.tmp x) _ => if outS ops x then some x else none
  | .move (.tmp x) => if isDst ops x then none else some x
  | _ => none
/-- the slot is from outside, or made by a fieldAddr ahead of the operation -/
def srcOk (md : Region.Mode) (ops : Array Oper) (root : Nat → Nat) (o : Oper) (x : Nat) : Bool :=
  (!isDst ops x && root x == x) || o.after.any fun e => Region.binds md e && match ops[e.on]? with
    | some o' => o'.dst == some x && match adrOf ops o' with | some x' => root x' == root x | none => false
    | none => false
def adrOk (md : Region.Mode) (ops : Array Oper) (root : Nat → Nat) : Bool := ops.toList.all fun o => match adrOf ops o with | some x => srcOk md ops root o x | none => true
def onceB : List Oper → Bool
  | [] => true
  | o :: l => (match o.dst with | some d => l.all fun o' => o'.dst != some d | none => true) && onceB l

def isAl (o : Oper) : Bool := match o.op with | .alloc _ => true | _ => false
/-- the slot is made by an alloc ahead of the operation -/
def alB (md : Region.Mode) (ops : Array Oper) (o : Oper) (y : Nat) : Bool := o.after.any fun e => Region.binds md e && match ops[e.on]? with
    | some o' => o'.dst == some y && isAl o'
    | none => false

structure Good (ops : Array Oper) (root : Nat → Nat) (s0 : St) (listed : Array Bool) (s : St) : Prop where
  ext : ∀ t, isDst ops t = false → s.fr t = s0.fr t
  adr : ∀ k o d x, ops[k]? = some o → adrOf ops o = some x → o.dst = some d → listed.getD k false = true → ∀ r ∈ (s.fr d).dids, r ∈ (s0.fr (root x)).dids
  al : ∀ k o d, ops[k]? = some o → isAl o = true → o.dst = some d → listed.getD k false = true → ∀ r ∈ (s.fr d).dids, r = .b d

theorem Good.alloc {root : Nat → Nat} {s0 s : St} {listed : Array Bool} (g : Good ops root s0 listed s) {k : Nat} {o : Oper} {y : Nat} (ho : ops[k]? = some o) (hr : k ∈ Region.ready md ops listed) (hs : alB md ops o y = true) : ∀ r ∈ (s.fr y).dids, r = .b y := by
  obtain ⟨e, he, hb⟩ := Array.any_eq_true'.1 hs
  simp only [Bool.and_eq_true] at hb
  obtain ⟨hb, hm⟩ := hb
  obtain ⟨_, o1, ho1, hall⟩ := mem_ready.1 hr
  rw [ho] at ho1; cases ho1
  have hl := hall e he hb
  cases ho' : ops[e.on]? with
  | none => rw [ho'] at hm; cases hm
  | some o' =>
    rw [ho'] at hm
    simp only [Bool.and_eq_true, beq_iff_eq] at hm
    exact g.al e.on o' y ho' hm.2 hm.1 hl
theorem al_step {o : Oper} {d : Nat} (ha : isAl o = true) (hd : o.dst = some d) {ρ : Operand → PV} {m m' : Hp} {v : PV} (h : StepM P o ρ m v m') : ∀ r ∈ v.dids, r = .b d := by
  unfold isAl at ha
  split at ha
  · rename_i t heq
    rcases h with ⟨h1, h2, h3⟩ | ⟨c, g, args, hc, _⟩
    · have hop : aop P o ρ m = match o.dst, tzero P t with
        | some d, some z => ⟨m.h d = none, .ptr d 0, m.new d z⟩
        | _, _ => .fail := by unfold aop; rw [heq]; rfl
      rw [hd] at hop
      cases hz : tzero P t with
      | none => rw [hz] at hop; rw [hop] at h1; exact h1.elim
      | some z =>
        rw [hz] at hop
        rw [h2, hop]
        intro r hr
        simpa [PV.dids] using hr
    · rw [heq] at hc; cases hc
  · cases ha

theorem Good.src {root : Nat → Nat} {s0 s : St} {listed : Array Bool} (g : Good ops root s0 listed s) {k : Nat} {o : Oper} {x : Nat} (ho : ops[k]? = some o) (hr : k ∈ Region.ready md ops listed) (hs : srcOk md ops root o x = true) :
    ∀ r ∈ (s.fr x).dids, r ∈ (s0.fr (root x)).dids := by
  simp only [srcOk, Bool.or_eq_true, Bool.and_eq_true, Bool.not_eq_true', beq_iff_eq] at hs
  rcases hs with ⟨h1, h2⟩ | h
  · rw [g.ext x h1, h2]; exact fun r hr => hr
  · obtain ⟨e, he, hb⟩ := Array.any_eq_true'.1 h
    simp only [Bool.and_eq_true] at hb
    obtain ⟨hb, hm⟩ := hb
    obtain ⟨_, o1, ho1, hall⟩ := mem_ready.1 hr
    rw [ho] at ho1; cases ho1
    have hl := hall e he hb
    cases ho' : ops[e.on]? with
    | none => rw [ho'] at hm; cases hm
    | some o' =>
      rw [ho'] at hm
      simp only [Bool.and_eq_true, beq_iff_eq] at hm
      obtain ⟨hd, hm⟩ := hm
      cases ha : adrOf ops o' with
      | none => rw [ha] at hm; cases hm
      | some x' =>
        rw [ha] at hm
        simp only [beq_iff_eq] at hm
        rw [← hm]
        exact g.adr e.on o' x x' ho' ha hd hl

theorem isDst_of {k : Nat} {o : Oper} {d : Nat} (ho : ops[k]? = some o) (hd : o.dst = some d) : isDst ops d = true := by
  unfold isDst
  rw [List.any_eq_true]
  obtain ⟨hk, rfl⟩ := Array.getElem?_eq_some_iff.1 ho
  exact ⟨ops[k], by simp, by simp [hd]⟩

theorem onceB_spec : ∀ {l : List Oper}, onceB l = true → ∀ (i j : Nat) (oi oj : Oper) (d : Nat), l[i]? = some oi → l[j]? = some oj → oi.dst = some d → oj.dst = some d → i = j
  | [], _, i, j, oi, oj, d, h, _, _, _ => by simp at h
  | o :: l, hB, i, j, oi, oj, d, hi, hj, di, dj => by
    simp only [onceB, Bool.and_eq_true] at hB
    obtain ⟨h1, h2⟩ := hB
    cases i with
    | zero =>
      cases j with
      | zero => rfl
      | succ j =>
        simp only [List.getElem?_cons_zero, Option.some.injEq] at hi
        simp only [List.getElem?_cons_succ] at hj
        subst hi
        rw [di] at h1
        have := List.all_eq_true.1 h1 oj (List.mem_of_getElem? hj)
        simp [dj] at this
    | succ i =>
      cases j with
      | zero =>
        simp only [List.getElem?_cons_zero, Option.some.injEq] at hj
        simp only [List.getElem?_cons_succ] at hi
        subst hj
        rw [dj] at h1
        have := List.all_eq_true.1 h1 oi (List.mem_of_getElem? hi)
        simp [di] at this
      | succ j =>
        simp only [List.getElem?_cons_succ] at hi hj
        rw [onceB_spec h2 i j oi oj d hi hj di dj]

theorem adr_step {o : Oper} {x : Nat} (ha : adrOf ops o = some x) {ρ : Operand → PV} {m m' : Hp} {v : PV} (h : StepM P o ρ m v m') : ∀ r ∈ v.dids, r ∈ (ρ (.tmp x)).dids := by
  unfold adrOf at ha
  split at ha
  · rename_i t y f heq
    cases ha
    rcases h with ⟨h1, h2, h3⟩ | ⟨c, g, args, hc, _⟩
    · rw [h2]
      have hop : aop P o ρ m = aFieldAddr P t (ρ (.tmp x)) f m := by unfold aop; rw [heq]
      rw [hop]
      exact v_fieldAddr
    · rw [heq] at hc; cases hc
  · rename_i t y i heq
    split at ha
    · cases ha
      rcases h with ⟨h1, h2, h3⟩ | ⟨c, g, args, hc, _⟩
      · rw [h2]
        have hop : aop P o ρ m = aIndexAddr P t (ρ (.tmp x)) (ρ i) m := by unfold aop; rw [heq]
        rw [hop]
        exact v_indexAddr
      · rw [heq] at hc; cases hc
    · cases ha
  · rename_i y heq
    split at ha
    · cases ha
    · cases ha
      rcases h with ⟨h1, h2, h3⟩ | ⟨c, g, args, hc, _⟩
      · rw [h2]
        have hop : aop P o ρ m = ⟨True, ρ (.tmp x), m⟩ := by unfold aop; rw [heq]
        rw [hop]
        exact fun r hr => hr
      · rw [heq] at hc; cases hc
  · cases ha

theorem Good.next {root : Nat → Nat} {s0 s s' : St} {listed : Array Bool} (g : Good ops root s0 listed s) (h1 : adrOk md ops root = true) (h2 : onceB ops.toList = true) {k : Nat} {o : Oper} (ho : ops[k]? = some o)
    (hr : k ∈ Region.ready md ops listed) (hy : Yield P ops o s s') : Good ops root s0 (listed.setIfInBounds k true) s' := by
  have hfr : ∀ t, o.dst ≠ some t → s'.fr t = s.fr t := fun t ht => by
    obtain ⟨_, hy⟩ := hy
    rcases hy with ⟨_, v, m', _, rfl⟩ | ⟨_, rfl⟩
    · rw [put_fr ht]; rfl
    · rw [put_fr ht]
  refine ⟨fun t ht => ?_, fun k2 o2 d x ho2 ha hd hl r hr' => ?_, fun k2 o2 d ho2 ha hd hl r hr' => ?_⟩
  rotate_left 2
  · by_cases hk : k = k2
    · subst hk
      rw [ho] at ho2; cases ho2
      obtain ⟨_, hy⟩ := hy
      rcases hy with ⟨_, v, m', st, rfl⟩ | ⟨_, rfl⟩
      · have hv : ((s.with m').put o.dst v).fr d = v := by rw [hd]; simp [St.put, upd]
        rw [hv] at hr'
        exact al_step ha hd st r hr'
      · have hv : (s.put o.dst (.tup [])).fr d = .tup [] := by rw [hd]; simp [St.put, upd]
        rw [hv] at hr'
        simp [PV.dids, PV.didsL] at hr'
    · rw [getD_set_ne false hk] at hl
      have hne : o.dst ≠ some d := fun e => hk (onceB_spec h2 k k2 o o2 d (by simpa using ho) (by simpa using ho2) e hd)
      rw [hfr d hne] at hr'
      exact g.al k2 o2 d ho2 ha hd hl r hr'
  · rw [hfr t (fun e => by rw [isDst_of ho e] at ht; cases ht), g.ext t ht]
  · by_cases hk : k = k2
    · subst hk
      rw [ho] at ho2; cases ho2
      have hs : srcOk md ops root o x = true := by
        have := List.all_eq_true.1 h1 o (by obtain ⟨hk, rfl⟩ := Array.getElem?_eq_some_iff.1 ho; simp)
        rw [ha] at this; exact this
      obtain ⟨_, hy⟩ := hy
      rcases hy with ⟨_, v, m', st, rfl⟩ | ⟨_, rfl⟩
      · have hv : ((s.with m').put o.dst v).fr d = v := by rw [hd]; simp [St.put, upd]
        rw [hv] at hr'
        exact g.src ho hr hs r (adr_step ha st r hr')
      · have hv : (s.put o.dst (.tup [])).fr d = .tup [] := by rw [hd]; simp [St.put, upd]
        rw [hv] at hr'
        simp [PV.dids, PV.didsL] at hr'
    · rw [getD_set_ne false hk] at hl
      have hne : o.dst ≠ some d := fun e => hk (onceB_spec h2 k k2 o o2 d (by simpa using ho) (by simpa using ho2) e hd)
      rw [hfr d hne] at hr'
      exact g.adr k2 o2 d x ho2 ha hd hl r hr'

end
end Go.PL
