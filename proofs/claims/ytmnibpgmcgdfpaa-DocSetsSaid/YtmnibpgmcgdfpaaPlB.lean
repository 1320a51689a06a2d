/- A logic of values for functions that only read and build, over the model (part 2): no statement of the seat is proved here. -/
import Derived.Test.YtmnibpgmcgdfpaaPlA
import Derived.Deep.AppendSrc
import Derived.Deep.Upon
import Derived.Laws.IdiomStrings
import Derived.Laws.BytesString
set_option linter.unusedSimpArgs false
set_option linter.unusedVariables false
namespace Go.PL
open Go.RowKit
set_option linter.unusedVariables false

inductive Leaf where
  | int | bool | str
  deriving DecidableEq

mutual
def leaves (P : Program) : Nat → TypeId → Option (List Leaf)
  | 0, _ => none
  | n + 1, t => match P.underlying t with
    | some (.int _) => some [.int]
    | some .bool => some [.bool]
    | some .string => some [.str]
    | some (.struct fs) => if P.stoodInHeld t then none else leavesF P n 0 fs.toList
    | some (.array len e) => match leaves P n e with
      | some l => if l.length = tsz P e then some (List.replicate len l).flatten else none
      | none => none
    | _ => none
def leavesF (P : Program) : Nat → Nat → List Field → Option (List Leaf)
  | _, _, [] => some []
  | 0, _, _ :: _ => none
  | n + 1, off, f :: fs => if f.name = "_" ∨ f.offset ≠ off then none else
    match leaves P n f.type with
    | some l => if l.length = tsz P f.type then (match leavesF P n (off + l.length) fs with | some r => some (l ++ r) | none => none) else none
    | none => none
end

def eqLeaf : Leaf → PV → PV → Option Bool
  | .int, .int k a, .int k' b => if k = k' then some (a == b) else none
  | .bool, .bool a, .bool b => some (a == b)
  | .str, .str a, .str b => some (a == b)
  | _, _, _ => none
def eqLeaves : List Leaf → List PV → List PV → Option Bool
  | [], [], [] => some true
  | l :: ls, c :: cs, d :: ds => match eqLeaf l c d, eqLeaves ls cs ds with
    | some x, some y => some (x && y)
    | _, _ => none
  | _, _, _ => none

section
variable {P : Program} {S : Stable} {M : Maps} {h : Rows}

def RepL (S : Stable) (M : Maps) (h : Rows) (vs : List Value) (cs : List PV) : Prop := vs.length = cs.length ∧ ∀ i, i < cs.length → RepS S M h (vs.getD i undef) (cs.getD i .any)

theorem RepL.cons {v : Value} {vs : List Value} {c : PV} {cs : List PV} (r : RepL S M h (v :: vs) (c :: cs)) : RepS S M h v c ∧ RepL S M h vs cs :=
  ⟨r.2 0 (by simp), by simpa using r.1, fun i hi => by simpa using r.2 (i + 1) (by simpa using hi)⟩
theorem RepL.take {vs : List Value} {cs : List PV} (r : RepL S M h vs cs) (n : Nat) : RepL S M h (vs.take n) (cs.take n) := by
  refine ⟨by simp [r.1], fun i hi => ?_⟩
  simp only [List.length_take] at hi
  rw [getD_take (by omega), getD_take (by omega)]
  exact r.2 i (by omega)
theorem RepL.drop {vs : List Value} {cs : List PV} (r : RepL S M h vs cs) (n : Nat) : RepL S M h (vs.drop n) (cs.drop n) := by
  refine ⟨by simp [r.1], fun i hi => ?_⟩
  simp only [List.length_drop] at hi
  rw [getD_drop, getD_drop]
  exact r.2 _ (by omega)

theorem eqLeaves_len : ∀ {ls : List Leaf} {cs ds : List PV} {r : Bool}, eqLeaves ls cs ds = some r → cs.length = ls.length ∧ ds.length = ls.length
  | [], [], [], _, _ => ⟨rfl, rfl⟩
  | l :: ls, c :: cs, d :: ds, r, h => by
    simp only [eqLeaves] at h
    split at h
    · rename_i x y h1 h2
      obtain ⟨e1, e2⟩ := eqLeaves_len h2
      simp [e1, e2]
    · cases h
  | [], c :: cs, _, _, h => by simp [eqLeaves] at h
  | [], [], d :: ds, _, h => by simp [eqLeaves] at h
  | l :: ls, [], _, _, h => by simp [eqLeaves] at h
  | l :: ls, c :: cs, [], _, h => by simp [eqLeaves] at h

theorem eqLeaves_append : ∀ {ls ls' : List Leaf} {cs ds : List PV} {r : Bool}, eqLeaves (ls ++ ls') cs ds = some r →
    ∃ x y, eqLeaves ls (cs.take ls.length) (ds.take ls.length) = some x ∧ eqLeaves ls' (cs.drop ls.length) (ds.drop ls.length) = some y ∧ r = (x && y)
  | [], ls', cs, ds, r, h => ⟨true, r, by simp [eqLeaves], by simpa using h, by simp⟩
  | l :: ls, ls', c :: cs, d :: ds, r, h => by
    simp only [List.cons_append, eqLeaves] at h
    split at h
    · rename_i x y h1 h2
      obtain ⟨x', y', e1, e2, e3⟩ := eqLeaves_append h2
      refine ⟨x && x', y', ?_, by simpa using e2, ?_⟩
      · simp only [List.length_cons, List.take_succ_cons, eqLeaves, h1, e1]
      · simp only [Option.some.injEq] at h
        rw [← h, e3, Bool.and_assoc]
    · cases h
  | l :: ls, ls', [], _, _, h => by simp [eqLeaves] at h
  | l :: ls, ls', c :: cs, [], _, h => by simp [eqLeaves] at h

def cellsVal (P : Program) (t : TypeId) (vs : List Value) : Value := if tagg P t then .agg ⟨vs⟩ else vs.getD 0 undef

theorem run_part_val {e : TypeId} {d : TypeDesc} {vs : List Value} {off : Nat} (hu : P.underlying e = some d) (hoff : off + tsz P e ≤ vs.length) (h1 : tagg P e = false → tsz P e = 1) (w : World) :
    (part e ⟨vs⟩ off).run P w = .ok (cellsVal P e ((vs.drop off).take (tsz P e))) w := by
  obtain ⟨i, hi⟩ := info_of_und hu
  unfold part cellsVal
  cases hg : tagg P e with
  | true =>
    simp only [Sem.run_bind, run_isAgg hu, Result.andThen_ok, hg, if_true, run_szo hi, Sem.run_pure]
    simp
  | false =>
    have hz := h1 hg
    simp only [Sem.run_bind, run_isAgg hu, Result.andThen_ok, hg, Bool.false_eq_true, if_false, hz]
    have : off < vs.length := by omega
    simp [this]

theorem leaves_agg {n : Nat} {t : TypeId} {ls : List Leaf} (h : leaves P n t = some ls) : (∃ d, P.underlying t = some d) ∧ (tagg P t = false → ls.length = 1) := by
  cases n with
  | zero => simp [leaves] at h
  | succ n =>
    unfold leaves at h
    unfold tagg
    cases e : P.underlying t with
    | none => rw [e] at h; simp at h
    | some d =>
      refine ⟨⟨d, rfl⟩, ?_⟩
      rw [e] at h
      cases d <;> simp_all <;> (try (rw [← h]; rfl))

/-- an array's elements, one by one -/
def eqElems (d : Nat) (e : TypeId) (n : Nat) (xs ys : Array Value) : Nat → Nat → Sem Bool
  | _, 0 => Pure.pure true
  | i, k + 1 => do
    let a ← part e xs (i * n)
    let b ← part e ys (i * n)
    let r ← Op.equalIn d e a b
    if (!r) = true then Pure.pure false else eqElems d e n xs ys (i + 1) k

theorem run_equalIn_array (w : World) (d : Nat) (t e : TypeId) (len : Nat) (i : TypeInfo) (xs ys : Array Value) (ht : P.underlying t = some (.array len e)) (hi : P.info? e = some i) :
    (Op.equalIn (d + 1) t (.agg xs) (.agg ys)).run P w = (eqElems d e (tsz P e) xs ys 0 len).run P w := by
  simp only [Op.equalIn, Sem.run_bind, run_und ht, Result.andThen_ok, run_szo hi]
  rw [Std.Legacy.Range.forIn_eq_forIn_range']
  simp only [Std.Legacy.Range.size, Nat.sub_zero, Nat.add_sub_cancel, Nat.div_one]
  generalize (0 : Nat) = s
  clear ht
  induction len generalizing w s with
  | zero => simp [eqElems]
  | succ k ih =>
    simp only [List.range'_succ, List.forIn_cons, eqElems, Sem.run_bind]
    generalize (part e xs (s * tsz P e)).run P w = r1
    cases r1 with
    | ok a w1 =>
      simp only [Result.andThen_ok]
      generalize (part e ys (s * tsz P e)).run P w1 = r2
      cases r2 with
      | ok b w2 =>
        simp only [Result.andThen_ok]
        generalize (Op.equalIn d e a b).run P w2 = r3
        cases r3 with
        | ok r w3 =>
          cases r
          · simp only [Result.andThen_ok, Bool.not_false, if_true, Sem.run_pure]
          · simp only [Result.andThen_ok, Bool.not_true, Bool.false_eq_true, if_false, Sem.run_pure]
            exact ih w3 (s + 1)
        | halt x w3 => simp [Result.andThen]
      | halt x w2 => simp [Result.andThen]
    | halt x w1 => simp [Result.andThen]

def EqOk (P : Program) (S : Stable) (M : Maps) (h : Rows) (d : Nat) (t : TypeId) (ls : List Leaf) : Prop :=
  ∀ vs us cs ds r, RepL S M h vs cs → RepL S M h us ds → eqLeaves ls cs ds = some r → ∀ w, (Op.equalIn d t (cellsVal P t vs) (cellsVal P t us)).run P w = .ok r w

theorem eqElems_ok {d : Nat} {e : TypeId} {l : List Leaf} {de : TypeDesc} (hu : P.underlying e = some de) (hl : l.length = tsz P e) (h1 : tagg P e = false → tsz P e = 1) (he : EqOk P S M h d e l) :
    ∀ (k s : Nat) (vs us : List Value) (cs ds : List PV) (r : Bool), RepL S M h vs cs → RepL S M h us ds → eqLeaves (List.replicate k l).flatten (cs.drop (s * tsz P e)) (ds.drop (s * tsz P e)) = some r →
      s * tsz P e ≤ cs.length → s * tsz P e ≤ ds.length → ∀ w, (eqElems d e (tsz P e) ⟨vs⟩ ⟨us⟩ s k).run P w = .ok r w
  | 0, s, vs, us, cs, ds, r, rv, ru, hr, _, _, w => by
    simp only [List.replicate_zero, List.flatten_nil] at hr
    have : r = true := by
      revert hr
      cases cs.drop (s * tsz P e) <;> cases ds.drop (s * tsz P e) <;> simp [eqLeaves]
    subst this
    rfl
  | k + 1, s, vs, us, cs, ds, r, rv, ru, hr, hc, hd, w => by
    simp only [List.replicate_succ, List.flatten_cons] at hr
    obtain ⟨x, y, e1, e2, rfl⟩ := eqLeaves_append hr
    obtain ⟨f1, f2⟩ := eqLeaves_len e1
    simp only [List.length_take, List.length_drop] at f1 f2
    have p1 := run_part_val (vs := vs) (off := s * tsz P e) hu (by rw [rv.1]; omega) h1 w
    have p2 := run_part_val (vs := us) (off := s * tsz P e) hu (by rw [ru.1]; omega) h1 w
    have q := he _ _ _ _ x ((rv.drop (s * tsz P e)).take (tsz P e)) ((ru.drop (s * tsz P e)).take (tsz P e)) (by rw [hl] at e1; exact e1) w
    have e2' : eqLeaves (List.replicate k l).flatten (cs.drop ((s + 1) * tsz P e)) (ds.drop ((s + 1) * tsz P e)) = some y := by
      rw [List.drop_drop, List.drop_drop, hl] at e2
      rw [Nat.add_mul, Nat.one_mul]
      exact e2
    have ih := eqElems_ok hu hl h1 he k (s + 1) vs us cs ds y rv ru e2' (by rw [Nat.add_mul, Nat.one_mul]; omega) (by rw [Nat.add_mul, Nat.one_mul]; omega) w
    simp only [eqElems, Sem.run_bind, p1, p2, q, Result.andThen_ok]
    cases x
    · simp
    · simpa using ih

theorem eqLeaf_int {c d : PV} {x : Bool} (h : eqLeaf .int c d = some x) : ∃ k a b, c = .int k a ∧ d = .int k b ∧ x = (a == b) := by
  cases c <;> cases d <;> simp [eqLeaf] at h
  obtain ⟨rfl, rfl⟩ := h
  exact ⟨_, _, _, rfl, rfl, rfl⟩
theorem eqLeaf_bool {c d : PV} {x : Bool} (h : eqLeaf .bool c d = some x) : ∃ a b, c = .bool a ∧ d = .bool b ∧ x = (a == b) := by
  cases c <;> cases d <;> simp [eqLeaf] at h
  subst h
  exact ⟨_, _, rfl, rfl, rfl⟩
theorem eqLeaf_str {c d : PV} {x : Bool} (h : eqLeaf .str c d = some x) : ∃ a b, c = .str a ∧ d = .str b ∧ x = (a == b) := by
  cases c <;> cases d <;> simp [eqLeaf] at h
  subst h
  exact ⟨_, _, rfl, rfl, rfl⟩

mutual
theorem eq_ok : ∀ (n : Nat) (t : TypeId) (ls : List Leaf), leaves P n t = some ls → ∀ d, n ≤ d → EqOk P S M h d t ls
  | 0, _, _, hh, _, _ => by simp [leaves] at hh
  | n + 1, t, ls, hh, d, hd => by
    obtain ⟨d, rfl⟩ : ∃ d', d = d' + 1 := ⟨d - 1, by omega⟩
    intro vs us cs ds r rv ru hr w
    have one : ∀ {c' d' : PV}, cs = [c'] → ds = [d'] → RepS S M h (vs.getD 0 undef) c' ∧ RepS S M h (us.getD 0 undef) d' := fun h1 h2 => by
      subst h1; subst h2; exact ⟨rv.2 0 (by simp), ru.2 0 (by simp)⟩
    unfold leaves at hh
    cases e : P.underlying t with
    | none => rw [e] at hh; simp at hh
    | some dd =>
      rw [e] at hh
      have leaf : ∀ {lf : Leaf}, ls = [lf] → ∃ c' d', cs = [c'] ∧ ds = [d'] ∧ ∃ x, eqLeaf lf c' d' = some x ∧ r = x := by
        intro lf hl
        subst hl
        obtain ⟨e1, e2⟩ := eqLeaves_len hr
        obtain ⟨c', rfl⟩ := List.length_eq_one_iff.1 e1
        obtain ⟨d', rfl⟩ := List.length_eq_one_iff.1 e2
        simp only [eqLeaves] at hr
        split at hr
        · rename_i x y h1 h2
          simp only [Option.some.injEq] at h2
          subst h2
          refine ⟨c', d', rfl, rfl, x, h1, ?_⟩
          simpa using hr.symm
        · cases hr
      cases dd with
      | int k0 =>
        simp only [Option.some.injEq] at hh
        obtain ⟨c', d', h1, h2, x, hx, rfl⟩ := leaf hh.symm
        obtain ⟨r1, r2⟩ := one h1 h2
        have ht : tagg P t = false := by simp [tagg, e]
        obtain ⟨k, x1, x2, rfl, rfl, rfl⟩ := eqLeaf_int hx
        simp only [cellsVal, ht, Bool.false_eq_true, if_false]
        rw [r1.int_inv, r2.int_inv]
        exact run_equalIn_int w d t _ k0 _ _ e
      | bool =>
        simp only [Option.some.injEq] at hh
        obtain ⟨c', d', h1, h2, x, hx, rfl⟩ := leaf hh.symm
        obtain ⟨r1, r2⟩ := one h1 h2
        have ht : tagg P t = false := by simp [tagg, e]
        obtain ⟨x1, x2, rfl, rfl, rfl⟩ := eqLeaf_bool hx
        simp only [cellsVal, ht, Bool.false_eq_true, if_false]
        rw [r1.bool_inv, r2.bool_inv]
        exact run_equalIn_bool' w d t _ _ e
      | string =>
        simp only [Option.some.injEq] at hh
        obtain ⟨c', d', h1, h2, x, hx, rfl⟩ := leaf hh.symm
        obtain ⟨r1, r2⟩ := one h1 h2
        have ht : tagg P t = false := by simp [tagg, e]
        obtain ⟨x1, x2, rfl, rfl, rfl⟩ := eqLeaf_str hx
        simp only [cellsVal, ht, Bool.false_eq_true, if_false]
        rw [r1.str_inv, r2.str_inv, run_equalIn_string w d t _ _ e, ByteArray.toList_eq, ByteArray.toList_eq]
      | struct fs =>
        simp only at hh
        split at hh
        · cases hh
        · rename_i hst
          have ht : tagg P t = true := by simp [tagg, e]
          have hf : P.fieldsOf t = fs := by simp [Program.fieldsOf, e]
          simp only [cellsVal, ht, if_true]
          rw [run_equalIn_struct w d t _ _ (by rw [hf]; exact e) (by simpa using hst), hf]
          exact eqF_ok n 0 fs.toList ls hh d (by omega) vs us cs ds r rv ru (by simpa using hr) (Nat.zero_le _) (Nat.zero_le _) w
      | array len el =>
        simp only at hh
        split at hh
        · rename_i l hl
          split at hh
          · rename_i hlen
            simp only [Option.some.injEq] at hh
            subst hh
            have ht : tagg P t = true := by simp [tagg, e]
            obtain ⟨⟨de, hde⟩, h1⟩ := leaves_agg hl
            obtain ⟨i, hi⟩ := info_of_und hde
            simp only [cellsVal, ht, if_true]
            rw [run_equalIn_array w d t el len i _ _ e hi]
            exact eqElems_ok hde hlen (fun hg => by rw [← hlen]; exact h1 hg) (eq_ok n el l hl d (by omega)) len 0 vs us cs ds r rv ru (by simpa using hr) (by simp) (by simp) w
          · cases hh
        · cases hh
      | _ => simp at hh
theorem eqF_ok : ∀ (n off : Nat) (fs : List Field) (ls : List Leaf), leavesF P n off fs = some ls → ∀ d, n ≤ d → ∀ vs us cs ds r, RepL S M h vs cs → RepL S M h us ds →
    eqLeaves ls (cs.drop off) (ds.drop off) = some r → off ≤ cs.length → off ≤ ds.length → ∀ w, (Op.eqFields d ⟨vs⟩ ⟨us⟩ fs).run P w = .ok r w
  | n, off, [], ls, hh, d, hd, vs, us, cs, ds, r, rv, ru, hr, _, _, w => by
    have : ls = [] := by cases n <;> simp [leavesF] at hh <;> exact hh
    subst this
    have : r = true := by
      revert hr
      cases cs.drop off <;> cases ds.drop off <;> simp [eqLeaves]
    subst this
    rfl
  | 0, off, f :: fs, ls, hh, d, hd, vs, us, cs, ds, r, rv, ru, hr, _, _, w => by simp [leavesF] at hh
  | n + 1, off, f :: fs, ls, hh, d, hd, vs, us, cs, ds, r, rv, ru, hr, hc, hdd, w => by
    simp only [leavesF] at hh
    split at hh
    · cases hh
    · rename_i hno
      have hname : f.name ≠ "_" := fun e => hno (.inl e)
      have hoff : f.offset = off := Decidable.byContradiction fun e => hno (.inr e)
      split at hh
      · rename_i l hl
        split at hh
        · rename_i hlen
          split at hh
          · rename_i rest hrest
            simp only [Option.some.injEq] at hh
            subst hh
            obtain ⟨⟨de, hde⟩, h1⟩ := leaves_agg hl
            obtain ⟨x, y, e1, e2, rfl⟩ := eqLeaves_append hr
            obtain ⟨f1, f2⟩ := eqLeaves_len e1
            simp only [List.length_take, List.length_drop] at f1 f2
            have h1' : tagg P f.type = false → tsz P f.type = 1 := fun hg => by rw [← hlen]; exact h1 hg
            have p1 := run_part_val (vs := vs) (off := off) hde (by rw [rv.1]; omega) h1' w
            have p2 := run_part_val (vs := us) (off := off) hde (by rw [ru.1]; omega) h1' w
            have q := eq_ok n f.type l hl d (by omega) _ _ _ _ x ((rv.drop off).take (tsz P f.type)) ((ru.drop off).take (tsz P f.type)) (by rw [hlen] at e1; exact e1) w
            have ih := eqF_ok n (off + l.length) fs rest hrest d (by omega) vs us cs ds y rv ru (by rw [← List.drop_drop, ← List.drop_drop]; exact e2) (by omega) (by omega) w
            simp only [Op.eqFields, hname, ne_eq, not_false_eq_true, if_true, Sem.run_bind, hoff, p1, p2, q, Result.andThen_ok]
            cases x
            · simp
            · simpa using ih
          · cases hh
        · cases hh
      · cases hh
end
end
end Go.PL

namespace Go.PL
open Go.RowKit
set_option linter.unusedVariables false

/-- how many kinds of types deep two values may be held against each other -/
def eqDepth : Nat := 40
/-- the leaves of a type whose values may be held against each other -/
def tleaves (P : Program) (t : TypeId) : Option (List Leaf) := if P.eqGuardType P.depth t || !tagg P t then none else leaves P eqDepth t

def bytesLt : List UInt8 → List UInt8 → Bool := Op.bytesLess

def aInt (op : BinOp) (k k' : IntKind) (a b : Int) (m : Hp) : ARes :=
  match op with
  | .add => ⟨k = k', .int k (k.wrap (a + b)), m⟩
  | .sub => ⟨k = k', .int k (k.wrap (a - b)), m⟩
  | .mul => ⟨k = k', .int k (k.wrap (a * b)), m⟩
  | .quo => ⟨k = k' ∧ b ≠ 0, .int k (k.wrap (a.tdiv b)), m⟩
  | .rem => ⟨k = k' ∧ b ≠ 0, .int k (a.tmod b), m⟩
  | .eql => ⟨k = k', .bool (a == b), m⟩
  | .neq => ⟨k = k', .bool (a != b), m⟩
  | .lss => ⟨k = k', .bool (decide (a < b)), m⟩
  | .leq => ⟨k = k', .bool (decide (a ≤ b)), m⟩
  | .gtr => ⟨k = k', .bool (decide (b < a)), m⟩
  | .geq => ⟨k = k', .bool (decide (b ≤ a)), m⟩
  | .and => ⟨k = k', .int k (k.wrap ((BitVec.ofInt k.bits a &&& BitVec.ofInt k.bits b).toNat)), m⟩
  | .or => ⟨k = k', .int k (k.wrap ((BitVec.ofInt k.bits a ||| BitVec.ofInt k.bits b).toNat)), m⟩
  | .xor => ⟨k = k', .int k (k.wrap ((BitVec.ofInt k.bits a ^^^ BitVec.ofInt k.bits b).toNat)), m⟩
  | .shl => ⟨0 ≤ b, .int k (k.wrap (a * 2 ^ (min b.toNat k.bits))), m⟩
  | .shr => ⟨0 ≤ b, .int k (a.fdiv (2 ^ (min b.toNat k.bits))), m⟩
  | _ => .fail

def aStr (op : BinOp) (a b : List UInt8) (m : Hp) : ARes :=
  match op with
  | .add => ⟨(a.length + b.length : Int) ≤ 9223372036854775807, .str (a ++ b), m⟩
  | .eql => ⟨True, .bool (a == b), m⟩
  | .neq => ⟨True, .bool (!(a == b)), m⟩
  | .lss => ⟨True, .bool (bytesLt a b), m⟩
  | .leq => ⟨True, .bool (bytesLt a b || a == b), m⟩
  | .gtr => ⟨True, .bool (!(bytesLt a b || a == b)), m⟩
  | .geq => ⟨True, .bool (!bytesLt a b), m⟩
  | _ => .fail

/-- two pointers, one of them nil -/
def ptrNil : PV → PV → Option Bool
  | .nilp, .nilp => some true
  | .nilp, .ptr _ _ | .nilp, .rptr _ | .ptr _ _, .nilp | .rptr _, .nilp => some false
  | _, _ => none
/-- a slice against nil -/
def slNil : PV → PV → Option Bool
  | .sl .nil _, .sl .nil _ => some true
  | .sl _ (_ :: _), .sl .nil _ => some false
  | .sl .nil _, .sl _ (_ :: _) => some false
  | .osl _ _ _ _, .sl .nil _ => some false
  | _, _ => none
/-- a map against nil -/
def mapNil : PV → PV → Option Bool
  | .nilmap, .nilmap => some true
  | .nilmap, .mref _ | .nilmap, .rmap _ _ | .mref _, .nilmap | .rmap _ _, .nilmap => some false
  | _, _ => none
inductive EqK where
  | bool | ptr | slc | map | other
def teqk (P : Program) (t : TypeId) : EqK :=
  match P.underlying t with
  | some .bool => .bool
  | some (.pointer _) => .ptr
  | some (.slice _) => .slc
  | some (.map _ _) => .map
  | _ => .other

def aEq (neg : Bool) (r : Option Bool) (m : Hp) : ARes := match r with | some b => ⟨True, .bool (if neg then !b else b), m⟩ | none => .fail

def aEql (P : Program) (neg : Bool) (t : TypeId) (x y : PV) (m : Hp) : ARes :=
  match x, y with
  | .agg cs, .agg ds => match tleaves P t with
    | some ls => aEq neg (eqLeaves ls cs ds) m
    | none => .fail
  | .bool a, .bool b => match teqk P t with | .bool => aEq neg (some (a == b)) m | _ => .fail
  | x, y => match teqk P t with
    | .ptr => aEq neg (ptrNil x y) m
    | .slc => aEq neg (slNil x y) m
    | .map => aEq neg (mapNil x y) m
    | _ => .fail

def aFlt (op : BinOp) (k k' : FloatKind) (a b : Nat) (m : Hp) : ARes :=
  match op with
  | .eql => ⟨k = k', .bool (k.format.order a b == some .eq), m⟩
  | .neq => ⟨k = k', .bool (k.format.order a b != some .eq), m⟩
  | .lss => ⟨k = k', .bool (k.format.order a b == some .lt), m⟩
  | .leq => ⟨k = k', .bool (k.format.order a b == some .lt || k.format.order a b == some .eq), m⟩
  | .gtr => ⟨k = k', .bool (k.format.order a b == some .gt), m⟩
  | .geq => ⟨k = k', .bool (k.format.order a b == some .gt || k.format.order a b == some .eq), m⟩
  | _ => .fail
def aBin (P : Program) (op : BinOp) (t : TypeId) (x y : PV) (m : Hp) : ARes :=
  match x, y with
  | .int k a, .int k' b => aInt op k k' a b m
  | .str a, .str b => aStr op a b m
  | .flt k a, .flt k' b => aFlt op k k' a b m
  | x, y => match op with
    | .eql => aEql P false t x y m
    | .neq => aEql P true t x y m
    | _ => .fail

section
variable {P : Program} {B : Frm} {S : Stable} {M : Maps} {s : St} {a : Act} {w : World}

theorem sound_int (hs : Sim B S M s a w) {op : BinOp} {t : TypeId} {k k' : IntKind} {x y : Int} (hok : (aInt op k k' x y s.m).ok) :
    Snd P B S s a w (binOp op t (.int k x) (.int k' y)) (aInt op k k' x y s.m) := by
  have fin : ∀ {v : Value} {p : PV} {ok : Prop}, (binOp op t (.int k x) (.int k' y)).run P w = .ok v w → Rep S v p → Snd P B S s a w (binOp op t (.int k x) (.int k' y)) ⟨ok, p, s.m⟩ :=
    fun {v p ok} h1 h2 => Snd.pure hs h1 (.clean h2) (fun i hi => absurd hi (h2.clean_ids i))
  revert hok
  unfold aInt
  split
  case h_17 => exact fun hok => hok.elim
  all_goals intro hok
  all_goals first
    | (have e : k = k' := hok; subst e; refine fin ?_ (by constructor); simp [binOp, Op.intArith, Op.intCmp, Op.intBits]; done)
    | (obtain ⟨e, h0⟩ := hok; subst e; refine fin ?_ (by constructor); simp [binOp, Op.intDiv, h0]; done)
    | (have h0 : 0 ≤ y := hok; have h1 : ¬ y < 0 := by omega
       refine fin ?_ (by constructor); simp [binOp, Op.shift, h1]; done)

theorem sound_flt (hs : Sim B S M s a w) {op : BinOp} {t : TypeId} {k k' : FloatKind} {x y : Nat} (hok : (aFlt op k k' x y s.m).ok) :
    Snd P B S s a w (binOp op t (.float k x) (.float k' y)) (aFlt op k k' x y s.m) := by
  have fin : ∀ {v : Value} {p : PV} {ok : Prop}, (binOp op t (.float k x) (.float k' y)).run P w = .ok v w → Rep S v p → Snd P B S s a w (binOp op t (.float k x) (.float k' y)) ⟨ok, p, s.m⟩ :=
    fun {v p ok} h1 h2 => Snd.pure hs h1 (.clean h2) (fun i hi => absurd hi (h2.clean_ids i))
  revert hok
  unfold aFlt
  split
  case h_7 => exact fun hok => hok.elim
  all_goals intro hok
  all_goals
    have e : k = k' := hok
    subst e
    refine fin ?_ (by constructor)
    simp [binOp, Op.floatCmp]

theorem sound_str (hs : Sim B S M s a w) {op : BinOp} {t : TypeId} {x y : List UInt8} (hok : (aStr op x y s.m).ok) :
    Snd P B S s a w (binOp op t (.string ⟨⟨x⟩⟩) (.string ⟨⟨y⟩⟩)) (aStr op x y s.m) := by
  have fin : ∀ {v : Value} {p : PV} {ok : Prop}, (binOp op t (.string ⟨⟨x⟩⟩) (.string ⟨⟨y⟩⟩)).run P w = .ok v w → Rep S v p → Snd P B S s a w (binOp op t (.string ⟨⟨x⟩⟩) (.string ⟨⟨y⟩⟩)) ⟨ok, p, s.m⟩ :=
    fun {v p ok} h1 h2 => Snd.pure hs h1 (.clean h2) (fun i hi => absurd hi (h2.clean_ids i))
  have e1 : (⟨⟨x⟩⟩ : ByteArray).toList = x := by rw [ByteArray.toList_eq]
  have e2 : (⟨⟨y⟩⟩ : ByteArray).toList = y := by rw [ByteArray.toList_eq]
  revert hok
  unfold aStr
  split
  case h_8 => exact fun hok => hok.elim
  all_goals intro hok
  · refine fin (v := .string ⟨⟨x ++ y⟩⟩) ?_ (.str _)
    have hle : ¬ (((⟨⟨x⟩⟩ : ByteArray).size + (⟨⟨y⟩⟩ : ByteArray).size : Nat) : Int) > IntKind.i64.max := by
      have h2 : IntKind.i64.max = 9223372036854775807 := by decide
      rw [h2]
      have h3 : (⟨⟨x⟩⟩ : ByteArray).size = x.length := rfl
      have h4 : (⟨⟨y⟩⟩ : ByteArray).size = y.length := rfl
      simp only at hok
      rw [h3, h4]
      omega
    have e3 : (⟨⟨x⟩⟩ : ByteArray) ++ (⟨⟨y⟩⟩ : ByteArray) = ⟨⟨x ++ y⟩⟩ := by
      apply ByteArray.ext
      rw [ByteArray.data_append]
      simp
    simp only [binOp, Op.stringOp, hle, if_false, e3]
    rfl
  all_goals (refine fin ?_ (by constructor); simp [binOp, Op.stringOp, e1, e2, bytesLt])

theorem run_eqGuard_flat {op : BinOp} {t : TypeId} {x y : Operand} {v u : Value} (hv : v ≠ .nilIface) (hc : ∀ cs ds, v = .agg cs → u = .agg ds → P.eqGuardType P.depth t = false) : (eqGuard op t x y v u).run P w = .ok () w := by
  have go : ∀ op : BinOp, op = .eql ∨ op = .neq → (eqGuard op t x y v u).run P w = .ok () w := by
    intro op hop
    rcases hop with rfl | rfl
    all_goals
      unfold eqGuard
      simp only [Bool.not_true, Bool.false_eq_true, if_false]
      split
      · exact absurd rfl hv
      · have := hc _ _ rfl rfl
        simp [run_program, this]
      · rfl
  cases op <;> first | rfl | exact go _ (.inl rfl) | exact go _ (.inr rfl)

theorem RepS.nilp_inv {v : Value} {qq : Rows} (r : RepS S M qq v .nilp) : v = .pointer none := by
  cases r with | clean r => cases r; rfl

theorem binOp_eql_other {op : BinOp} {t : TypeId} {x y : Value} (hop : op = .eql ∨ op = .neq) (h1 : ∀ k n k' m, x = .int k n → y ≠ .int k' m) (h2 : ∀ k n k' m, x = .float k n → y ≠ .float k' m) (h3 : ∀ k n m k' n' m', x = .complex k n m → y ≠ .complex k' n' m')
    (h4 : ∀ u v, x = .string u → y ≠ .string v) {r : Bool} (he : (Op.equal t x y).run P w = .ok r w) : (binOp op t x y).run P w = .ok (.bool (if op = .neq then !r else r)) w := by
  rcases hop with rfl | rfl
  · cases x <;> cases y <;> first | (exact absurd rfl (h1 _ _ _ _ rfl)) | (exact absurd rfl (h2 _ _ _ _ rfl)) | (exact absurd rfl (h3 _ _ _ _ _ _ rfl)) | (exact absurd rfl (h4 _ _ rfl)) | (simp only [binOp, Sem.run_bind, he, Result.andThen_ok]; rfl)
  · cases x <;> cases y <;> first | (exact absurd rfl (h1 _ _ _ _ rfl)) | (exact absurd rfl (h2 _ _ _ _ rfl)) | (exact absurd rfl (h3 _ _ _ _ _ _ rfl)) | (exact absurd rfl (h4 _ _ rfl)) | (simp only [binOp, Sem.run_bind, he, Result.andThen_ok]; rfl)

theorem run_equalIn_ptr_nil_left (d : Nat) (t e : TypeId) (b : Option Addr) (h : P.underlying t = some (.pointer e)) : (Op.equalIn (d + 1) t (.pointer none) (.pointer b)).run P w = .ok b.isNone w := by
  simp [Op.equalIn, run_und h]
theorem run_equalIn_ptr_nil_right (d : Nat) (t e : TypeId) (b : Addr) (h : P.underlying t = some (.pointer e)) : (Op.equalIn (d + 1) t (.pointer (some b)) (.pointer none)).run P w = .ok false w := by
  simp [Op.equalIn, run_und h]
theorem run_equalIn_sl_nil_left (d : Nat) (t e : TypeId) (b : Option Addr) (n c : Nat) (h : P.underlying t = some (.slice e)) : (Op.equalIn (d + 1) t (.slice none 0 0) (.slice b n c)).run P w = .ok b.isNone w := by
  simp [Op.equalIn, run_und h]
theorem run_equalIn_sl_nil_right (d : Nat) (t e : TypeId) (b : Addr) (n c : Nat) (h : P.underlying t = some (.slice e)) : (Op.equalIn (d + 1) t (.slice (some b) n c) (.slice none 0 0)).run P w = .ok false w := by
  simp [Op.equalIn, run_und h]

theorem RepS.slnil_inv {v : Value} {qq : Rows} {es : List PV} (r : RepS S M qq v (.sl .nil es)) : v = .slice none 0 0 := by
  cases r with | clean r => cases r; rfl
theorem RepS.slcons_inv {v : Value} {qq : Rows} {t : Tok} {e : PV} {es : List PV} (r : RepS S M qq v (.sl t (e :: es))) : ∃ b n c, v = .slice (some b) n c := by
  obtain ⟨b, o, cap, vals, rfl, _⟩ := r.sl_inv.sl_at (i := 0) (by simp)
  exact ⟨_, _, _, rfl⟩

theorem teqk_bool {t : TypeId} (h : teqk P t = .bool) : P.underlying t = some .bool := by
  unfold teqk at h; split at h <;> first | assumption | cases h
theorem teqk_ptr {t : TypeId} (h : teqk P t = .ptr) : ∃ e, P.underlying t = some (.pointer e) := by
  unfold teqk at h; split at h <;> first | exact ⟨_, by assumption⟩ | cases h
theorem teqk_slc {t : TypeId} (h : teqk P t = .slc) : ∃ e, P.underlying t = some (.slice e) := by
  unfold teqk at h; split at h <;> first | exact ⟨_, by assumption⟩ | cases h
theorem teqk_map {t : TypeId} (h : teqk P t = .map) : ∃ k e, P.underlying t = some (.map k e) := by
  unfold teqk at h; split at h <;> first | exact ⟨_, _, by assumption⟩ | cases h
theorem run_equalIn_map_left (d : Nat) (t k e : TypeId) (b : Option Nat) (h : P.underlying t = some (.map k e)) : (Op.equalIn (d + 1) t (.map none) (.map b)).run P w = .ok b.isNone w := by
  simp [Op.equalIn, run_und h]
theorem run_equalIn_map_right (d : Nat) (t k e : TypeId) (b : Nat) (h : P.underlying t = some (.map k e)) : (Op.equalIn (d + 1) t (.map (some b)) (.map none)).run P w = .ok false w := by
  simp [Op.equalIn, run_und h]
theorem RepS.nilmap_inv {v : Value} {qq : Rows} (r : RepS S M qq v .nilmap) : v = .map none := by
  cases r with | clean r => cases r; rfl
theorem RepS.mref_inv {v : Value} {qq : Rows} {b : Nat} (r : RepS S M qq v (.mref b)) : v = .map (some b) := by
  cases r with | clean r => cases r; rfl
theorem RepS.rmap_inv {v : Value} {qq : Rows} {ks vs : List PV} (r : RepS S M qq v (.rmap ks vs)) : ∃ b, v = .map (some b) := by
  cases r with | clean r => cases r; exact ⟨_, rfl⟩

/-- two values held against each other -/
theorem sound_eql (hs : Sim B S M s a w) {op : BinOp} (hop : op = .eql ∨ op = .neq) {t : TypeId} {x y : Operand} {u v : Value} {p q : PV} (hu : RepS S M s.m.q u p) (hv : RepS S M s.m.q v q)
    (hok : (aEql P (decide (op = .neq)) t p q s.m).ok) : Snd P B S s a w (do eqGuard op t x y u v; binOp op t u v) (aEql P (decide (op = .neq)) t p q s.m) := by
  have fin : ∀ {r : Bool}, u ≠ .nilIface → (∀ cs ds, u = .agg cs → v = .agg ds → P.eqGuardType P.depth t = false) → (∀ k n k' m, u = .int k n → v ≠ .int k' m) → (∀ k n k' m, u = .float k n → v ≠ .float k' m) → (∀ k n m k' n' m', u = .complex k n m → v ≠ .complex k' n' m') →
      (∀ a b, u = .string a → v ≠ .string b) → (Op.equal t u v).run P w = .ok r w → Snd P B S s a w (do eqGuard op t x y u v; binOp op t u v) (aEq (decide (op = .neq)) (some r) s.m) := by
    intro r g0 g1 g2 g3 g4 g5 he
    refine Snd.pure hs (v := .bool (if op = .neq then !r else r)) ?_ ?_ (by simp [PV.ids])
    · simp only [Sem.run_bind, run_eqGuard_flat g0 g1, Result.andThen_ok]
      exact binOp_eql_other hop g2 g3 g4 g5 he
    · simp only [decide_eq_true_eq]
      exact .clean (.bool _)
  revert hok
  unfold aEql
  split
  · rename_i cs ds
    split
    · rename_i ls hls
      intro hok
      cases hr : eqLeaves ls cs ds with
      | none => rw [hr] at hok; exact hok.elim
      | some r =>
        obtain ⟨us, rfl, hl, hru⟩ := hu.agg_inv
        obtain ⟨vs, rfl, hl', hrv⟩ := hv.agg_inv
        unfold tleaves at hls
        split at hls
        · cases hls
        · rename_i hg
          simp only [Bool.or_eq_true, Bool.not_eq_true', not_or, Bool.not_eq_true, Bool.not_eq_false] at hg
          have hk := eq_ok (S := S) (M := M) (h := s.m.q) eqDepth t ls hls Op.maxDepth (by decide) us vs cs ds r ⟨hl, hru⟩ ⟨hl', hrv⟩ hr w
          refine fin (by simp) (fun _ _ _ _ => hg.1) (by simp) (by simp) (by simp) (by simp) ?_
          simpa [cellsVal, hg.2, Op.equal] using hk
    · intro hok; exact hok.elim
  · rename_i b1 b2
    split
    · rename_i heq
      intro hok
      obtain rfl := hu.bool_inv
      obtain rfl := hv.bool_inv
      exact fin (by simp) (by simp) (by simp) (by simp) (by simp) (by simp) (run_equal_bool w t b1 b2 (teqk_bool heq))
    · intro hok; exact hok.elim
  · rename_i hne1 hne2
    split
    · rename_i heq
      obtain ⟨e, he⟩ := teqk_ptr heq
      intro hok
      cases hr : ptrNil p q with
      | none => rw [hr] at hok; exact hok.elim
      | some r =>
        have hk : (Op.equal t u v).run P w = .ok r w ∧ ∃ x y, u = .pointer x ∧ v = .pointer y := by
          unfold ptrNil at hr
          split at hr
          · cases hr
            rw [hu.nilp_inv, hv.nilp_inv]
            exact ⟨run_equalIn_ptr_nil_left _ t e none he, _, _, rfl, rfl⟩
          · cases hr
            rw [hu.nilp_inv, hv.ptr_inv]
            exact ⟨run_equalIn_ptr_nil_left _ t e _ he, _, _, rfl, rfl⟩
          · cases hr
            obtain ⟨b, o, vals, e2, _⟩ := hv.rptr_inv
            rw [hu.nilp_inv, e2]
            exact ⟨run_equalIn_ptr_nil_left _ t e _ he, _, _, rfl, rfl⟩
          · cases hr
            rw [hu.ptr_inv, hv.nilp_inv]
            exact ⟨run_equalIn_ptr_nil_right _ t e _ he, _, _, rfl, rfl⟩
          · cases hr
            obtain ⟨b, o, vals, e2, _⟩ := hu.rptr_inv
            rw [e2, hv.nilp_inv]
            exact ⟨run_equalIn_ptr_nil_right _ t e _ he, _, _, rfl, rfl⟩
          · cases hr
        obtain ⟨hk, x', y', rfl, rfl⟩ := hk
        exact fin (by simp) (by simp) (by simp) (by simp) (by simp) (by simp) hk
    · rename_i heq
      obtain ⟨e, he⟩ := teqk_slc heq
      intro hok
      cases hr : slNil p q with
      | none => rw [hr] at hok; exact hok.elim
      | some r =>
        have hk : (Op.equal t u v).run P w = .ok r w ∧ ∃ x n c y n' c', u = .slice x n c ∧ v = .slice y n' c' := by
          unfold slNil at hr
          split at hr
          · cases hr
            rw [hu.slnil_inv, hv.slnil_inv]
            exact ⟨run_equalIn_sl_nil_left _ t e none _ _ he, _, _, _, _, _, _, rfl, rfl⟩
          · cases hr
            obtain ⟨b, n, c, e2⟩ := hu.slcons_inv
            rw [e2, hv.slnil_inv]
            exact ⟨run_equalIn_sl_nil_right _ t e _ _ _ he, _, _, _, _, _, _, rfl, rfl⟩
          · cases hr
            obtain ⟨b, n, c, e2⟩ := hv.slcons_inv
            rw [hu.slnil_inv, e2]
            exact ⟨run_equalIn_sl_nil_left _ t e _ _ _ he, _, _, _, _, _, _, rfl, rfl⟩
          · cases hr
            obtain ⟨cap, _, e2⟩ := hu.osl_inv
            rw [e2, hv.slnil_inv]
            exact ⟨run_equalIn_sl_nil_right _ t e _ _ _ he, _, _, _, _, _, _, rfl, rfl⟩
          · cases hr
        obtain ⟨hk, _, _, _, _, _, _, rfl, rfl⟩ := hk
        exact fin (by simp) (by simp) (by simp) (by simp) (by simp) (by simp) hk
    · rename_i heq
      obtain ⟨k, e, he⟩ := teqk_map heq
      intro hok
      cases hr : mapNil p q with
      | none => rw [hr] at hok; exact hok.elim
      | some r =>
        have hk : (Op.equal t u v).run P w = .ok r w ∧ ∃ x y, u = .map x ∧ v = .map y := by
          unfold mapNil at hr
          split at hr
          · cases hr
            rw [hu.nilmap_inv, hv.nilmap_inv]
            exact ⟨run_equalIn_map_left _ t k e none he, _, _, rfl, rfl⟩
          · cases hr
            rw [hu.nilmap_inv, hv.mref_inv]
            exact ⟨run_equalIn_map_left _ t k e _ he, _, _, rfl, rfl⟩
          · cases hr
            obtain ⟨b, e2⟩ := hv.rmap_inv
            rw [hu.nilmap_inv, e2]
            exact ⟨run_equalIn_map_left _ t k e _ he, _, _, rfl, rfl⟩
          · cases hr
            rw [hu.mref_inv, hv.nilmap_inv]
            exact ⟨run_equalIn_map_right _ t k e _ he, _, _, rfl, rfl⟩
          · cases hr
            obtain ⟨b, e2⟩ := hu.rmap_inv
            rw [e2, hv.nilmap_inv]
            exact ⟨run_equalIn_map_right _ t k e _ he, _, _, rfl, rfl⟩
          · cases hr
        obtain ⟨hk, _, _, rfl, rfl⟩ := hk
        exact fin (by simp) (by simp) (by simp) (by simp) (by simp) (by simp) hk
    · intro hok; exact hok.elim

theorem sound_bin (hs : Sim B S M s a w) {op : BinOp} {t : TypeId} {x y : Operand} {u v : Value} {p q : PV} (hu : RepS S M s.m.q u p) (hv : RepS S M s.m.q v q)
    (hok : (aBin P op t p q s.m).ok) : Snd P B S s a w (do eqGuard op t x y u v; binOp op t u v) (aBin P op t p q s.m) := by
  have pre : ∀ {r : ARes}, u ≠ .nilIface → (∀ cs ds, u = .agg cs → v ≠ .agg ds) → Snd P B S s a w (binOp op t u v) r → Snd P B S s a w (do eqGuard op t x y u v; binOp op t u v) r := by
    intro r g0 g1 h
    obtain ⟨z, w', S', M', h1, h2⟩ := h
    refine ⟨z, w', S', M', ?_, h2⟩
    simp only [Sem.run_bind, run_eqGuard_flat g0 (fun cs ds e1 e2 => absurd e2 (g1 cs ds e1)), Result.andThen_ok]
    exact h1
  revert hok
  unfold aBin
  split
  · intro hok
    obtain rfl := hu.int_inv
    obtain rfl := hv.int_inv
    exact pre (by simp) (by simp) (sound_int hs hok)
  · intro hok
    obtain rfl := hu.str_inv
    obtain rfl := hv.str_inv
    exact pre (by simp) (by simp) (sound_str hs hok)
  · intro hok
    obtain rfl := hu.flt_inv
    obtain rfl := hv.flt_inv
    exact pre (by simp) (by simp) (sound_flt hs hok)
  · split
    · intro hok; exact sound_eql hs (.inl rfl) hu hv hok
    · intro hok; exact sound_eql hs (.inr rfl) hu hv hok
    · intro hok; exact hok.elim
end
end Go.PL

namespace Go.PL
open Go.RowKit
set_option linter.unusedVariables false
section
variable {P : Program} {B : Frm} {S : Stable} {M : Maps} {s : St} {a : Act} {w : World}

/-- the stable cells, and the first k of block g besides -/
def addS (S : Stable) (g k : Nat) (vs : List Value) : Stable := ⟨fun b o => if b = g ∧ o < k then some (vs.getD o undef) else S b o, S.m, S.z, S.y⟩
theorem addS_c (S : Stable) (g k : Nat) (vs : List Value) (b o : Nat) : (addS S g k vs).c b o = if b = g ∧ o < k then some (vs.getD o undef) else S b o := rfl
/-- the stable cells, and some of block g besides -/
def addR (S : Stable) (g lo hi : Nat) (vs : List Value) : Stable := ⟨fun b o => if b = g ∧ lo ≤ o ∧ o < hi then some (vs.getD o undef) else S b o, S.m, S.z, S.y⟩
theorem addR_c (S : Stable) (g lo hi : Nat) (vs : List Value) (b o : Nat) : (addR S g lo hi vs).c b o = if b = g ∧ lo ≤ o ∧ o < hi then some (vs.getD o undef) else S b o := rfl


theorem upd_self {α : Type} (f : Nat → α) (i : Nat) : upd f i (f i) = f := by
  funext j
  by_cases h : i = j
  · subst h; rw [upd_same]
  · rw [upd_ne _ _ h]

/-- A ROW LAID ANEW in what is told: the world is as it was -/
theorem Sim.layRow (hs : Sim B S M s a w) {d ψ κ : Nat} {r : Row} (hle : s.m.q d = none ∨ RowLe M { M with ψ := upd M.ψ d ψ, κ := upd M.κ d κ } d (s.m.q d) (some r))
    (hrow : RowOk B S { M with ψ := upd M.ψ d ψ, κ := upd M.κ d κ } w d r) (hv : s.m.v d = none)
    (hnq : ∀ i r', i ≠ d → s.m.q i = some r' → r'.own = true → 0 < M.κ i → r.own = true → 0 < κ → M.ψ i ≠ ψ) (hnh : ∀ i cs, s.m.h i = some cs → s.m.z i = false → r.own = true → 0 < κ → M.φ i ≠ ψ) :
    Sim B S { M with ψ := upd M.ψ d ψ, κ := upd M.κ d κ } (s.with (s.m.setq d r)) a w := by
  have e1 : ∀ i, i ≠ d → upd M.ψ d ψ i = M.ψ i := fun i h => upd_ne _ _ (Ne.symm h)
  have e2 : ∀ i, i ≠ d → upd M.κ d κ i = M.κ i := fun i h => upd_ne _ _ (Ne.symm h)
  have e3 : ∀ i, i ≠ d → upd s.m.q d (some r) i = s.m.q i := fun i h => upd_ne _ _ (Ne.symm h)
  have rep : ∀ v p, RepS S M s.m.q v p → (∀ i ∈ p.ids, Live s.m i) → RepS S { M with ψ := upd M.ψ d ψ, κ := upd M.κ d κ } (s.m.setq d r).q v p := fun v p rr hids =>
    rr.heap (SLe.refl _) (fun _ _ => rfl) (fun i hi => by
      show RowLe M _ i (s.m.q i) (upd s.m.q d (some r) i)
      by_cases ei : i = d
      · subst ei
        rcases hle with hd | hle
        · exact absurd hd (hids _ hi)
        · rw [upd_same]; exact hle
      · exact .of_eq (e3 i ei) (e2 i ei) (e1 i ei))
  have live : ∀ i, Live s.m i → Live (s.m.setq d r) i := fun i h => live_setq i h
  refine ⟨hs.defers, hs.hn, hs.hB, hs.stable, fun i => rep _ _ (hs.fr i) (hs.ids i), fun i j hj => live j (hs.ids i j hj), fun i b hb => ?_, fun i r' hr => ?_, hs.inj, ?_, ?_, fun b c hc => ?_, fun i es he => ?_, hs.pn.move rfl rfl live (fun _ _ => rfl) fun i hi => ?_, hs.hz⟩
  rotate_right
  · show RowLe M _ i (s.m.q i) (upd s.m.q d (some r) i)
    by_cases ei : i = d
    · subst ei
      rcases hle with hd | hle
      · exact absurd hd hi
      · rw [upd_same]; exact hle
    · exact .of_eq (e3 i ei) (e2 i ei) (e1 i ei)
  · have hb' := hs.blk i b hb
    show BlkOk _ _ _ _ _ _ _ (s.m.z i)
    cases hz : s.m.z i with
    | false =>
      rw [hz] at hb'
      obtain ⟨h1, h2, ⟨us, t', h3, h4, h5⟩, h6⟩ := hb'
      exact ⟨h1, h2, ⟨us, t', h3, h4, fun j hj => rep _ _ (h5 j hj) (fun k hk => h6 _ (getD_mem hj) k hk)⟩, fun c hc k hk => live k (h6 c hc k hk)⟩
    | true => rw [hz] at hb'; exact hb'
  · simp only [St.with, Hp.setq] at hr
    by_cases ei : i = d
    · subst ei
      rw [upd_same] at hr
      cases hr
      exact hrow
    · rw [e3 i ei] at hr
      have := hs.row i r' hr
      cases r' with
      | live n' z' t' => simpa only [RowOk, e2 i ei, e1 i ei] using this
      | vec n' z' t' => simpa only [RowOk, e2 i ei, e1 i ei] using this
      | dead => trivial
  · intro i j r1 r2 hi hj o1 o2 ki kj hij
    simp only [St.with, Hp.setq] at hi hj ki kj ⊢
    by_cases ei : i = d
    · subst ei
      rw [e3 j (Ne.symm hij)] at hj
      rw [e2 j (Ne.symm hij)] at kj
      rw [upd_same] at ki hi ⊢
      cases hi
      rw [e1 j (Ne.symm hij)]
      exact Ne.symm (hnq j _ (Ne.symm hij) hj o2 kj o1 ki)
    · by_cases ej : j = d
      · subst ej
        rw [e3 i ei] at hi
        rw [e2 i ei] at ki
        rw [upd_same] at kj hj ⊢
        cases hj
        rw [e1 i ei]
        exact hnq i _ ei hi o1 ki o2 kj
      · rw [e3 i ei] at hi; rw [e3 j ej] at hj; rw [e2 i ei] at ki; rw [e2 j ej] at kj
        rw [e1 i ei, e1 j ej]
        exact hs.injq i j _ _ hi hj o1 o2 ki kj hij
  · intro i j ds r1 hi zi hj oj kj
    simp only [St.with, Hp.setq] at hi zi hj kj ⊢
    by_cases ej : j = d
    · subst ej
      rw [upd_same] at kj hj ⊢
      cases hj
      exact hnh i _ hi zi oj kj
    · rw [e3 j ej] at hj; rw [e2 j ej] at kj
      rw [e1 j ej]
      exact hs.injx i j _ _ hi zi hj oj kj
  · obtain ⟨g1, g2, g3, g4⟩ := hs.rm b c hc
    exact ⟨g1, g2, g3, g4.move (SLe.refl _) rfl rep live⟩
  · have ei : i ≠ d := fun e => by subst e; rw [show (s.with (s.m.setq i r)).m.v i = s.m.v i from rfl, hv] at he; cases he
    refine (hs.vc i es he).move (fun n sz e h => ?_) (e2 i ei) (e1 i ei) (fun _ => rfl) rep live
    show upd s.m.q d _ i = _
    rw [e3 i ei]; exact h

/-- what a vec holds is told no more -/
theorem Sim.forget (hs : Sim B S M s a w) (d : Nat) : Sim B S M (s.with { s.m with v := upd s.m.v d none }) a w := by
  have live : ∀ i, Live s.m i → Live { s.m with v := upd s.m.v d none } i := fun i h => by cases i <;> exact h
  refine ⟨hs.defers, hs.hn, hs.hB, hs.stable, hs.fr, fun i k hk => live k (hs.ids i k hk), fun i b hb => ?_, hs.row, hs.inj, hs.injq, hs.injx, fun b c hc => ?_, fun i es he => ?_, ⟨hs.pn.h, hs.pn.q⟩, hs.hz⟩
  · have hb' := hs.blk i b hb
    show BlkOk _ _ _ _ _ _ _ (s.m.z i)
    cases hz : s.m.z i with
    | false =>
      rw [hz] at hb'
      obtain ⟨h1, h2, ⟨us, t', h3, h4, h5⟩, h6⟩ := hb'
      exact ⟨h1, h2, ⟨us, t', h3, h4, h5⟩, fun c hc k hk => live k (h6 c hc k hk)⟩
    | true => rw [hz] at hb'; exact hb'
  · obtain ⟨g1, g2, g3, g4⟩ := hs.rm b c hc
    exact ⟨g1, g2, g3, g4.move (SLe.refl _) rfl (fun v p r _ => r) live⟩
  · by_cases e : d = i
    · subst e; simp only [St.with, upd_same] at he; cases he
    · simp only [St.with, upd_ne _ _ e] at he
      exact (hs.vc i es he).move (fun _ _ _ h => h) rfl rfl (fun _ => rfl) (fun v p r _ => r) live
/-- a row that is told no more -/
theorem Sim.deadRow (hs : Sim B S M s a w) (d : Nat) : Sim B S M (s.with ({ s.m with v := upd s.m.v d none }.setq d .dead)) a w := by
  have h := (hs.forget d).layRow (d := d) (ψ := M.ψ d) (κ := M.κ d) (r := .dead) (.inr .dead) trivial (upd_same _ _ _) (fun _ _ _ _ _ _ h => by cases h) (fun _ _ _ _ h => by cases h)
  rwa [upd_self, upd_self] at h

/-- a row in a new block -/
theorem Sim.newRow (hs : Sim B S M s a w) {d : Nat} {n sz c : Nat} {e : TypeId} {vs : List Value} {w' : World}
    (hd : s.m.q d = none ∨ ∃ n0 sz0 e0, s.m.q d = some (.live n0 sz0 e0) ∧ n0 < n) (hn : n ≤ c) (hc : c ≤ maxLen) (hl : vs.length = c * sz)
    (hw : ∀ k, k < w.heap.size → w'.heap[k]? = w.heap[k]?) (hnew : w'.heap[w.heap.size]? = some (.cells ⟨vs⟩ e (0, 0))) :
    Sim B (addS S w.heap.size (n * sz) vs) { M with ψ := upd M.ψ d w.heap.size, κ := upd M.κ d (c + 1) } (s.with (s.m.setq d (.live n sz e))) a w' := by
  have hkl : n * sz ≤ vs.length := by rw [hl]; exact Nat.mul_le_mul_right _ hn
  have hle : SLe S (addS S w.heap.size (n * sz) vs) := .cells rfl fun b o v hv => by
    rw [addS_c]
    rw [if_neg]
    · exact hv
    · rintro ⟨rfl, _⟩; rw [hs.S_lt (Nat.le_refl _)] at hv; cases hv
  have hlt : w.heap.size < w'.heap.size := (Array.getElem?_eq_some_iff.1 hnew).1
  have g := hs.grow (w' := w') hle (fun b hb => ⟨fun o => by rw [addS_c, if_neg]; rintro ⟨rfl, _⟩; omega, rfl⟩)
    ⟨fun b o v hv => by
      rw [addS_c] at hv
      split at hv
      · rename_i hb
        obtain ⟨rfl, ho⟩ := hb
        rw [cell_of hnew, List.getElem?_eq_getElem (by omega), ← hv, getD_lt (by omega)]
      · have h' := hs.stable b o v hv
        rw [← h']; exact World.cell?_of_block (hw _ (cell_lt h')), fun b es h => (hs.stable.s.old hw).m b es h, fun b h => (hs.stable.s.old hw).y b h⟩
    hw (by omega)
  have q1 : s.m.q d = none ∨ RowLe M { M with ψ := upd M.ψ d w.heap.size, κ := upd M.κ d (c + 1) } d (s.m.q d) (some (.live n sz e)) :=
    hd.imp (fun h => h) fun ⟨n0, sz0, e0, h1, h2⟩ => ⟨fun n' sz' e' h => by cases h; exact .inr ⟨n0, sz0, e0, h1, h2⟩, fun _ _ _ h => by cases h⟩
  refine g.layRow q1 ⟨fun h0 => by simp [upd_same] at h0, fun c' hc' => ?_⟩ (hs.v_none fun n1 z1 t1 h => by rcases hd with hd | ⟨_, _, _, hd, _⟩ <;> (rw [hd] at h; cases h)) (fun i r' _ hi oi ki _ _ => by have := hs.row_lt hi oi ki; omega) (fun i cs hi zi _ _ => by have := hs.blk_lt hi zi; omega)
  simp only [upd_same, Nat.add_right_cancel_iff] at hc'
  subst hc'
  refine ⟨hn, hc, by simp only [upd_same]; exact hs.new_ok, ⟨vs, by simp only [upd_same]; exact hnew, hl⟩, fun o ho => ?_⟩
  simp only [upd_same]
  rw [addS_c]
  rw [if_neg (by omega)]
  exact hs.S_lt (Nat.le_refl _)

/-- a row that grows where it lies -/
theorem Sim.growRow (hs : Sim B S M s a w) {d : Nat} {n m sz c : Nat} {e : TypeId} {news : List Value} (hd : s.m.q d = some (.live n sz e)) (hk : M.κ d = c + 1) (hm : n + m ≤ c) (hl : news.length = m * sz) :
    ∃ vs, w.heap[M.ψ d]? = some (.cells ⟨vs⟩ e (0, 0)) ∧ vs.length = c * sz ∧ ¬ B (M.ψ d) ∧ (∀ o, n * sz ≤ o → S (M.ψ d) o = none) ∧
      let vs' := vs.take (n * sz) ++ news ++ vs.drop (n * sz + news.length)
      Sim B (addR S (M.ψ d) (n * sz) ((n + m) * sz) vs') M (s.with (s.m.setq d (.live (n + m) sz e))) a (w.setRow (M.ψ d) ⟨vs'⟩) := by
  obtain ⟨_, hrow⟩ := hs.row d _ hd
  obtain ⟨r0, r0', r1, ⟨vs, r2, r3⟩, r4⟩ := hrow c hk
  refine ⟨vs, r2, r3, r1, r4, ?_⟩
  have hmul : (n + m) * sz ≤ c * sz := Nat.mul_le_mul_right _ hm
  have hsum : (n + m) * sz = n * sz + news.length := by rw [Nat.add_mul, hl]
  have hv' : (vs.take (n * sz) ++ news ++ vs.drop (n * sz + news.length)).length = c * sz := by
    simp only [List.length_append, List.length_take, List.length_drop]; omega
  intro vs'
  have hold : ∀ k, k ≠ M.ψ d → (w.setRow (M.ψ d) ⟨vs'⟩).heap[k]? = w.heap[k]? := fun k hk => setRow_old hk
  have hnew : (w.setRow (M.ψ d) ⟨vs'⟩).heap[M.ψ d]? = some (.cells ⟨vs'⟩ e (0, 0)) := setRow_new r2
  have hlt : M.ψ d < w.heap.size := (Array.getElem?_eq_some_iff.1 r2).1
  have hle : SLe S (addR S (M.ψ d) (n * sz) ((n + m) * sz) vs') := .cells rfl fun b o v hv => by
    show (if _ then _ else _) = some v
    rw [if_neg]
    · exact hv
    · rintro ⟨rfl, h1, _⟩; rw [r4 o h1] at hv; cases hv
  have e3 : ∀ i, i ≠ d → upd s.m.q d (some (.live (n + m) sz e)) i = s.m.q i := fun i h => upd_ne _ _ (Ne.symm h)
  have rep : ∀ {v p}, RepS S M s.m.q v p → RepS (addR S (M.ψ d) (n * sz) ((n + m) * sz) vs') M (upd s.m.q d (some (.live (n + m) sz e))) v p := fun r =>
    r.heap hle (fun _ _ => rfl) (fun i hi => by
      by_cases ei : i = d
      · subst ei
        rw [upd_same]
        refine ⟨fun n' sz' e' hq => ?_, fun _ _ _ h => by cases h⟩
        cases hq
        by_cases h0 : m = 0
        · subst h0; exact .inl ⟨hd, rfl, rfl⟩
        · exact .inr ⟨n, sz, e, hd, by omega⟩
      · exact .of_eq (e3 i ei) rfl rfl)
  have live : ∀ i, Live s.m i → Live (s.m.setq d (.live (n + m) sz e)) i := fun i h => by
    cases i with
    | b i => exact h
    | r i =>
      show upd _ _ _ _ ≠ none
      by_cases ei : i = d
      · subst ei; rw [upd_same]; simp
      · rw [e3 i ei]; exact h
  have back : ∀ {i r}, upd s.m.q d (some (.live (n + m) sz e)) i = some r → ∃ r2, s.m.q i = some r2 ∧ (r.own = true → r2.own = true) := fun {i r} h => by
    by_cases ei : i = d
    · subst ei; exact ⟨_, hd, fun _ => rfl⟩
    · rw [e3 i ei] at h; exact ⟨_, h, fun h => h⟩
  refine ⟨hs.defers, hs.hn, by rw [setRow_size]; exact hs.hB, hs.stable.move hle (fun b c hc => (hs.stable.o b c hc).2.1) ⟨fun b o v hv => ?_, fun b es he => ?_, fun b hb => by
    obtain ⟨vs1, t1, e1⟩ := hs.stable.s.y b hb
    by_cases e' : b = M.ψ d
    · rw [e'] at e1 ⊢; exact ⟨_, _, setRow_new e1⟩
    · exact ⟨vs1, t1, by rw [hold b e']; exact e1⟩⟩ (fun b c hc => hold b (fun e => by subst e; obtain ⟨es, h, _⟩ := (hs.stable.o _ c hc).2.2; rw [r2] at h; cases h)) (fun b x hx => hold b (fun e => by subst e; have h := (hs.stable.i _ x hx).2.1; unfold IterAt at h; rw [r2] at h; cases h)), fun i => rep (hs.fr i), fun i j hj => live j (hs.ids i j hj), fun i b hb => ?_, fun i r hr => ?_, hs.inj, ?_, ?_, fun b x hx => ?_, fun i es he => ?_, hs.pn.move rfl rfl live (fun _ _ => rfl) fun i hi => ?_, hs.hz⟩
  rotate_right
  · show RowLe M M i (s.m.q i) (upd s.m.q d _ i)
    by_cases ei : i = d
    · subst ei
      rw [upd_same]
      refine ⟨fun n' sz' e' hq => ?_, (by intro _ _ _ h; cases h)⟩
      cases hq
      by_cases h0 : m = 0
      · subst h0; exact .inl ⟨hd, rfl, rfl⟩
      · exact .inr ⟨n, sz, e, hd, by omega⟩
    · exact .of_eq (e3 i ei) rfl rfl
  · rw [addR_c] at hv
    split at hv
    · rename_i hb
      obtain ⟨rfl, ho1, ho2⟩ := hb
      rw [cell_of hnew, List.getElem?_eq_getElem (by rw [hv']; omega), ← hv, getD_lt (by rw [hv']; omega)]
    · rename_i hb
      have h' := hs.stable b o v hv
      by_cases eb : b = M.ψ d
      · subst eb
        have ho : o < n * sz := by
          refine Decidable.byContradiction fun h => ?_
          rw [r4 o (by omega)] at hv; cases hv
        rw [cell_of r2] at h'
        rw [cell_of hnew]
        show (vs.take (n * sz) ++ news ++ vs.drop (n * sz + news.length))[o]? = some v
        rw [List.append_assoc, List.getElem?_append_left (by simp; omega), List.getElem?_take_of_lt ho]
        exact h'
      · rw [← h']; exact World.cell?_of_block (hold b eb)
  · have h' := hs.stable.s.m b es he
    rw [hold b (fun e => by subst e; rw [r2] at h'; cases h')]; exact h'
  · have hb' := hs.blk i b hb
    show BlkOk _ _ _ _ _ _ _ (s.m.z i)
    cases hz : s.m.z i with
    | false =>
      rw [hz] at hb'
      obtain ⟨h1, h2, ⟨us, t', h3, h4, h5⟩, h6⟩ := hb'
      have hne := hs.injx i d _ _ hb hz hd rfl (by omega)
      refine ⟨h1, fun o => ?_, ⟨us, t', by rw [hold _ hne]; exact h3, h4, fun j hj => rep (h5 j hj)⟩, fun c hc k hk => live k (h6 c hc k hk)⟩
      show (if _ then _ else _) = none
      rw [if_neg (fun h => hne h.1)]; exact h2 o
    | true => rw [hz] at hb'; obtain ⟨vals, hv⟩ := hb'; exact ⟨vals, fun j hj => ⟨hle _ _ _ (hv j hj).1, (hv j hj).2.mono hle⟩⟩
  · simp only [St.with, Hp.setq] at hr
    by_cases ei : i = d
    · subst ei
      rw [upd_same] at hr
      cases hr
      refine ⟨fun h0 => by omega, fun c' hc' => ?_⟩
      obtain rfl : c' = c := by omega
      refine ⟨hm, r0', r1, ⟨vs', hnew, hv'⟩, fun o ho => ?_⟩
      show (if _ then _ else _) = none
      rw [if_neg (by omega)]
      exact r4 o (by rw [Nat.add_mul] at ho; omega)
    · rw [e3 i ei] at hr
      have hr' := hs.row i r hr
      cases r with
      | live n' sz' e' =>
        obtain ⟨h1, h2⟩ := hr'
        refine ⟨h1, fun c' hc' => ?_⟩
        obtain ⟨g0, g0', g1, ⟨us, g2, g3⟩, g4⟩ := h2 c' hc'
        have hne := hs.injq i d _ _ hr hd rfl rfl (by omega) (by omega) ei
        refine ⟨g0, g0', g1, ⟨us, by rw [hold _ hne]; exact g2, g3⟩, fun o ho => ?_⟩
        show (if _ then _ else _) = none
        rw [if_neg (fun h => hne h.1)]; exact g4 o ho
      | vec n' sz' e' =>
        obtain ⟨h1, h2⟩ := hr'
        refine ⟨h1, fun c' hc' => ?_⟩
        obtain ⟨g0, g0', g1, ⟨us, g2, g3⟩, g4⟩ := h2 c' hc'
        have hne := hs.injq i d _ _ hr hd rfl rfl (by omega) (by omega) ei
        refine ⟨g0, g0', g1, ⟨us, by rw [hold _ hne]; exact g2, g3⟩, fun o => ?_⟩
        show (if _ then _ else _) = none
        rw [if_neg (fun h => hne h.1)]; exact g4 o
      | dead => trivial
  · intro i j r1 r2 hi hj oi oj ki kj hij
    obtain ⟨_, hi', gi⟩ := back hi
    obtain ⟨_, hj', gj⟩ := back hj
    exact hs.injq i j _ _ hi' hj' (gi oi) (gj oj) ki kj hij
  · intro i j ds r1 hi zi hj oj kj
    obtain ⟨_, hj', gj⟩ := back hj
    exact hs.injx i j _ _ hi zi hj' (gj oj) kj
  · obtain ⟨g1, g2, g3, g4⟩ := hs.rm b x hx
    refine ⟨g1, g2, g3, g4.move hle (hold b fun ee => ?_) (fun v p r _ => rep r) live⟩
    obtain ⟨⟨es, k1, _⟩, _⟩ := g4
    subst ee; rw [r2] at k1; cases k1
  · obtain ⟨sz1, e1, q1⟩ := hs.vec_q he
    have ei : i ≠ d := fun e => by subst e; rw [hd] at q1; cases q1
    refine (hs.vc i es he).move (fun n sz e h => ?_) rfl rfl (fun hk => hold _ (hs.injq i d _ _ q1 hd rfl rfl hk (by omega) ei)) (fun v p r _ => rep r) live
    show upd s.m.q d _ i = _
    rw [e3 i ei]; exact h

theorem upd_none {α : Type} {f : Nat → Option α} {d : Nat} (h : f d = none) : upd f d none = f := by
  funext j
  by_cases e : d = j
  · subst e; rw [upd_same, h]
  · rw [upd_ne _ _ e]
/-- a row under another name -/
theorem Sim.moveRow (hs : Sim B S M s a w) {i d : Nat} {n sz : Nat} {e : TypeId} (hi : s.m.q i = some (.live n sz e)) (hd : s.m.q d = none) :
    Sim B S { M with ψ := upd M.ψ d (M.ψ i), κ := upd M.κ d (M.κ i) } (s.with ((s.m.setq i .dead).setq d (.live n sz e))) a w := by
  have hid : i ≠ d := fun h => by subst h; rw [hi] at hd; cases hd
  have hs1 := hs.deadRow i
  rw [upd_none (hs.v_none fun _ _ _ h => by rw [hi] at h; cases h)] at hs1
  have h := hs1.layRow (d := d) (ψ := M.ψ i) (κ := M.κ i) (r := .live n sz e) (.inl ?_) ?_ (hs.v_none fun _ _ _ h => by rw [hd] at h; cases h) (fun j r' hj hq oj kj _ ki => ?_) (fun j cs hj zj _ ki => hs.injx j i cs _ hj zj hi rfl ki)
  · exact h
  · show upd s.m.q i _ d = none
    rw [upd_ne _ _ hid]; exact hd
  · have := hs.row i _ hi
    simpa only [RowOk, upd_same] using this
  · have hji : j ≠ i := fun e => by subst e; simp only [St.with, Hp.setq, upd_same, Option.some.injEq] at hq; subst hq; cases oj
    have hq' : s.m.q j = some r' := by simpa only [St.with, Hp.setq, upd_ne _ _ (Ne.symm hji)] using hq
    exact hs.injq j i _ _ hq' hi oj rfl kj ki hji
/-- what a vec of which nothing is told holds -/
theorem Sim.layVec (hs : Sim B S M s a w) {d : Nat} {es : List PV} (hv : VecOk S M s.m w d es) : Sim B S M (s.with { s.m with v := upd s.m.v d (some es) }) a w := by
  have live : ∀ i, Live s.m i → Live { s.m with v := upd s.m.v d (some es) } i := fun i h => by cases i <;> exact h
  refine ⟨hs.defers, hs.hn, hs.hB, hs.stable, hs.fr, fun i k hk => live k (hs.ids i k hk), fun i b hb => ?_, hs.row, hs.inj, hs.injq, hs.injx, fun b c hc => ?_, fun i es' he => ?_, ⟨hs.pn.h, hs.pn.q⟩, hs.hz⟩
  · have hb' := hs.blk i b hb
    show BlkOk _ _ _ _ _ _ _ (s.m.z i)
    cases hz : s.m.z i with
    | false =>
      rw [hz] at hb'
      obtain ⟨h1, h2, ⟨us, t', h3, h4, h5⟩, h6⟩ := hb'
      exact ⟨h1, h2, ⟨us, t', h3, h4, h5⟩, fun c hc k hk => live k (h6 c hc k hk)⟩
    | true => rw [hz] at hb'; exact hb'
  · obtain ⟨g1, g2, g3, g4⟩ := hs.rm b c hc
    exact ⟨g1, g2, g3, g4.move (SLe.refl _) rfl (fun v p r _ => r) live⟩
  · by_cases e : d = i
    · subst e
      simp only [St.with, upd_same, Option.some.injEq] at he
      subst he
      exact hv.move (fun _ _ _ h => h) rfl rfl (fun _ => rfl) (fun v p r _ => r) live
    · simp only [St.with, upd_ne _ _ e] at he
      exact (hs.vc i es' he).move (fun _ _ _ h => h) rfl rfl (fun _ => rfl) (fun v p r _ => r) live
/-- a vec under another name -/
theorem Sim.moveVec (hs : Sim B S M s a w) {i d : Nat} {es : List PV} {sz : Nat} {e : TypeId} (hi : s.m.q i = some (.vec es.length sz e)) (hvi : s.m.v i = some es) (hd : s.m.q d = none) :
    Sim B S { M with ψ := upd M.ψ d (M.ψ i), κ := upd M.κ d (M.κ i) } (s.with { ({ s.m with v := upd s.m.v i none }.setq i .dead).setq d (.vec es.length sz e) with v := upd (upd s.m.v i none) d (some es) }) a w := by
  have hid : i ≠ d := fun h => by subst h; rw [hi] at hd; cases hd
  have hs1 := hs.deadRow i
  have hvd : s.m.v d = none := hs.v_none fun _ _ _ h => by rw [hd] at h; cases h
  have hq1 : (s.with ({ s.m with v := upd s.m.v i none }.setq i .dead)).m.q d = none := by
    show upd s.m.q i _ d = none
    rw [upd_ne _ _ hid]; exact hd
  have h := hs1.layRow (d := d) (ψ := M.ψ i) (κ := M.κ i) (r := .vec es.length sz e) (.inl hq1) (by have := hs.row i _ hi; simpa only [RowOk, upd_same] using this) (by show upd s.m.v i none d = none; rw [upd_ne _ _ hid]; exact hvd) (fun j r' hj hq oj kj _ ki => by
      have hji : j ≠ i := fun e => by subst e; simp only [St.with, Hp.setq, upd_same, Option.some.injEq] at hq; subst hq; cases oj
      have hq' : s.m.q j = some r' := by simpa only [St.with, Hp.setq, upd_ne _ _ (Ne.symm hji)] using hq
      exact hs.injq j i _ _ hq' hi oj rfl kj ki hji) (fun j cs hj zj _ ki => hs.injx j i cs _ hj zj hi rfl ki)
  refine h.layVec (es := es) ?_
  refine (hs.vc i es hvi).move (fun n1 z1 t1 hq => ?_) (by simp only [upd_same]) (by simp only [upd_same]) (fun _ => rfl) (fun v p r hids => ?_) (fun k hk => live_setq k (live_setq k (by cases k <;> exact hk)))
  · rw [hi] at hq; cases hq
    exact upd_same _ _ _
  · refine r.heap (SLe.refl _) (fun _ _ => rfl) fun k hk => ?_
    show RowLe M _ k (s.m.q k) (upd (upd s.m.q i (some .dead)) d _ k)
    by_cases e1 : d = k
    · subst e1; exact absurd hd (hids _ hk)
    · rw [upd_ne _ _ e1]
      by_cases e2 : i = k
      · subst e2; rw [upd_same]; exact .dead
      · rw [upd_ne _ _ e2]; exact .same (upd_ne _ _ e1) (upd_ne _ _ e1)
end
end Go.PL

namespace Go.PL
open Go.RowKit
set_option linter.unusedVariables false

/-- each element takes so many cells -/
def Sized (n : Nat) (es : List PV) : Prop := ∀ e ∈ es, e.cells.length = n
/-- each cell of each element is the value of one cell -/
def Atoms (es : List PV) : Prop := ∀ e ∈ es, e.cells.all PV.atom = true

structure EInfo where
  e : TypeId
  size : Nat
  bytes : Nat
/-- a slice type's elements: the type, its cells, its bytes; it has a zero value of as many cells -/
def telem (P : Program) (t : TypeId) : Option EInfo :=
  match P.underlying t with
  | some (.slice e) => match P.info? e with
    | some i => match i.zero with
      | some z => if z.cells.size = i.size ∧ 0 < i.size then some ⟨e, i.size, i.bytes⟩ else none
      | none => none
    | none => none
  | _ => none
theorem telem_spec {P : Program} {t : TypeId} {x : EInfo} (h : telem P t = some x) : ∃ i z, P.underlying t = some (.slice x.e) ∧ P.info? x.e = some i ∧ i.zero = some z ∧ z.cells.size = x.size ∧ i.size = x.size ∧ i.bytes = x.bytes ∧ 0 < x.size ∧ tsz P x.e = x.size := by
  unfold telem at h
  split at h
  · rename_i e he
    split at h
    · rename_i i hi
      split at h
      · rename_i z hz
        split at h
        · rename_i hc
          simp only [Option.some.injEq] at h
          subst h
          exact ⟨i, z, he, hi, hz, hc.1, rfl, rfl, hc.2, by simp [tsz, Program.cellsOf, hi]⟩
        · cases h
      · cases h
    · cases h
  · cases h

section
variable {P : Program} {B : Frm} {S : Stable} {M : Maps} {s : St} {a : Act} {w : World}

theorem flat_index {n i j : Nat} (hj : j < n) : (i * n + j) / n = i ∧ (i * n + j) % n = j := by
  have hn : 0 < n := by omega
  exact ⟨by rw [Nat.add_comm, Nat.add_mul_div_right _ _ hn, Nat.div_eq_of_lt hj, Nat.zero_add], by rw [Nat.add_comm, Nat.add_mul_mod_self_right, Nat.mod_eq_of_lt hj]⟩

/-- the cells of a slice that reads as a list -/
theorem Rep.src (hst : ∀ b o v, S b o = some v → w.cell? ⟨b, o, none⟩ = some v) {v : Value} {xs : List PV} {sz : Nat} (r : Rep S v (.sl .no xs)) (hz : Sized sz xs) (hat : Atoms xs) {tx e' : TypeId} (hk : P.underlying tx = some (.slice e')) :
    ∃ news : List Value, Src P sz tx v xs.length news w ∧ ∀ i j, i < xs.length → j < sz → Rep S (news.getD (i * sz + j) undef) ((xs.getD i .any).cells.getD j .any) := by
  by_cases h0 : xs.length = 0
  · have hx : xs = [] := List.eq_nil_of_length_eq_zero h0
    subst hx
    obtain ⟨ad, cap, rfl, _⟩ := r.sl_len
    refine ⟨[], ?_, fun i j hi => by simp at hi⟩
    cases ad with
    | none => exact Src.ofNil w hk cap
    | some ad => exact Src.ofSlice w hk ad 0 cap [] (by simp) (by simp) (by simp)
  · have hpos : 0 < xs.length := by omega
    obtain ⟨b, o, cap, vals, rfl, hcap, hu, hS, hR⟩ := r.sl_at hpos
    have e0 : (xs.getD 0 .any).cells.length = sz := hz _ (getD_mem hpos)
    rw [e0] at hS hR hu
    have key : ∀ k, k < xs.length * sz → (k / sz < xs.length ∧ k % sz < sz ∧ k / sz * sz + k % sz = k) := fun k hk => by
      have hsz : 0 < sz := Nat.pos_of_ne_zero fun h => by subst h; simp at hk
      exact ⟨by rw [Nat.div_lt_iff_lt_mul hsz]; exact hk, Nat.mod_lt _ hsz, by rw [Nat.mul_comm]; exact Nat.div_add_mod k sz⟩
    refine ⟨(List.range (xs.length * sz)).map fun k => vals (k / sz) (k % sz), ?_, fun i j hi hj => ?_⟩
    · refine Src.ofSlice w hk ⟨b, o, none⟩ xs.length cap _ (by simp) (fun k u hu' => ?_) (fun u hu' => ?_)
      · rw [List.getElem?_map] at hu'
        obtain ⟨k', hk', rfl⟩ := Option.map_eq_some_iff.1 hu'
        obtain ⟨h1, h2⟩ := List.getElem?_eq_some_iff.1 hk'
        simp only [List.length_range] at h1
        simp only [List.getElem_range] at h2
        subst h2
        obtain ⟨g1, g2, g3⟩ := key k h1
        rw [add_none]
        have := hst _ _ _ (hS (k / sz) (k % sz) g1 g2)
        rw [Nat.add_assoc, g3] at this
        exact this
      · obtain ⟨k, hk', rfl⟩ := List.mem_map.1 hu'
        obtain ⟨g1, g2, g3⟩ := key k (by simpa using hk')
        have hr := hR (k / sz) (k % sz) g1 g2
        have hc := hz _ (getD_mem (d := PV.any) g1)
        have ha := List.all_eq_true.1 (hat _ (getD_mem (d := PV.any) g1)) _ (getD_mem (d := PV.any) (by rw [hc]; exact g2))
        exact (RepS.clean (M := ⟨id, id, id⟩) (q := fun _ => none) hr).atom_inv ha
    · have hlt : i * sz + j < xs.length * sz := by
        have := Nat.mul_le_mul_right sz (show i + 1 ≤ xs.length by omega)
        rw [Nat.add_mul] at this
        omega
      rw [getD_lt (by simpa using hlt)]
      simp only [List.getElem_map, List.getElem_range]
      obtain ⟨d1, d2⟩ := flat_index (i := i) hj
      rw [d1, d2]
      exact hR i j hi hj

/-- a string's bytes, appended -/
def bytesPV (l : List UInt8) : List PV := l.map fun b => .int .u8 b.toNat

theorem src_string {tx : TypeId} (hk : P.underlying tx = some .string) (l : List UInt8) :
    ∃ news : List Value, Src P 1 tx (.string ⟨⟨l⟩⟩) (bytesPV l).length news w ∧ ∀ i j, i < (bytesPV l).length → j < 1 → Rep S (news.getD (i * 1 + j) undef) (((bytesPV l).getD i .any).cells.getD j .any) := by
  refine ⟨byteCells ⟨⟨l⟩⟩, ?_, fun i j hi hj => ?_⟩
  · have := Src.ofString (P := P) w hk ⟨⟨l⟩⟩
    have e : (⟨⟨l⟩⟩ : ByteArray).size = (bytesPV l).length := by simp [bytesPV, ByteArray.size]
    rw [e] at this
    exact this
  · obtain rfl : j = 0 := by omega
    simp only [bytesPV, List.length_map] at hi
    rw [Nat.mul_one, Nat.add_zero, getD_lt (by simpa [byteCells] using hi)]
    simp only [byteCells, List.getElem_map, bytesPV]
    rw [getD_lt (l := List.map _ l) (by simpa using hi)]
    simp only [List.getElem_map]
    exact .int _ _

/-- the cells of a slice whose elements lie at the head of a block -/
theorem rep_of_cells {b cap sz : Nat} {es : List PV} (hz : Sized sz es) (hcap : es.length ≤ cap) {cells : List Value} (hS : ∀ k, k < es.length * sz → S b k = some (cells.getD k undef))
    (hR : ∀ i j, i < es.length → j < sz → Rep S (cells.getD (i * sz + j) undef) ((es.getD i .any).cells.getD j .any)) : Rep S (.slice (some ⟨b, 0, none⟩) es.length cap) (.sl .no es) := by
  refine .sl b 0 cap sz es (fun i j => cells.getD (i * sz + j) undef) (fun i hi => hz _ (getD_mem hi)) hcap (fun i j hi hj => ?_) hR
  rw [Nat.zero_add]
  apply hS
  have := Nat.mul_le_mul_right sz (show i + 1 ≤ es.length by omega)
  rw [Nat.add_mul] at this
  omega

/-- the cells that a row's own value reads -/
theorem Rep.cells_of {v : Value} {es : List PV} {sz b c : Nat} (r : Rep S v (.sl .no es)) (hv : v = .slice (some ⟨b, 0, none⟩) es.length c) (hz : Sized sz es) :
    ∃ cells : List Value, cells.length = es.length * sz ∧ (∀ k, k < es.length * sz → S b k = some (cells.getD k undef)) ∧ ∀ i j, i < es.length → j < sz → Rep S (cells.getD (i * sz + j) undef) ((es.getD i .any).cells.getD j .any) := by
  by_cases h0 : es.length = 0
  · have hx : es = [] := List.eq_nil_of_length_eq_zero h0
    subst hx
    exact ⟨[], by simp, fun k hk => by simp at hk, fun i j hi => by simp at hi⟩
  · have hpos : 0 < es.length := by omega
    obtain ⟨b', o, cap, vals, e, hcap, hu, hS, hR⟩ := r.sl_at hpos
    rw [hv] at e
    cases e
    have e0 : (es.getD 0 .any).cells.length = sz := hz _ (getD_mem hpos)
    rw [e0] at hS hR hu
    refine ⟨(List.range (es.length * sz)).map fun k => vals (k / sz) (k % sz), by simp, fun k hk => ?_, fun i j hi hj => ?_⟩
    · have hsz : 0 < sz := Nat.pos_of_ne_zero fun h => by subst h; simp at hk
      have := hS (k / sz) (k % sz) (by rw [Nat.div_lt_iff_lt_mul hsz]; exact hk) (Nat.mod_lt _ hsz)
      rw [Nat.zero_add, Nat.mul_comm, Nat.div_add_mod] at this
      rw [getD_lt (by simpa using hk)]
      simpa using this
    · have hlt : i * sz + j < es.length * sz := by
        have := Nat.mul_le_mul_right sz (show i + 1 ≤ es.length by omega)
        rw [Nat.add_mul] at this
        omega
      rw [getD_lt (by simpa using hlt)]
      simp only [List.getElem_map, List.getElem_range]
      obtain ⟨d1, d2⟩ := flat_index (i := i) hj
      rw [d1, d2]
      exact hR i j hi hj

theorem reps_append {es xs : List PV} {sz : Nat} {c1 c2 : List Value} (hl : c1.length = es.length * sz) (h1 : ∀ i j, i < es.length → j < sz → Rep S (c1.getD (i * sz + j) undef) ((es.getD i .any).cells.getD j .any))
    (h2 : ∀ i j, i < xs.length → j < sz → Rep S (c2.getD (i * sz + j) undef) ((xs.getD i .any).cells.getD j .any)) :
    ∀ i j, i < (es ++ xs).length → j < sz → Rep S ((c1 ++ c2).getD (i * sz + j) undef) (((es ++ xs).getD i .any).cells.getD j .any) := by
  intro i j hi hj
  by_cases hlt : i < es.length
  · have hb : i * sz + j < c1.length := by
      have := Nat.mul_le_mul_right sz (show i + 1 ≤ es.length by omega)
      rw [Nat.add_mul] at this
      omega
    rw [getD_append_left hb, getD_append_left hlt]
    exact h1 i j hlt hj
  · have hb : c1.length ≤ i * sz + j := by
      have := Nat.mul_le_mul_right sz (show es.length ≤ i by omega)
      omega
    rw [getD_append_right hb, getD_append_right (by omega)]
    have e : i * sz + j - c1.length = (i - es.length) * sz + j := by
      rw [hl, Nat.sub_mul]
      have := Nat.mul_le_mul_right sz (show es.length ≤ i by omega)
      omega
    rw [e]
    exact h2 _ _ (by simp at hi; omega) hj

theorem Sized.append {n : Nat} {a b : List PV} (ha : Sized n a) (hb : Sized n b) : Sized n (a ++ b) := fun e he => (List.mem_append.1 he).elim (ha e) (hb e)

end
end Go.PL

namespace Go.PL
open Go.RowKit
set_option linter.unusedVariables false

/-- there is room for so many elements of so many bytes -/
def Room (n bytes : Nat) : Prop := n * bytes ≤ 140737488355328 ∧ n ≤ maxLen

theorem upd_upd {α : Type} (f : Nat → α) (i : Nat) (u v : α) : upd (upd f i u) i v = upd f i v := by
  funext j; by_cases e : i = j <;> simp [upd, e]

section
variable {P : Program} {B : Frm} {S : Stable} {M : Maps} {s : St} {a : Act} {w : World}

theorem Sim.world (hs : Sim B S M s a w) {w' : World} (h : w'.heap = w.heap) : Sim B S M s a w' := by
  have hc : ∀ x, w'.cell? x = w.cell? x := fun x => by simp [World.cell?, h]
  exact hs.grow (SLe.refl S) (fun _ _ => ⟨fun _ => rfl, rfl⟩) (hs.stable.s.old (fun k hk => by rw [h])) (fun k hk => by rw [h]) (by rw [h]; exact Nat.le_refl _)

/-- a nil row -/
theorem Sim.nilRow (hs : Sim B S M s a w) {d sz : Nat} {e : TypeId} (hd : s.m.q d = none) : Sim B S { M with κ := upd M.κ d 0 } (s.with (s.m.setq d (.live 0 sz e))) a w := by
  have h := hs.layRow (d := d) (ψ := M.ψ d) (κ := 0) (r := .live 0 sz e) (.inl hd) ⟨fun _ => rfl, fun c hc => by simp [upd_same] at hc⟩ (hs.v_none fun _ _ _ h => by rw [hd] at h; cases h) (fun _ _ _ _ _ _ _ h => absurd h (Nat.lt_irrefl _)) (fun _ _ _ _ _ h => absurd h (Nat.lt_irrefl _))
  rwa [upd_self] at h
/-- a nil vec -/
theorem Sim.nilVec (hs : Sim B S M s a w) {d sz : Nat} {e : TypeId} (hd : s.m.q d = none) : Sim B S { M with κ := upd M.κ d 0 } (s.with { s.m.setq d (.vec 0 sz e) with v := upd s.m.v d (some []) }) a w := by
  have h := hs.layRow (d := d) (ψ := M.ψ d) (κ := 0) (r := .vec 0 sz e) (.inl hd) ⟨fun _ => rfl, fun c hc => by simp [upd_same] at hc⟩ (hs.v_none fun _ _ _ h => by rw [hd] at h; cases h) (fun _ _ _ _ _ _ _ h => absurd h (Nat.lt_irrefl _)) (fun _ _ _ _ _ h => absurd h (Nat.lt_irrefl _))
  rw [upd_self] at h
  exact h.layVec (es := []) ⟨sz, e, upd_same _ _ _, fun _ h => by simp at h, fun _ h => by simp at h, fun c _ vs t f _ i j hi => by simp at hi⟩

/-- what an append onto the row d comes to -/
def AppTo (P : Program) (B : Frm) (S : Stable) (s : St) (a : Act) (w : World) (m : Sem Value) (d n sz : Nat) (e : TypeId) (es : List PV) : Prop :=
  ∃ v w' S' M', m.run P w = .ok v w' ∧ Sim B S' M' (s.with (s.m.setq d (.live n sz e))) a w' ∧ Rep S' v (.sl .no es) ∧ es.length = n ∧
    (M'.κ d = 0 → v = .slice none 0 0) ∧ (∀ c, M'.κ d = c + 1 → v = .slice (some ⟨M'.ψ d, 0, none⟩) n c) ∧ Ext B S S' w w'

/-- an append that makes a new row -/
theorem append_new (hs : Sim B S M s a w) {d n : Nat} {t tx ty : TypeId} {x : EInfo} (hx : telem P t = some x) {base : Option Addr} {sLen sCap : Nat} {es ys : List PV} {olds news : List Value} {y : Value}
    (hd : s.m.q d = none ∨ ∃ n0 sz0 e0, s.m.q d = some (.live n0 sz0 e0) ∧ n0 < sLen + ys.length) (hold : (Builtin.firstCells x.size sLen (.slice base sLen sCap)).run P w.drew = .ok olds.toArray w.drew)
    (hle : es.length = sLen) (ho : olds.length = sLen * x.size) (hro : ∀ i j, i < es.length → j < x.size → Rep S (olds.getD (i * x.size + j) undef) ((es.getD i .any).cells.getD j .any))
    (hsrc : Src P x.size tx y ys.length news w) (hrn : ∀ i j, i < ys.length → j < x.size → Rep S (news.getD (i * x.size + j) undef) ((ys.getD i .any).cells.getD j .any))
    (hz1 : Sized x.size es) (hz2 : Sized x.size ys) (hg : sCap < sLen + ys.length) (hroom : Room (sLen + ys.length) x.bytes) :
    AppTo P B S s a w (Builtin.append_ #[t, tx] ty #[.slice base sLen sCap, y]) d (sLen + ys.length) x.size x.e (es ++ ys) := by
  obtain ⟨i, z, h1, h2, h3, h4, h5, h6, h7, h8⟩ := telem_spec hx
  obtain ⟨r1, r2⟩ := hroom
  have h63 : ((sLen + ys.length : Nat) : Int) ≤ 9223372036854775807 := by simp only [maxLen] at r2; omega
  have hrun := run_append_grow_src (P := P) w t tx ty x.e i z h1 h2 h3 base sLen sCap olds (by rw [h5]; exact hold) y ys.length news (by rw [h5]; exact hsrc) hg h63
    (by rw [h6]; exact growslice_fits hg r1)
  have hge := grownCap_ge w (sLen + ys.length) sCap x.e
  have hcm := grownCap_le_maxLen w (sLen + ys.length) sCap x.e r2
  generalize hcap : grownCap w (sLen + ys.length) sCap x.e = cap at *
  have hlen : (olds ++ news).length = (sLen + ys.length) * x.size := by rw [List.length_append, ho, hsrc.newsLen, Nat.add_mul]
  let vs : List Value := olds ++ news ++ (Builtin.zeroCells z.cells (cap - (sLen + ys.length))).toList
  have hvl : vs.length = cap * x.size := by
    show (olds ++ news ++ _).length = _
    have hzl : (Builtin.zeroCells z.cells (cap - (sLen + ys.length))).toList.length = (cap - (sLen + ys.length)) * x.size := by
      rw [Array.length_toList, size_zeroCells, h4]
    rw [List.length_append, hlen, hzl, ← Nat.add_mul]
    congr 1
    omega
  have harr : (olds ++ news).toArray ++ Builtin.zeroCells z.cells (cap - (sLen + ys.length)) = ⟨vs⟩ := by
    apply Array.ext'
    simp [vs]
  rw [harr] at hrun
  have hsim := hs.newRow (w' := w.drew.alloc (.cells ⟨vs⟩ x.e)) hd hge hcm hvl (fun k hk => alloc_heap_old w.drew _ hk) (alloc_heap_new w.drew _)
  have hle' : SLe S (addS S w.heap.size ((sLen + ys.length) * x.size) vs) := .cells rfl fun b o v hv => by
    rw [addS_c]
    rw [if_neg]
    · exact hv
    · rintro ⟨rfl, _⟩; rw [hs.S_lt (Nat.le_refl _)] at hv; cases hv
  refine ⟨_, _, _, _, hrun, hsim, ?_, by simp [hle], ?_, ?_, hle', ?_, ?_⟩
  · have := rep_of_cells (S := addS S w.heap.size ((sLen + ys.length) * x.size) vs) (b := w.heap.size) (cap := cap) (es := es ++ ys) (sz := x.size) (hz1.append hz2) (by simp; omega) (cells := olds ++ news)
      (fun k hk => by
        have hk' : k < (olds ++ news).length := by rw [hlen]; simpa [hle] using hk
        rw [addS_c, if_pos ⟨rfl, by rw [← hlen]; exact hk'⟩]
        show some ((olds ++ news ++ _).getD k undef) = _
        rw [getD_append_left hk'])
      (fun i j hi hj => (reps_append (by rw [ho, hle]) hro hrn i j hi hj).mono hle')
    simpa [hle] using this
  · intro h0; simp [upd_same] at h0
  · intro c hc
    simp only [upd_same, Nat.add_right_cancel_iff] at hc ⊢
    rw [hc]
  · intro b hb
    refine ⟨fun o => ?_, rfl⟩
    rw [addS_c, if_neg]
    rintro ⟨rfl, _⟩
    exact hs.new_ok hb
  · exact ((BelowF.refl B w).drew).alloc hs.hB _

theorem append_room (hs : Sim B S M s a w) {d n c : Nat} {t tx ty : TypeId} {x : EInfo} (hx : telem P t = some x) {es ys : List PV} {news : List Value} {y : Value}
    (hd : s.m.q d = some (.live n x.size x.e)) (hk : M.κ d = c + 1) (hn : es.length = n) (hre : Rep S (.slice (some ⟨M.ψ d, 0, none⟩) n c) (.sl .no es))
    (hsrc : Src P x.size tx y ys.length news w) (hrn : ∀ i j, i < ys.length → j < x.size → Rep S (news.getD (i * x.size + j) undef) ((ys.getD i .any).cells.getD j .any))
    (hz1 : Sized x.size es) (hz2 : Sized x.size ys) (hg : n + ys.length ≤ c) :
    AppTo P B S s a w (Builtin.append_ #[t, tx] ty #[.slice (some ⟨M.ψ d, 0, none⟩) n c, y]) d (n + ys.length) x.size x.e (es ++ ys) := by
  obtain ⟨i, z, h1, h2, h3, h4, h5, h6, h7, h8⟩ := telem_spec hx
  subst hn
  obtain ⟨vs, g1, g2, g3, g3', g4⟩ := hs.growRow (m := ys.length) (news := news) hd hk hg hsrc.newsLen
  simp only at g4
  have hmul : (es.length + ys.length) * x.size ≤ c * x.size := Nat.mul_le_mul_right _ hg
  have hsum : (es.length + ys.length) * x.size = es.length * x.size + news.length := by rw [Nat.add_mul, hsrc.newsLen]
  have hst := run_storeCells_at (P := P) (M.ψ d) (es.length * x.size) x.e news 0 ⟨vs⟩ w g1 (by simp; omega) hsrc.one
  simp only [Nat.add_zero] at hst
  have hrun : (Builtin.append_ #[t, tx] ty #[.slice (some ⟨M.ψ d, 0, none⟩) es.length c, y]).run P w = .ok (.slice (some ⟨M.ψ d, 0, none⟩) (es.length + ys.length) c) (w.setRow (M.ψ d) ⟨vs.take (es.length * x.size) ++ news ++ vs.drop (es.length * x.size + news.length)⟩) := by
    have e5 : (sizeOf x.e).run P w = .ok x.size w := by rw [run_szo h2, h8]
    rcases hsrc.kind with ⟨e', hk'⟩ | hk' <;> simp [Builtin.append_, run_underlying h1, run_underlying hk', e5, hsrc.len, hg, hsrc.cells, Addr.add_lit, hst]
  obtain ⟨cells, hcl, hcS, hcR⟩ := hre.cells_of rfl hz1
  have hle : SLe S (addR S (M.ψ d) (es.length * x.size) ((es.length + ys.length) * x.size) (vs.take (es.length * x.size) ++ news ++ vs.drop (es.length * x.size + news.length))) := .cells rfl fun b o v hv => by
    show (if _ then _ else _) = some v
    rw [if_neg]
    · exact hv
    · rintro ⟨rfl, h1, _⟩
      rw [g3' o h1] at hv
      cases hv
  refine ⟨_, _, _, _, hrun, g4, ?_, by simp, ?_, ?_, hle, ?_, below_setRow g3⟩
  · have := rep_of_cells (b := M.ψ d) (cap := c) (es := es ++ ys) (sz := x.size) (S := addR S (M.ψ d) (es.length * x.size) ((es.length + ys.length) * x.size) (vs.take (es.length * x.size) ++ news ++ vs.drop (es.length * x.size + news.length))) (hz1.append hz2) (by simp; omega) (cells := cells ++ news)
      (fun k hk => by
        simp only [List.length_append] at hk
        show (if _ then _ else _) = _
        by_cases hlt : k < es.length * x.size
        · rw [if_neg (by omega), hcS k hlt, getD_append_left (by omega)]
        · rw [if_pos ⟨rfl, by omega, hk⟩, getD_append_right (l := cells) (by omega), getD_append_left (by simp; omega), getD_append_right (by simp; omega)]
          congr 2
          simp
          omega)
      (fun i j hi hj => (reps_append hcl hcR hrn i j hi hj).mono hle)
    simpa using this
  · intro h0; omega
  · intro c' hc'
    obtain rfl : c' = c := by omega
    rfl
  · intro b hb
    refine ⟨fun o => ?_, rfl⟩
    show (if _ then _ else _) = _
    rw [if_neg]
    rintro ⟨rfl, _⟩
    exact g3 hb

/-- what is appended, as a list -/
def appended (P : Program) (tx : TypeId) (y : PV) : Option (List PV) :=
  match tix P tx, y with
  | .slc _ _, .sl _ ys => some ys
  | .str, .str l => some (bytesPV l)
  | _, _ => none

def aAppend (P : Program) (d : Nat) (t tx : TypeId) (x y : PV) (m : Hp) : ARes :=
  match telem P t, appended P tx y, x with
  | some ei, some ys, .sl .nil _ => ⟨m.q d = none ∧ Sized ei.size ys ∧ Atoms ys ∧ Room ys.length ei.bytes, .sl (.row d) ys, m.setq d (.live ys.length ei.size ei.e)⟩
  | some ei, some ys, .sl (.row id) es => match m.q id with
    | some (.live n sz e) => ⟨n = es.length ∧ sz = ei.size ∧ e = ei.e ∧ (d = id ∨ m.q d = none) ∧ Sized ei.size es ∧ Sized ei.size ys ∧ Atoms ys ∧ Room (es.length + ys.length) ei.bytes,
        .sl (.row d) (es ++ ys), if d = id then m.setq d (.live (es.length + ys.length) ei.size ei.e) else (m.setq id .dead).setq d (.live (es.length + ys.length) ei.size ei.e)⟩
    | _ => .fail
  | _, _, _ => .fail

theorem run_append_nothing' {t tx ty : TypeId} {x : EInfo} (hx : telem P t = some x) {base : Option Addr} {sLen sCap : Nat} (hle : sLen ≤ sCap) {y : Value} {news : List Value} (hs : Src P x.size tx y 0 news w) :
    (Builtin.append_ #[t, tx] ty #[.slice base sLen sCap, y]).run P w = .ok (.slice base sLen sCap) w := by
  obtain ⟨i, z, h1, h2, h3, h4, h5, h6, h7, h8⟩ := telem_spec hx
  have hn : news = [] := List.eq_nil_of_length_eq_zero (by simpa using hs.newsLen)
  subst hn
  exact run_append_nothing w t tx ty x.e i h1 h2 base sLen sCap hle y (by rw [h5]; exact hs)

theorem sound_append (hs : Sim B S M s a w) {d : Nat} {t tx ty : TypeId} {u v : Value} {p y : PV} (hu : RepS S M s.m.q u p) (hui : ∀ i ∈ p.ids, Live s.m i) (hv : RepS S M s.m.q v y)
    (hok : (aAppend P d t tx p y s.m).ok) : Snd P B S s a w (Builtin.append_ #[t, tx] ty #[u, v]) (aAppend P d t tx p y s.m) := by
  have src : ∀ {ei : EInfo} {ys : List PV}, appended P tx y = some ys → Sized ei.size ys → Atoms ys → 0 < ei.size → ∃ news : List Value, Src P ei.size tx v ys.length news w ∧ ∀ i j, i < ys.length → j < ei.size → Rep S (news.getD (i * ei.size + j) undef) ((ys.getD i .any).cells.getD j .any) := by
    intro ei ys hy hz hat hpos
    unfold appended at hy
    split at hy
    · rename_i es2 ea tk ys' heq
      cases hy
      obtain ⟨e, d', ti, h1, _⟩ := tix_slc heq
      exact hv.sl_inv.src hs.stable hz hat h1
    · rename_i l heq
      cases hy
      have h1 := tix_str heq
      rw [hv.str_inv]
      by_cases h0 : l = []
      · subst h0
        refine ⟨[], ?_, fun i j hi => by simp [bytesPV] at hi⟩
        refine ⟨.inr h1, fun _ => rfl, ?_, ?_, by simp [bytesPV], fun _ h => by cases h⟩
        · simp [Builtin.firstCells, bytesPV]
        · simp [Builtin.firstCells, bytesPV]
      · have e1 : ei.size = 1 := by
          obtain ⟨c, l', rfl⟩ := List.exists_cons_of_ne_nil h0
          exact (hz (.int .u8 c.toNat) (by simp [bytesPV])).symm
        rw [e1]
        exact src_string h1 l
    · cases hy
  -- the row keeps its name, or goes under another one
  have close : ∀ {n sz : Nat} {e : TypeId} {es : List PV} {id : Nat} {ok : Prop} {m : Sem Value}, AppTo P B S s a w m id n sz e es → (d = id ∨ (s.m.q d = none ∧ s.m.q id ≠ none)) →
      Snd P B S s a w m ⟨ok, .sl (.row d) es, if d = id then s.m.setq d (.live n sz e) else (s.m.setq id .dead).setq d (.live n sz e)⟩ := by
    intro n sz e es id ok m hap hdi
    obtain ⟨v', w', S', M', h1, h2, h3, h4, h5, h6, h7⟩ := hap
    by_cases hd : d = id
    · subst hd
      refine ⟨v', w', S', M', h1, ?_, ?_, ?_, h7⟩
      · simp only [if_true]; exact h2
      · simp only [if_true]
        refine .row d v' es h3 fun n' sz' e' hq => ?_
        simp only [Hp.setq, upd_same] at hq
        cases hq
        exact ⟨by omega, fun _ => ⟨h5, h6⟩⟩
      · intro i hi
        simp only [PV.ids, List.mem_singleton] at hi
        subst hi
        simp [Live, Hp.setq, upd_same]
    · rcases hdi with hdi | ⟨hdn, hin⟩
      · exact absurd hdi hd
      · have hq1 : (s.with (s.m.setq id (.live n sz e))).m.q id = some (.live n sz e) := upd_same _ _ _
        have hq2 : (s.with (s.m.setq id (.live n sz e))).m.q d = none := by
          show upd s.m.q id _ d = none
          rw [upd_ne _ _ (Ne.symm hd)]; exact hdn
        have h2' := h2.moveRow hq1 hq2
        simp only [St.with, Hp.setq, upd_upd] at h2'
        refine ⟨v', w', S', { M' with ψ := upd M'.ψ d (M'.ψ id), κ := upd M'.κ d (M'.κ id) }, h1, ?_, ?_, ?_, h7⟩
        · simp only [if_neg hd]; exact h2'
        · simp only [if_neg hd]
          refine .row d v' es h3 fun n' sz' e' hq => ?_
          simp only [Hp.setq, upd_same] at hq
          cases hq
          refine ⟨by omega, fun _ => ?_⟩
          simp only [upd_same]
          exact ⟨h5, h6⟩
        · intro i hi
          simp only [PV.ids, List.mem_singleton] at hi
          subst hi
          simp [Live, Hp.setq, upd_same, if_neg hd]
  revert hok
  unfold aAppend
  split
  · rename_i ei ys es hx hy
    rintro ⟨g1, g2, g3, g4⟩
    obtain ⟨i, z, h1, h2, h3, h4, h5, h6, h7, h8⟩ := telem_spec hx
    obtain ⟨news, hsrc, hrn⟩ := src hy g2 g3 h7
    rw [hu.slnil_inv]
    have base : ∀ (w : World), (Builtin.firstCells ei.size 0 (.slice none 0 0)).run P w = .ok ([] : List Value).toArray w := fun w => by simp [Builtin.firstCells]
    by_cases hm : ys.length = 0
    · have e0 : ys = [] := List.eq_nil_of_length_eq_zero hm
      subst e0
      have hrun := run_append_nothing' (ty := ty) hx (base := none) (Nat.le_refl 0) hsrc
      refine ⟨_, w, S, { M with κ := upd M.κ d 0 }, hrun, hs.nilRow g1, ?_, ?_, Ext.refl _ _ _⟩
      · refine .row d _ [] (.sl0 none 0) fun n' sz' e' hq => ?_
        simp only [Hp.setq, upd_same] at hq
        cases hq
        exact ⟨Nat.le_refl _, fun _ => ⟨fun _ => rfl, fun c hc => by simp [upd_same] at hc⟩⟩
      · intro i hi
        simp only [PV.ids, List.mem_singleton] at hi
        subst hi
        simp [Live, Hp.setq, upd_same]
    · have hap := append_new (n := 0) hs (d := d) (ty := ty) hx (.inl g1) (es := []) (olds := []) (base w.drew) rfl (by simp) (fun i j hi => by simp at hi) hsrc hrn (fun _ h => by cases h) g2 (by omega) (by simpa using g4)
      simp only [Nat.zero_add, List.nil_append] at hap
      have := close (ok := s.m.q d = none ∧ Sized ei.size ys ∧ Atoms ys ∧ Room ys.length ei.bytes) hap (.inl rfl)
      simpa using this
  · rename_i ei ys id es hx hy
    split
    · rename_i n sz e hq
      rintro ⟨g0, g1, g2, g3, g4, g5, g6, g7⟩
      subst g0
      subst g1
      subst g2
      obtain ⟨i, z, h1, h2, h3, h4, h5, h6, h7, h8⟩ := telem_spec hx
      obtain ⟨news, hsrc, hrn⟩ := src hy g5 g6 h7
      have hdi : d = id ∨ (s.m.q d = none ∧ s.m.q id ≠ none) := g3.imp (fun h => h) (fun h => ⟨h, by rw [hq]; simp⟩)
      refine close ?_ hdi
      have hrow : Rep S u (.sl .no es) ∧ (M.κ id = 0 → u = .slice none 0 0) ∧ (∀ c, M.κ id = c + 1 → u = .slice (some ⟨M.ψ id, 0, none⟩) es.length c) := by
        cases hu with
        | clean r => cases r
        | row id v es r t => obtain ⟨_, t2⟩ := t _ _ _ hq; exact ⟨r, t2 rfl⟩
      obtain ⟨hre, k0, k1⟩ := hrow
      obtain ⟨r0, r1⟩ := hs.row id _ hq
      have self : s.m.setq id (.live es.length ei.size ei.e) = s.m := by
        have : upd s.m.q id (some (.live es.length ei.size ei.e)) = s.m.q := by
          funext k; by_cases e : id = k
          · subst e; simp [upd, hq]
          · simp [upd, e]
        unfold Hp.setq
        rw [this]
      cases hk : M.κ id with
      | zero =>
        have hu0 := k0 hk
        have he0 : es = [] := List.eq_nil_of_length_eq_zero (r0 hk)
        subst he0
        subst hu0
        by_cases hm : ys.length = 0
        · have e0 : ys = [] := List.eq_nil_of_length_eq_zero hm
          subst e0
          have hrun := run_append_nothing' (ty := ty) hx (base := none) (Nat.le_refl 0) hsrc
          refine ⟨_, w, S, M, hrun, ?_, .sl0 none 0, rfl, fun _ => rfl, fun c hc => (by rw [hk] at hc; cases hc), Ext.refl _ _ _⟩
          simp only [List.length_nil, Nat.add_zero] at self ⊢
          rw [self]
          exact hs
        · have base : ∀ (w : World), (Builtin.firstCells ei.size 0 (.slice none 0 0)).run P w = .ok ([] : List Value).toArray w := fun w => by simp [Builtin.firstCells]
          exact append_new (n := 0) hs (d := id) (ty := ty) hx (.inr ⟨_, _, _, hq, by simp; omega⟩) (es := []) (olds := []) (base w.drew) rfl (by simp) (fun i j hi => by simp at hi) hsrc hrn (fun _ h => by cases h) g5 (by omega) (by simpa using g7)
      | succ c =>
        have hu0 := k1 c hk
        subst hu0
        obtain ⟨q1, q2, q3, ⟨vs, q4, q5⟩, q6⟩ := r1 c hk
        by_cases hroom : es.length + ys.length ≤ c
        · exact append_room hs hx hq hk rfl hre hsrc hrn g4 g5 hroom
        · obtain ⟨cells, hcl, hcS, hcR⟩ := hre.cells_of rfl g4
          refine append_new (n := 0) hs (d := id) (ty := ty) hx (.inr ⟨_, _, _, hq, by omega⟩) (es := es) (olds := cells) ?_ rfl hcl hcR hsrc hrn g4 g5 (by omega) g7
          refine run_firstCells_some w.drew ei.size es.length ⟨M.ψ id, 0, none⟩ es.length c cells hcl (fun j u hj => ?_)
          obtain ⟨hj1, hj2⟩ := List.getElem?_eq_some_iff.1 hj
          have := hs.stable _ _ _ (hcS j (by omega))
          rw [getD_lt hj1, hj2] at this
          rw [add_none, Nat.zero_add]
          exact this
    · exact fun hok => hok.elim
  · exact fun hok => hok.elim

end
end Go.PL

namespace Go.PL
open Go.RowKit
set_option linter.unusedVariables false

def aUn (op : UnOp) (x : PV) (m : Hp) : ARes :=
  match op, x with
  | .not, .bool b => ⟨True, .bool (!b), m⟩
  | .neg, .int k n => ⟨True, .int k (k.wrap (0 - n)), m⟩
  | .neg, .flt k b => ⟨True, .flt k (Op.negFloat k b), m⟩
  | _, _ => .fail

inductive CvK where
  | int (k : IntKind) | same | bytes | none | flt (k : FloatKind)
/-- which conversions are known -/
def tcv (P : Program) (src dst : TypeId) : CvK :=
  match P.underlying src, P.underlying dst with
  | some _, some (.int k) => .int k
  | some _, some (.float k) => .flt k
  | some .string, some .string => .same
  | some (.slice e), some .string => match P.underlying e with | some (.int .u8) => .bytes | _ => .none
  | _, _ => .none
/-- the bytes that elements are -/
def bytesOf : List PV → Option (List UInt8)
  | [] => some []
  | .int .u8 n :: r => if 0 ≤ n ∧ n < 256 then (match bytesOf r with | some l => some (UInt8.ofNat n.toNat :: l) | none => none) else none
  | _ :: _ => none

def aConv (P : Program) (src dst : TypeId) (x : PV) (m : Hp) : ARes :=
  match tcv P src dst, x with
  | .int k, .int _ n => ⟨True, .int k (k.wrap n), m⟩
  | .flt k, .int _ n => ⟨True, .flt k (k.nearest n), m⟩
  | .int k, .flt s b => match (s.decode b).toInt .zero with
    | some n => ⟨k.min ≤ n ∧ n ≤ k.max, .int k n, m⟩
    | none => .fail
  | .same, .str l => ⟨True, .str l, m⟩
  | .bytes, .sl _ es => match bytesOf es with
    | some l => ⟨True, .str l, m⟩
    | none => .fail
  | .bytes, .osl id off len _ => match m.h id with
    | some cs => match bytesOf ((cs.drop off).take len) with
      | some l => ⟨off + len ≤ cs.length, .str l, m⟩
      | none => .fail
    | none => .fail
  | _, _ => .fail

def aExtract (x : PV) (i : Nat) (m : Hp) : ARes :=
  match x with
  | .tup vs => ⟨i < vs.length, vs.getD i .any, m⟩
  | _ => .fail

def aPick (c x y : PV) (m : Hp) : ARes :=
  match c with
  | .bool true => ⟨True, x, m⟩
  | .bool false => ⟨True, y, m⟩
  | _ => .fail

def aNilCheck (x : PV) (m : Hp) : ARes :=
  match x with
  | .ptr id o => ⟨True, .ptr id o, m⟩
  | .rptr cs => ⟨True, .rptr cs, m⟩
  | .fn f cs => ⟨True, .fn f cs, m⟩
  | _ => .fail

inductive LenK where
  | arr (n : Nat) | slc | str | none
def tlen (P : Program) (t : TypeId) : LenK :=
  match P.underlying t with
  | some (.array n _) => .arr n
  | some (.slice _) => .slc
  | some .string => .str
  | some (.pointer e) => match P.underlying e with | some (.array n _) => .arr n | _ => .none
  | _ => .none

def aLen (P : Program) (t : TypeId) (x : PV) (m : Hp) : ARes :=
  match tlen P t, x with
  | .arr n, _ => ⟨True, .int .i64 n, m⟩
  | .slc, .sl _ es => ⟨True, .int .i64 es.length, m⟩
  | .slc, .osl _ _ n _ => ⟨True, .int .i64 n, m⟩
  | .slc, .vsl _ n _ => ⟨True, .int .i64 n, m⟩
  | .str, .str l => ⟨True, .int .i64 l.length, m⟩
  | _, _ => .fail

def aMax (x y : PV) (m : Hp) : ARes :=
  match x, y with
  | .int k a, .int k' b => ⟨k = k', .int k (max a b), m⟩
  | _, _ => .fail
def aMin (x y : PV) (m : Hp) : ARes :=
  match x, y with
  | .int k a, .int k' b => ⟨k = k', .int k (min a b), m⟩
  | _, _ => .fail

def aCpx (x y : PV) (m : Hp) : ARes :=
  match x, y with
  | .flt k a, .flt k' b => ⟨k = k', .cpx k a b, m⟩
  | _, _ => .fail
def aReal (x : PV) (m : Hp) : ARes :=
  match x with
  | .cpx k a _ => ⟨True, .flt k a, m⟩
  | _ => .fail
def aImag (x : PV) (m : Hp) : ARes :=
  match x with
  | .cpx k _ b => ⟨True, .flt k b, m⟩
  | _ => .fail

section
variable {P : Program} {B : Frm} {S : Stable} {M : Maps} {s : St} {a : Act} {w : World}

theorem Snd.clean (hs : Sim B S M s a w) {m : Sem Value} {ok : Prop} {p : PV} {v : Value} (hm : m.run P w = .ok v w) (hr : Rep S v p) : Snd P B S s a w m ⟨ok, p, s.m⟩ :=
  Snd.pure hs hm (.clean hr) (fun i hi => absurd hi (hr.clean_ids i))

theorem sound_cpx (hs : Sim B S M s a w) {ts : Array TypeId} {ty : TypeId} {u v : Value} {p q : PV} (hu : RepS S M s.m.q u p) (hv : RepS S M s.m.q v q) (hok : (aCpx p q s.m).ok) : Snd P B S s a w (Builtin.complex_ ts ty #[u, v]) (aCpx p q s.m) := by
  revert hok
  unfold aCpx
  split
  · intro hok
    have e := hok
    simp only at e
    subst e
    rw [hu.flt_inv, hv.flt_inv]
    exact Snd.clean hs (by show (if _ then _ else _ : Sem Value).run P w = _; rw [if_pos rfl]; rfl) (.cpx _ _ _)
  · exact fun hok => hok.elim
theorem sound_real (hs : Sim B S M s a w) {ts : Array TypeId} {ty : TypeId} {u : Value} {p : PV} (hu : RepS S M s.m.q u p) (hok : (aReal p s.m).ok) : Snd P B S s a w (Builtin.real_ ts ty #[u]) (aReal p s.m) := by
  revert hok
  unfold aReal
  split
  · intro _
    rw [hu.cpx_inv]
    exact Snd.clean hs (by rfl) (.flt _ _)
  · exact fun hok => hok.elim
theorem sound_imag (hs : Sim B S M s a w) {ts : Array TypeId} {ty : TypeId} {u : Value} {p : PV} (hu : RepS S M s.m.q u p) (hok : (aImag p s.m).ok) : Snd P B S s a w (Builtin.imag_ ts ty #[u]) (aImag p s.m) := by
  revert hok
  unfold aImag
  split
  · intro _
    rw [hu.cpx_inv]
    exact Snd.clean hs (by rfl) (.flt _ _)
  · exact fun hok => hok.elim
theorem sound_un (hs : Sim B S M s a w) {op : UnOp} {u : Value} {p : PV} (hu : RepS S M s.m.q u p) (hok : (aUn op p s.m).ok) : Snd P B S s a w (Op.unary op u) (aUn op p s.m) := by
  revert hok
  unfold aUn
  split
  · intro _
    rw [hu.bool_inv]
    exact Snd.clean hs (by simp [Op.unary]) (.bool _)
  · intro _
    rw [hu.int_inv]
    exact Snd.clean hs (by simp [Op.unary, Op.intArith]) (.int _ _)
  · intro _
    rw [hu.flt_inv]
    exact Snd.clean hs (by simp [Op.unary]) (.flt _ _)
  · exact fun hok => hok.elim

theorem bytesOf_at : ∀ {es : List PV} {l : List UInt8}, bytesOf es = some l → l.length = es.length ∧ ∀ j (hj : j < l.length), es.getD j .any = .int .u8 (l[j].toNat : Int)
  | [], l, h => by
    simp only [bytesOf, Option.some.injEq] at h
    subst h
    exact ⟨rfl, fun j hj => by simp at hj⟩
  | e :: es, l, h => by
    unfold bytesOf at h
    split at h
    · rename_i he; cases he
    · rename_i n r he
      cases he
      split at h
      · rename_i hn
        split at h
        · rename_i l' hl'
          cases h
          obtain ⟨h1, h2⟩ := bytesOf_at hl'
          refine ⟨by simp [h1], fun j hj => ?_⟩
          cases j with
          | zero =>
            simp only [List.getD_cons_zero, List.getElem_cons_zero]
            congr 1
            rw [UInt8.toNat_ofNat']
            omega
          | succ j => simpa using h2 j (by simpa using hj)
        · cases h
      · cases h
    · cases h
theorem sound_conv (hs : Sim B S M s a w) {src dst : TypeId} {u : Value} {p : PV} (hu : RepS S M s.m.q u p) (hok : (aConv P src dst p s.m).ok) : Snd P B S s a w (convert src dst u) (aConv P src dst p s.m) := by
  revert hok
  unfold aConv
  split
  · rename_i k k' n heq
    intro _
    rw [hu.int_inv]
    unfold tcv at heq
    split at heq
    · rename_i d k0 h1 h2
      cases heq
      exact Snd.clean hs (by simp [convert, run_und h1, run_und h2, Conv.intToInt]) (.int _ _)
    · cases heq
    · cases heq
    · split at heq <;> cases heq
    · cases heq
  · rename_i k k' n heq
    intro _
    rw [hu.int_inv]
    unfold tcv at heq
    split at heq
    · cases heq
    · rename_i d k0 _ h1 h2
      cases heq
      exact Snd.clean hs (by simp [convert, run_und h1, run_und h2, Conv.intToFloat]) (.flt _ _)
    · cases heq
    · split at heq <;> cases heq
    · cases heq
  · rename_i k k' b heq
    split
    · rename_i n hn
      rintro ⟨g1, g2⟩
      rw [hu.flt_inv]
      unfold tcv at heq
      split at heq
      · rename_i d k0 h1 h2
        cases heq
        exact Snd.clean hs (by simp [convert, run_und h1, run_und h2, Conv.floatToInt, hn, g1, g2]) (.int _ _)
      · cases heq
      · cases heq
      · split at heq <;> cases heq
      · cases heq
    · exact fun hok => hok.elim
  · rename_i l heq
    intro _
    rw [hu.str_inv]
    unfold tcv at heq
    split at heq
    · cases heq
    · cases heq
    · rename_i h1 h2
      exact Snd.clean hs (by simp [convert, run_und h1, run_und h2]) (.str _)
    · split at heq <;> cases heq
    · cases heq
  · rename_i t es heq
    split
    · rename_i l hl
      intro _
      obtain ⟨b1, b2⟩ := bytesOf_at hl
      have hr := hu.sl_inv
      have ty : ∃ e, P.underlying src = some (.slice e) ∧ P.underlying e = some (.int .u8) ∧ P.underlying dst = some .string := by
        unfold tcv at heq
        split at heq
        · cases heq
        · cases heq
        · cases heq
        · rename_i e h1 h2
          split at heq
          · rename_i h3; exact ⟨e, h1, h3, h2⟩
          · cases heq
        · cases heq
      obtain ⟨e, t1, t2, t3⟩ := ty
      cases hr with
      | sl0 a0 cap =>
        have : l = [] := List.eq_nil_of_length_eq_zero (by simpa using b1)
        subst this
        cases a0 with
        | none => exact Snd.clean hs (v := .string ⟨⟨[]⟩⟩) (by rw [run_convert_bytes_string w src dst e none 0 cap t1 t2 t3]; simp [Conv.bytesToString]; rfl) (.str [])
        | some ad => exact Snd.clean hs (v := .string ⟨⟨[]⟩⟩) (run_convert_bytes_back w src dst e ad cap [] t1 t2 t3 (fun j hj => by simp at hj)) (.str [])
      | sl b o cap sz _ vals hsz hcap hS hR =>
        have key := run_convert_bytes_back (P := P) w src dst e ⟨b, o, none⟩ cap l t1 t2 t3 (fun j hj => by
          have hj' : j < es.length := by rw [← b1]; exact hj
          have e1 := b2 j hj
          have s1 : sz = 1 := by have := hsz j hj'; rw [e1] at this; simpa [PV.cells] using this.symm
          subst s1
          have r1 := hR j 0 hj' (by omega)
          rw [e1] at r1
          have r2 : vals j 0 = .int .u8 (l[j].toNat : Int) := by
            simp only [PV.cells, List.getD_cons_zero] at r1
            exact (RepS.clean (M := M) (q := s.m.q) r1).int_inv
          have := hs.stable _ _ _ (hS j 0 hj' (by omega))
          rw [r2, Nat.mul_one, Nat.add_zero] at this
          rw [add_none]
          exact this)
        rw [b1] at key
        exact Snd.clean hs key (.str l)
    · exact fun hok => hok.elim
  · rename_i id off len sz heq
    split
    · rename_i cs hcs
      split
      · rename_i l hl
        intro hle
        obtain ⟨b1, b2⟩ := bytesOf_at hl
        have ty : ∃ e, P.underlying src = some (.slice e) ∧ P.underlying e = some (.int .u8) ∧ P.underlying dst = some .string := by
          unfold tcv at heq
          split at heq
          · cases heq
          · cases heq
          · cases heq
          · rename_i e h1 h2
            split at heq
            · rename_i h3; exact ⟨e, h1, h3, h2⟩
            · cases heq
          · cases heq
        obtain ⟨e, t1, t2, t3⟩ := ty
        obtain ⟨cap, _, rfl⟩ := hu.osl_inv
        have hh : ∃ vals : Nat → Value, (∀ j, j < cs.length → w.cell? ⟨M.φ id, j, none⟩ = some (vals j)) ∧ (∀ j, j < cs.length → RepS S M s.m.q (vals j) (cs.getD j .any)) := by
          have hb := hs.blk id _ hcs
          cases hz : s.m.z id with
          | false =>
            rw [hz] at hb
            obtain ⟨_, _, ⟨vs, ty, h3, h4, h5⟩, h6⟩ := hb
            refine ⟨fun j => vs.getD j undef, fun j hj => ?_, h5⟩
            rw [cell_of h3, List.getElem?_eq_getElem (by omega)]
            show some _ = some (vs.getD j undef)
            rw [getD_lt (by omega)]
          | true =>
            rw [hz] at hb
            obtain ⟨vals, hv⟩ := hb
            exact ⟨vals, fun j hj => hs.stable _ _ _ (hv j hj).1, fun j hj => .clean (hv j hj).2⟩
        obtain ⟨vals, hc, hr⟩ := hh
        have hlen : l.length = len := by rw [b1]; simp; omega
        have key := run_convert_bytes_back (P := P) w src dst e ⟨M.φ id, off, none⟩ cap l t1 t2 t3 (fun j hj => by
          have e1 := b2 j hj
          have hj' : off + j < cs.length := by omega
          have e2 : ((cs.drop off).take len).getD j .any = cs.getD (off + j) .any := by
            simp only [List.getD_eq_getElem?_getD]
            rw [List.getElem?_take_of_lt (by omega), List.getElem?_drop]
          rw [e2] at e1
          have r1 := hr _ hj'
          rw [e1] at r1
          rw [add_none, hc _ hj', r1.int_inv])
        rw [hlen] at key
        exact Snd.clean hs key (.str l)
      · exact fun hok => hok.elim
    · exact fun hok => hok.elim
  · exact fun hok => hok.elim

theorem sound_extract (hs : Sim B S M s a w) {u : Value} {p : PV} {i : Nat} (hu : RepS S M s.m.q u p) (hui : ∀ i ∈ p.ids, Live s.m i) (hok : (aExtract p i s.m).ok) : Snd P B S s a w (Instr.extract u i) (aExtract p i s.m) := by
  revert hok
  unfold aExtract
  split
  · rename_i vs
    intro hi
    simp only at hi
    obtain ⟨us, rfl, hl, hr⟩ := hu.tup_inv
    refine Snd.pure hs (v := us.getD i undef) ?_ (hr i hi) (fun k hk => hui k (PV.mem_idsL.2 ⟨_, getD_mem hi, hk⟩))
    rw [getD_lt (by omega)]
    have : i < us.length := by omega
    simp [Instr.extract, this]
  · exact fun hok => hok.elim

theorem sound_len (hs : Sim B S M s a w) {t ty : TypeId} {u : Value} {p : PV} (hu : RepS S M s.m.q u p) (hok : (aLen P t p s.m).ok) : Snd P B S s a w (Builtin.len_ #[t] ty #[u]) (aLen P t p s.m) := by
  revert hok
  unfold aLen
  split
  · rename_i n x heq
    intro _
    unfold tlen at heq
    split at heq
    · rename_i h1
      cases heq
      exact Snd.clean hs (by simp [Builtin.len_, run_und h1, goInt]) (.int _ _)
    · cases heq
    · cases heq
    · rename_i e h1
      split at heq
      · rename_i h2
        cases heq
        exact Snd.clean hs (by simp [Builtin.len_, run_und h1, run_und h2, goInt]) (.int _ _)
      · cases heq
    · cases heq
  · rename_i tk es heq
    intro _
    obtain ⟨ad, cap, rfl, _⟩ := hu.sl_inv.sl_len
    unfold tlen at heq
    split at heq
    · cases heq
    · rename_i h1
      exact Snd.clean hs (by simp [Builtin.len_, run_und h1, goInt]) (.int _ _)
    · cases heq
    · split at heq <;> cases heq
    · cases heq
  · rename_i id off n sz heq
    intro _
    obtain ⟨cap, _, rfl⟩ := hu.osl_inv
    unfold tlen at heq
    split at heq
    · cases heq
    · rename_i h1
      exact Snd.clean hs (by simp [Builtin.len_, run_und h1, goInt]) (.int _ _)
    · cases heq
    · split at heq <;> cases heq
    · cases heq
  · rename_i id n sz heq
    intro _
    obtain ⟨⟨ad, cap, hv, _⟩, _⟩ := hu.vsl_inv
    unfold tlen at heq
    split at heq
    · cases heq
    · rename_i h1
      exact Snd.clean hs (by simp [hv, Builtin.len_, run_und h1, goInt]) (.int _ _)
    · cases heq
    · split at heq <;> cases heq
    · cases heq
  · rename_i l heq
    intro _
    rw [hu.str_inv]
    unfold tlen at heq
    split at heq
    · cases heq
    · cases heq
    · rename_i h1
      exact Snd.clean hs (v := .int .i64 l.length) (by simp [Builtin.len_, run_und h1, goInt]; rfl) (.int _ _)
    · split at heq <;> cases heq
    · cases heq
  · exact fun hok => hok.elim

theorem sound_max (hs : Sim B S M s a w) {ts : Array TypeId} {ty : TypeId} {u v : Value} {p q : PV} (hu : RepS S M s.m.q u p) (hv : RepS S M s.m.q v q) (hok : (aMax p q s.m).ok) : Snd P B S s a w (Builtin.max_ ts ty #[u, v]) (aMax p q s.m) := by
  revert hok
  unfold aMax
  split
  · rename_i k x k' y
    intro hk
    rw [hu.int_inv, hv.int_inv]
    simp only at hk
    subst hk
    have e : (if y > x then y else x) = max x y := by rw [Int.max_def]; split <;> split <;> omega
    exact Snd.clean hs (v := .int k (max x y)) (by simp [Builtin.max_, Builtin.max2]; omega) (.int _ _)
  · exact fun hok => hok.elim
theorem sound_min (hs : Sim B S M s a w) {ts : Array TypeId} {ty : TypeId} {u v : Value} {p q : PV} (hu : RepS S M s.m.q u p) (hv : RepS S M s.m.q v q) (hok : (aMin p q s.m).ok) : Snd P B S s a w (Builtin.min_ ts ty #[u, v]) (aMin p q s.m) := by
  revert hok
  unfold aMin
  split
  · rename_i k x k' y
    intro hk
    rw [hu.int_inv, hv.int_inv]
    simp only at hk
    subst hk
    exact Snd.clean hs (v := .int k (min x y)) (by simp [Builtin.min_, Builtin.min2]; omega) (.int _ _)
  · exact fun hok => hok.elim
end
end Go.PL
