/- A logic of values for functions that only read and build, over the model (part 2): no statement of the seat is proved here. -/
import Derived.Test.YtcomkajmhlhphaaGreatPlA
import Derived.Deep.AppendSrc
import Derived.Deep.Upon
import Derived.Laws.IdiomStrings
import Derived.Laws.BytesString
set_option linter.unusedSimpArgs false
set_option linter.unusedVariables false
namespace Go.PL
open Go.RowKit
set_option linter.unusedVariables false

/-- how many kinds of types deep two values may be held against each other -/
def eqDepth : Nat := 40
/-- the leaves of a type whose values may be held against each other -/
def tleaves (P : Program) (t : TypeId) : Option (List Leaf) := if P.eqGuardType P.depth t || !tagg P t then none else leaves P eqDepth t

def bytesLt : List UInt8 → List UInt8 → Bool := Op.bytesLess

def aInt (op : BinOp) (k k' : IntKind) (a b : Int) (m : Hp) : ARes :=
  match op with
  | .add => ⟨k = k', .int k (k.wrap (a + b)), m⟩
  | .sub => ⟨k = k', .int k (k.wrap (a - b)), m⟩
  | .mul => ⟨k = k', .int k (k.wrap (a * b)), m⟩
  | .quo => ⟨k = k' ∧ b ≠ 0, .int k (k.wrap (a.tdiv b)), m⟩
  | .rem => ⟨k = k' ∧ b ≠ 0, .int k (a.tmod b), m⟩
  | .eql => ⟨k = k', .bool (a == b), m⟩
  | .neq => ⟨k = k', .bool (a != b), m⟩
  | .lss => ⟨k = k', .bool (decide (a < b)), m⟩
  | .leq => ⟨k = k', .bool (decide (a ≤ b)), m⟩
  | .gtr => ⟨k = k', .bool (decide (b < a)), m⟩
  | .geq => ⟨k = k', .bool (decide (b ≤ a)), m⟩
  | .and => ⟨k = k', .int k (k.wrap ((BitVec.ofInt k.bits a &&& BitVec.ofInt k.bits b).toNat)), m⟩
  | .or => ⟨k = k', .int k (k.wrap ((BitVec.ofInt k.bits a ||| BitVec.ofInt k.bits b).toNat)), m⟩
  | .xor => ⟨k = k', .int k (k.wrap ((BitVec.ofInt k.bits a ^^^ BitVec.ofInt k.bits b).toNat)), m⟩
  | .shl => ⟨0 ≤ b, .int k (k.wrap (a * 2 ^ (min b.toNat k.bits))), m⟩
  | .shr => ⟨0 ≤ b, .int k (a.fdiv (2 ^ (min b.toNat k.bits))), m⟩
  | _ => .fail

def aStr (op : BinOp) (a b : List UInt8) (m : Hp) : ARes :=
  match op with
  | .add => ⟨(a.length + b.length : Int) ≤ 9223372036854775807, .str (a ++ b), m⟩
  | .eql => ⟨True, .bool (a == b), m⟩
  | .neq => ⟨True, .bool (!(a == b)), m⟩
  | .lss => ⟨True, .bool (bytesLt a b), m⟩
  | .leq => ⟨True, .bool (bytesLt a b || a == b), m⟩
  | .gtr => ⟨True, .bool (!(bytesLt a b || a == b)), m⟩
  | .geq => ⟨True, .bool (!bytesLt a b), m⟩
  | _ => .fail

/-- two pointers, one of them nil -/
def ptrNil : PV → PV → Option Bool
  | .nilp, .nilp => some true
  | .nilp, .ptr _ _ | .nilp, .rptr _ | .ptr _ _, .nilp | .rptr _, .nilp => some false
  | _, _ => none
/-- a slice against nil -/
def slNil : PV → PV → Option Bool
  | .sl .nil _, .sl .nil _ => some true
  | .sl _ (_ :: _), .sl .nil _ => some false
  | .sl .nil _, .sl _ (_ :: _) => some false
  | .osl _ _ _ _, .sl .nil _ => some false
  | _, _ => none
/-- a map against nil -/
def mapNil : PV → PV → Option Bool
  | .nilmap, .nilmap => some true
  | .nilmap, .mref _ | .nilmap, .rmap _ _ | .mref _, .nilmap | .rmap _ _, .nilmap => some false
  | _, _ => none
inductive EqK where
  | bool | ptr | slc | map | other
def teqk (P : Program) (t : TypeId) : EqK :=
  match P.underlying t with
  | some .bool => .bool
  | some (.pointer _) => .ptr
  | some (.slice _) => .slc
  | some (.map _ _) => .map
  | _ => .other

def aEq (neg : Bool) (r : Option Bool) (m : Hp) : ARes := match r with | some b => ⟨True, .bool (if neg then !b else b), m⟩ | none => .fail

def aEql (P : Program) (neg : Bool) (t : TypeId) (x y : PV) (m : Hp) : ARes :=
  match x, y with
  | .agg cs, .agg ds => match tleaves P t with
    | some ls => aEq neg (eqLeaves ls cs ds) m
    | none => .fail
  | .bool a, .bool b => match teqk P t with | .bool => aEq neg (some (a == b)) m | _ => .fail
  | x, y => match teqk P t with
    | .ptr => aEq neg (ptrNil x y) m
    | .slc => aEq neg (slNil x y) m
    | .map => aEq neg (mapNil x y) m
    | _ => .fail

def aFlt (op : BinOp) (k k' : FloatKind) (a b : Nat) (m : Hp) : ARes :=
  match op with
  | .eql => ⟨k = k', .bool (k.format.order a b == some .eq), m⟩
  | .neq => ⟨k = k', .bool (k.format.order a b != some .eq), m⟩
  | .lss => ⟨k = k', .bool (k.format.order a b == some .lt), m⟩
  | .leq => ⟨k = k', .bool (k.format.order a b == some .lt || k.format.order a b == some .eq), m⟩
  | .gtr => ⟨k = k', .bool (k.format.order a b == some .gt), m⟩
  | .geq => ⟨k = k', .bool (k.format.order a b == some .gt || k.format.order a b == some .eq), m⟩
  | _ => .fail
def aBin (P : Program) (op : BinOp) (t : TypeId) (x y : PV) (m : Hp) : ARes :=
  match x, y with
  | .int k a, .int k' b => aInt op k k' a b m
  | .str a, .str b => aStr op a b m
  | .flt k a, .flt k' b => aFlt op k k' a b m
  | x, y => match op with
    | .eql => aEql P false t x y m
    | .neq => aEql P true t x y m
    | _ => .fail

section
variable {P : Program} {B : Frm} {S : Stable} {M : Maps} {s : St} {a : Act} {w : World}

theorem sound_int (hs : Sim B S M s a w) {op : BinOp} {t : TypeId} {k k' : IntKind} {x y : Int} (hok : (aInt op k k' x y s.m).ok) :
    Snd P B S s a w (binOp op t (.int k x) (.int k' y)) (aInt op k k' x y s.m) := by
  have fin : ∀ {v : Value} {p : PV} {ok : Prop}, (binOp op t (.int k x) (.int k' y)).run P w = .ok v w → Rep S v p → Snd P B S s a w (binOp op t (.int k x) (.int k' y)) ⟨ok, p, s.m⟩ :=
    fun {v p ok} h1 h2 => Snd.pure hs h1 (.clean h2) (fun i hi => absurd hi (h2.clean_ids i))
  revert hok
  unfold aInt
  split
  case h_17 => exact fun hok => hok.elim
  all_goals intro hok
  all_goals first
    | (have e : k = k' := hok; subst e; refine fin ?_ (by constructor); simp [binOp, Op.intArith, Op.intCmp, Op.intBits]; done)
    | (obtain ⟨e, h0⟩ := hok; subst e; refine fin ?_ (by constructor); simp [binOp, Op.intDiv, h0]; done)
    | (have h0 : 0 ≤ y := hok; have h1 : ¬ y < 0 := by omega
       refine fin ?_ (by constructor); simp [binOp, Op.shift, h1]; done)

theorem sound_flt (hs : Sim B S M s a w) {op : BinOp} {t : TypeId} {k k' : FloatKind} {x y : Nat} (hok : (aFlt op k k' x y s.m).ok) :
    Snd P B S s a w (binOp op t (.float k x) (.float k' y)) (aFlt op k k' x y s.m) := by
  have fin : ∀ {v : Value} {p : PV} {ok : Prop}, (binOp op t (.float k x) (.float k' y)).run P w = .ok v w → Rep S v p → Snd P B S s a w (binOp op t (.float k x) (.float k' y)) ⟨ok, p, s.m⟩ :=
    fun {v p ok} h1 h2 => Snd.pure hs h1 (.clean h2) (fun i hi => absurd hi (h2.clean_ids i))
  revert hok
  unfold aFlt
  split
  case h_7 => exact fun hok => hok.elim
  all_goals intro hok
  all_goals
    have e : k = k' := hok
    subst e
    refine fin ?_ (by constructor)
    simp [binOp, Op.floatCmp]

theorem sound_str (hs : Sim B S M s a w) {op : BinOp} {t : TypeId} {x y : List UInt8} (hok : (aStr op x y s.m).ok) :
    Snd P B S s a w (binOp op t (.string ⟨⟨x⟩⟩) (.string ⟨⟨y⟩⟩)) (aStr op x y s.m) := by
  have fin : ∀ {v : Value} {p : PV} {ok : Prop}, (binOp op t (.string ⟨⟨x⟩⟩) (.string ⟨⟨y⟩⟩)).run P w = .ok v w → Rep S v p → Snd P B S s a w (binOp op t (.string ⟨⟨x⟩⟩) (.string ⟨⟨y⟩⟩)) ⟨ok, p, s.m⟩ :=
    fun {v p ok} h1 h2 => Snd.pure hs h1 (.clean h2) (fun i hi => absurd hi (h2.clean_ids i))
  have e1 : (⟨⟨x⟩⟩ : ByteArray).toList = x := by rw [ByteArray.toList_eq]
  have e2 : (⟨⟨y⟩⟩ : ByteArray).toList = y := by rw [ByteArray.toList_eq]
  revert hok
  unfold aStr
  split
  case h_8 => exact fun hok => hok.elim
  all_goals intro hok
  · refine fin (v := .string ⟨⟨x ++ y⟩⟩) ?_ (.str _)
    have hle : ¬ (((⟨⟨x⟩⟩ : ByteArray).size + (⟨⟨y⟩⟩ : ByteArray).size : Nat) : Int) > IntKind.i64.max := by
      have h2 : IntKind.i64.max = 9223372036854775807 := by decide
      rw [h2]
      have h3 : (⟨⟨x⟩⟩ : ByteArray).size = x.length := rfl
      have h4 : (⟨⟨y⟩⟩ : ByteArray).size = y.length := rfl
      simp only at hok
      rw [h3, h4]
      omega
    have e3 : (⟨⟨x⟩⟩ : ByteArray) ++ (⟨⟨y⟩⟩ : ByteArray) = ⟨⟨x ++ y⟩⟩ := by
      apply ByteArray.ext
      rw [ByteArray.data_append]
      simp
    simp only [binOp, Op.stringOp, hle, if_false, e3]
    rfl
  all_goals (refine fin ?_ (by constructor); simp [binOp, Op.stringOp, e1, e2, bytesLt])

theorem run_eqGuard_flat {op : BinOp} {t : TypeId} {x y : Operand} {v u : Value} (hv : v ≠ .nilIface) (hc : ∀ cs ds, v = .agg cs → u = .agg ds → P.eqGuardType P.depth t = false) : (eqGuard op t x y v u).run P w = .ok () w := by
  have go : ∀ op : BinOp, op = .eql ∨ op = .neq → (eqGuard op t x y v u).run P w = .ok () w := by
    intro op hop
    rcases hop with rfl | rfl
    all_goals
      unfold eqGuard
      simp only [Bool.not_true, Bool.false_eq_true, if_false]
      split
      · exact absurd rfl hv
      · have := hc _ _ rfl rfl
        simp [run_program, this]
      · rfl
  cases op <;> first | rfl | exact go _ (.inl rfl) | exact go _ (.inr rfl)

theorem RepS.nilp_inv {v : Value} {qq : Rows} (r : RepS S M qq v .nilp) : v = .pointer none := by
  cases r with | clean r => cases r; rfl

theorem binOp_eql_other {op : BinOp} {t : TypeId} {x y : Value} (hop : op = .eql ∨ op = .neq) (h1 : ∀ k n k' m, x = .int k n → y ≠ .int k' m) (h2 : ∀ k n k' m, x = .float k n → y ≠ .float k' m) (h3 : ∀ k n m k' n' m', x = .complex k n m → y ≠ .complex k' n' m')
    (h4 : ∀ u v, x = .string u → y ≠ .string v) {r : Bool} (he : (Op.equal t x y).run P w = .ok r w) : (binOp op t x y).run P w = .ok (.bool (if op = .neq then !r else r)) w := by
  rcases hop with rfl | rfl
  · cases x <;> cases y <;> first | (exact absurd rfl (h1 _ _ _ _ rfl)) | (exact absurd rfl (h2 _ _ _ _ rfl)) | (exact absurd rfl (h3 _ _ _ _ _ _ rfl)) | (exact absurd rfl (h4 _ _ rfl)) | (simp only [binOp, Sem.run_bind, he, Result.andThen_ok]; rfl)
  · cases x <;> cases y <;> first | (exact absurd rfl (h1 _ _ _ _ rfl)) | (exact absurd rfl (h2 _ _ _ _ rfl)) | (exact absurd rfl (h3 _ _ _ _ _ _ rfl)) | (exact absurd rfl (h4 _ _ rfl)) | (simp only [binOp, Sem.run_bind, he, Result.andThen_ok]; rfl)

theorem run_equalIn_ptr_nil_left (d : Nat) (t e : TypeId) (b : Option Addr) (h : P.underlying t = some (.pointer e)) : (Op.equalIn (d + 1) t (.pointer none) (.pointer b)).run P w = .ok b.isNone w := by
  simp [Op.equalIn, run_und h]
theorem run_equalIn_ptr_nil_right (d : Nat) (t e : TypeId) (b : Addr) (h : P.underlying t = some (.pointer e)) : (Op.equalIn (d + 1) t (.pointer (some b)) (.pointer none)).run P w = .ok false w := by
  simp [Op.equalIn, run_und h]
theorem run_equalIn_sl_nil_left (d : Nat) (t e : TypeId) (b : Option Addr) (n c : Nat) (h : P.underlying t = some (.slice e)) : (Op.equalIn (d + 1) t (.slice none 0 0) (.slice b n c)).run P w = .ok b.isNone w := by
  simp [Op.equalIn, run_und h]
theorem run_equalIn_sl_nil_right (d : Nat) (t e : TypeId) (b : Addr) (n c : Nat) (h : P.underlying t = some (.slice e)) : (Op.equalIn (d + 1) t (.slice (some b) n c) (.slice none 0 0)).run P w = .ok false w := by
  simp [Op.equalIn, run_und h]

theorem RepS.slnil_inv {v : Value} {qq : Rows} {es : List PV} (r : RepS S M qq v (.sl .nil es)) : v = .slice none 0 0 := by
  cases r with | clean r => cases r; rfl
theorem RepS.slcons_inv {v : Value} {qq : Rows} {t : Tok} {e : PV} {es : List PV} (r : RepS S M qq v (.sl t (e :: es))) : ∃ b n c, v = .slice (some b) n c := by
  obtain ⟨b, o, cap, vals, rfl, _⟩ := r.sl_inv.sl_at (i := 0) (by simp)
  exact ⟨_, _, _, rfl⟩

theorem teqk_bool {t : TypeId} (h : teqk P t = .bool) : P.underlying t = some .bool := by
  unfold teqk at h; split at h <;> first | assumption | cases h
theorem teqk_ptr {t : TypeId} (h : teqk P t = .ptr) : ∃ e, P.underlying t = some (.pointer e) := by
  unfold teqk at h; split at h <;> first | exact ⟨_, by assumption⟩ | cases h
theorem teqk_slc {t : TypeId} (h : teqk P t = .slc) : ∃ e, P.underlying t = some (.slice e) := by
  unfold teqk at h; split at h <;> first | exact ⟨_, by assumption⟩ | cases h
theorem teqk_map {t : TypeId} (h : teqk P t = .map) : ∃ k e, P.underlying t = some (.map k e) := by
  unfold teqk at h; split at h <;> first | exact ⟨_, _, by assumption⟩ | cases h
theorem run_equalIn_map_left (d : Nat) (t k e : TypeId) (b : Option Nat) (h : P.underlying t = some (.map k e)) : (Op.equalIn (d + 1) t (.map none) (.map b)).run P w = .ok b.isNone w := by
  simp [Op.equalIn, run_und h]
theorem run_equalIn_map_right (d : Nat) (t k e : TypeId) (b : Nat) (h : P.underlying t = some (.map k e)) : (Op.equalIn (d + 1) t (.map (some b)) (.map none)).run P w = .ok false w := by
  simp [Op.equalIn, run_und h]
theorem RepS.nilmap_inv {v : Value} {qq : Rows} (r : RepS S M qq v .nilmap) : v = .map none := by
  cases r with | clean r => cases r; rfl
theorem RepS.mref_inv {v : Value} {qq : Rows} {b : Nat} (r : RepS S M qq v (.mref b)) : v = .map (some b) := by
  cases r with | clean r => cases r; rfl
theorem RepS.rmap_inv {v : Value} {qq : Rows} {ks vs : List PV} (r : RepS S M qq v (.rmap ks vs)) : ∃ b, v = .map (some b) := by
  cases r with | clean r => cases r; exact ⟨_, rfl⟩

/-- two values held against each other -/
theorem sound_eql (hs : Sim B S M s a w) {op : BinOp} (hop : op = .eql ∨ op = .neq) {t : TypeId} {x y : Operand} {u v : Value} {p q : PV} (hu : RepS S M s.m.q u p) (hv : RepS S M s.m.q v q)
    (hok : (aEql P (decide (op = .neq)) t p q s.m).ok) : Snd P B S s a w (do eqGuard op t x y u v; binOp op t u v) (aEql P (decide (op = .neq)) t p q s.m) := by
  have fin : ∀ {r : Bool}, u ≠ .nilIface → (∀ cs ds, u = .agg cs → v = .agg ds → P.eqGuardType P.depth t = false) → (∀ k n k' m, u = .int k n → v ≠ .int k' m) → (∀ k n k' m, u = .float k n → v ≠ .float k' m) → (∀ k n m k' n' m', u = .complex k n m → v ≠ .complex k' n' m') →
      (∀ a b, u = .string a → v ≠ .string b) → (Op.equal t u v).run P w = .ok r w → Snd P B S s a w (do eqGuard op t x y u v; binOp op t u v) (aEq (decide (op = .neq)) (some r) s.m) := by
    intro r g0 g1 g2 g3 g4 g5 he
    refine Snd.pure hs (v := .bool (if op = .neq then !r else r)) ?_ ?_ (by simp [PV.ids])
    · simp only [Sem.run_bind, run_eqGuard_flat g0 g1, Result.andThen_ok]
      exact binOp_eql_other hop g2 g3 g4 g5 he
    · simp only [decide_eq_true_eq]
      exact .clean (.bool _)
  revert hok
  unfold aEql
  split
  · rename_i cs ds
    split
    · rename_i ls hls
      intro hok
      cases hr : eqLeaves ls cs ds with
      | none => rw [hr] at hok; exact hok.elim
      | some r =>
        obtain ⟨us, rfl, hl, hru⟩ := hu.agg_inv
        obtain ⟨vs, rfl, hl', hrv⟩ := hv.agg_inv
        unfold tleaves at hls
        split at hls
        · cases hls
        · rename_i hg
          simp only [Bool.or_eq_true, Bool.not_eq_true', not_or, Bool.not_eq_true, Bool.not_eq_false] at hg
          have hk := eq_ok (S := S) (M := M) (h := s.m.q) eqDepth t ls hls Op.maxDepth (by decide) us vs cs ds r ⟨hl, hru⟩ ⟨hl', hrv⟩ hr w
          refine fin (by simp) (fun _ _ _ _ => hg.1) (by simp) (by simp) (by simp) (by simp) ?_
          simpa [cellsVal, hg.2, Op.equal] using hk
    · intro hok; exact hok.elim
  · rename_i b1 b2
    split
    · rename_i heq
      intro hok
      obtain rfl := hu.bool_inv
      obtain rfl := hv.bool_inv
      exact fin (by simp) (by simp) (by simp) (by simp) (by simp) (by simp) (run_equal_bool w t b1 b2 (teqk_bool heq))
    · intro hok; exact hok.elim
  · rename_i hne1 hne2
    split
    · rename_i heq
      obtain ⟨e, he⟩ := teqk_ptr heq
      intro hok
      cases hr : ptrNil p q with
      | none => rw [hr] at hok; exact hok.elim
      | some r =>
        have hk : (Op.equal t u v).run P w = .ok r w ∧ ∃ x y, u = .pointer x ∧ v = .pointer y := by
          unfold ptrNil at hr
          split at hr
          · cases hr
            rw [hu.nilp_inv, hv.nilp_inv]
            exact ⟨run_equalIn_ptr_nil_left _ t e none he, _, _, rfl, rfl⟩
          · cases hr
            rw [hu.nilp_inv, hv.ptr_inv]
            exact ⟨run_equalIn_ptr_nil_left _ t e _ he, _, _, rfl, rfl⟩
          · cases hr
            obtain ⟨b, o, vals, e2, _⟩ := hv.rptr_inv
            rw [hu.nilp_inv, e2]
            exact ⟨run_equalIn_ptr_nil_left _ t e _ he, _, _, rfl, rfl⟩
          · cases hr
            rw [hu.ptr_inv, hv.nilp_inv]
            exact ⟨run_equalIn_ptr_nil_right _ t e _ he, _, _, rfl, rfl⟩
          · cases hr
            obtain ⟨b, o, vals, e2, _⟩ := hu.rptr_inv
            rw [e2, hv.nilp_inv]
            exact ⟨run_equalIn_ptr_nil_right _ t e _ he, _, _, rfl, rfl⟩
          · cases hr
        obtain ⟨hk, x', y', rfl, rfl⟩ := hk
        exact fin (by simp) (by simp) (by simp) (by simp) (by simp) (by simp) hk
    · rename_i heq
      obtain ⟨e, he⟩ := teqk_slc heq
      intro hok
      cases hr : slNil p q with
      | none => rw [hr] at hok; exact hok.elim
      | some r =>
        have hk : (Op.equal t u v).run P w = .ok r w ∧ ∃ x n c y n' c', u = .slice x n c ∧ v = .slice y n' c' := by
          unfold slNil at hr
          split at hr
          · cases hr
            rw [hu.slnil_inv, hv.slnil_inv]
            exact ⟨run_equalIn_sl_nil_left _ t e none _ _ he, _, _, _, _, _, _, rfl, rfl⟩
          · cases hr
            obtain ⟨b, n, c, e2⟩ := hu.slcons_inv
            rw [e2, hv.slnil_inv]
            exact ⟨run_equalIn_sl_nil_right _ t e _ _ _ he, _, _, _, _, _, _, rfl, rfl⟩
          · cases hr
            obtain ⟨b, n, c, e2⟩ := hv.slcons_inv
            rw [hu.slnil_inv, e2]
            exact ⟨run_equalIn_sl_nil_left _ t e _ _ _ he, _, _, _, _, _, _, rfl, rfl⟩
          · cases hr
            obtain ⟨cap, _, e2⟩ := hu.osl_inv
            rw [e2, hv.slnil_inv]
            exact ⟨run_equalIn_sl_nil_right _ t e _ _ _ he, _, _, _, _, _, _, rfl, rfl⟩
          · cases hr
        obtain ⟨hk, _, _, _, _, _, _, rfl, rfl⟩ := hk
        exact fin (by simp) (by simp) (by simp) (by simp) (by simp) (by simp) hk
    · rename_i heq
      obtain ⟨k, e, he⟩ := teqk_map heq
      intro hok
      cases hr : mapNil p q with
      | none => rw [hr] at hok; exact hok.elim
      | some r =>
        have hk : (Op.equal t u v).run P w = .ok r w ∧ ∃ x y, u = .map x ∧ v = .map y := by
          unfold mapNil at hr
          split at hr
          · cases hr
            rw [hu.nilmap_inv, hv.nilmap_inv]
            exact ⟨run_equalIn_map_left _ t k e none he, _, _, rfl, rfl⟩
          · cases hr
            rw [hu.nilmap_inv, hv.mref_inv]
            exact ⟨run_equalIn_map_left _ t k e _ he, _, _, rfl, rfl⟩
          · cases hr
            obtain ⟨b, e2⟩ := hv.rmap_inv
            rw [hu.nilmap_inv, e2]
            exact ⟨run_equalIn_map_left _ t k e _ he, _, _, rfl, rfl⟩
          · cases hr
            rw [hu.mref_inv, hv.nilmap_inv]
            exact ⟨run_equalIn_map_right _ t k e _ he, _, _, rfl, rfl⟩
          · cases hr
            obtain ⟨b, e2⟩ := hu.rmap_inv
            rw [e2, hv.nilmap_inv]
            exact ⟨run_equalIn_map_right _ t k e _ he, _, _, rfl, rfl⟩
          · cases hr
        obtain ⟨hk, _, _, rfl, rfl⟩ := hk
        exact fin (by simp) (by simp) (by simp) (by simp) (by simp) (by simp) hk
    · intro hok; exact hok.elim

theorem sound_bin (hs : Sim B S M s a w) {op : BinOp} {t : TypeId} {x y : Operand} {u v : Value} {p q : PV} (hu : RepS S M s.m.q u p) (hv : RepS S M s.m.q v q)
    (hok : (aBin P op t p q s.m).ok) : Snd P B S s a w (do eqGuard op t x y u v; binOp op t u v) (aBin P op t p q s.m) := by
  have pre : ∀ {r : ARes}, u ≠ .nilIface → (∀ cs ds, u = .agg cs → v ≠ .agg ds) → Snd P B S s a w (binOp op t u v) r → Snd P B S s a w (do eqGuard op t x y u v; binOp op t u v) r := by
    intro r g0 g1 h
    obtain ⟨z, w', S', M', h1, h2⟩ := h
    refine ⟨z, w', S', M', ?_, h2⟩
    simp only [Sem.run_bind, run_eqGuard_flat g0 (fun cs ds e1 e2 => absurd e2 (g1 cs ds e1)), Result.andThen_ok]
    exact h1
  revert hok
  unfold aBin
  split
  · intro hok
    obtain rfl := hu.int_inv
    obtain rfl := hv.int_inv
    exact pre (by simp) (by simp) (sound_int hs hok)
  · intro hok
    obtain rfl := hu.str_inv
    obtain rfl := hv.str_inv
    exact pre (by simp) (by simp) (sound_str hs hok)
  · intro hok
    obtain rfl := hu.flt_inv
    obtain rfl := hv.flt_inv
    exact pre (by simp) (by simp) (sound_flt hs hok)
  · split
    · intro hok; exact sound_eql hs (.inl rfl) hu hv hok
    · intro hok; exact sound_eql hs (.inr rfl) hu hv hok
    · intro hok; exact hok.elim
end
end Go.PL

namespace Go.PL
open Go.RowKit
set_option linter.unusedVariables false
section
variable {P : Program} {B : Frm} {S : Stable} {M : Maps} {s : St} {a : Act} {w : World}

/-- the stable cells, and the first k of block g besides -/
def addS (S : Stable) (g k : Nat) (vs : List Value) : Stable := ⟨fun b o => if b = g ∧ o < k then some (vs.getD o undef) else S b o, S.m⟩
theorem addS_c (S : Stable) (g k : Nat) (vs : List Value) (b o : Nat) : (addS S g k vs).c b o = if b = g ∧ o < k then some (vs.getD o undef) else S b o := rfl
/-- the stable cells, and some of block g besides -/
def addR (S : Stable) (g lo hi : Nat) (vs : List Value) : Stable := ⟨fun b o => if b = g ∧ lo ≤ o ∧ o < hi then some (vs.getD o undef) else S b o, S.m⟩
theorem addR_c (S : Stable) (g lo hi : Nat) (vs : List Value) (b o : Nat) : (addR S g lo hi vs).c b o = if b = g ∧ lo ≤ o ∧ o < hi then some (vs.getD o undef) else S b o := rfl

/-- a row laid anew -/
def Hp.setq (m : Hp) (d : Nat) (r : Row) : Hp := { m with q := upd m.q d (some r) }

/-- a row in a new block -/
theorem Sim.newRow (hs : Sim B S M s a w) {d : Nat} {n sz c : Nat} {e : TypeId} {vs : List Value} {w' : World}
    (hd : s.m.q d = none ∨ ∃ n0 sz0 e0, s.m.q d = some (.live n0 sz0 e0) ∧ n0 < n) (hn : n ≤ c) (hc : c ≤ maxLen) (hl : vs.length = c * sz)
    (hw : ∀ k, k < w.heap.size → w'.heap[k]? = w.heap[k]?) (hnew : w'.heap[w.heap.size]? = some (.cells ⟨vs⟩ e (0, 0))) :
    Sim B (addS S w.heap.size (n * sz) vs) { M with ψ := upd M.ψ d w.heap.size, κ := upd M.κ d (c + 1) } (s.with (s.m.setq d (.live n sz e))) a w' := by
  have hkl : n * sz ≤ vs.length := by rw [hl]; exact Nat.mul_le_mul_right _ hn
  have hle : SLe S (addS S w.heap.size (n * sz) vs) := .cells rfl fun b o v hv => by
    rw [addS_c]
    rw [if_neg]
    · exact hv
    · rintro ⟨rfl, _⟩; rw [hs.S_lt (Nat.le_refl _)] at hv; cases hv
  have hlt : w.heap.size < w'.heap.size := (Array.getElem?_eq_some_iff.1 hnew).1
  have g := hs.grow (w' := w') hle (fun b hb => ⟨fun o => by rw [addS_c, if_neg]; rintro ⟨rfl, _⟩; omega, rfl⟩)
    ⟨fun b o v hv => by
      rw [addS_c] at hv
      split at hv
      · rename_i hb
        obtain ⟨rfl, ho⟩ := hb
        rw [cell_of hnew, List.getElem?_eq_getElem (by omega), ← hv, getD_lt (by omega)]
      · have h' := hs.stable b o v hv
        rw [← h']; exact World.cell?_of_block (hw _ (cell_lt h')), fun b es h => (hs.stable.s.old hw).m b es h⟩
    hw (by omega)
  have e1 : ∀ i, i ≠ d → upd M.ψ d w.heap.size i = M.ψ i := fun i h => upd_ne _ _ (Ne.symm h)
  have e2 : ∀ i, i ≠ d → upd M.κ d (c + 1) i = M.κ i := fun i h => upd_ne _ _ (Ne.symm h)
  have e3 : ∀ i, i ≠ d → upd s.m.q d (some (.live n sz e)) i = s.m.q i := fun i h => upd_ne _ _ (Ne.symm h)
  have rep : ∀ {v p}, RepS (addS S w.heap.size (n * sz) vs) M s.m.q v p → (∀ i ∈ p.ids, Live s.m i) →
      RepS (addS S w.heap.size (n * sz) vs) { M with ψ := upd M.ψ d w.heap.size, κ := upd M.κ d (c + 1) } (upd s.m.q d (some (.live n sz e))) v p := fun r hids =>
    r.heap (SLe.refl _) (fun _ _ => rfl) (fun i hi n' sz' e' hq => by
      by_cases ei : i = d
      · subst ei
        rcases hd with hd | ⟨n0, sz0, e0, hd, h0⟩
        · exact absurd hd (hids _ hi)
        · rw [upd_same] at hq
          cases hq
          exact .inr ⟨n0, sz0, e0, hd, h0⟩
      · rw [e3 i ei] at hq
        exact .inl ⟨hq, e2 i ei, e1 i ei⟩)
  have live : ∀ i, Live s.m i → Live (s.m.setq d (.live n sz e)) i := fun i h => by
    cases i with
    | b i => exact h
    | r i =>
      show upd _ _ _ _ ≠ none
      by_cases ei : i = d
      · subst ei; rw [upd_same]; simp
      · rw [e3 i ei]; exact h
  refine ⟨g.defers, g.hn, g.hB, g.stable, fun i => rep (g.fr i) (hs.ids i), fun i j hj => live j (hs.ids i j hj), fun i b hb => ?_, fun i r hr => ?_, hs.inj, ?_, ?_⟩
  · have hb' := g.blk i b hb
    show BlkOk _ _ _ _ _ _ _ (s.m.z i)
    cases hz : s.m.z i with
    | false =>
      rw [hz] at hb'
      obtain ⟨h1, h2, ⟨us, t', h3, h4, h5⟩, h6⟩ := hb'
      exact ⟨h1, h2, ⟨us, t', h3, h4, fun j hj => rep (h5 j hj) (fun k hk => h6 _ (getD_mem hj) k hk)⟩, fun c hc k hk => live k (h6 c hc k hk)⟩
    | true => rw [hz] at hb'; exact hb'
  · simp only [St.with, Hp.setq] at hr
    by_cases ei : i = d
    · subst ei
      rw [upd_same] at hr
      cases hr
      refine ⟨fun h0 => by simp [upd_same] at h0, fun c' hc' => ?_⟩
      simp only [upd_same, Nat.add_right_cancel_iff] at hc'
      subst hc'
      refine ⟨hn, hc, by simp only [upd_same]; exact hs.new_ok, ⟨vs, by simp only [upd_same]; exact hnew, hl⟩, fun o ho => ?_⟩
      simp only [upd_same]
      rw [addS_c]
      rw [if_neg (by omega)]
      exact hs.S_lt (Nat.le_refl _)
    · rw [e3 i ei] at hr
      have hr' := g.row i r hr
      cases r with
      | live n' sz' e' =>
        obtain ⟨h1, h2⟩ := hr'
        refine ⟨fun h0 => h1 (by simpa only [e2 i ei] using h0), fun c' hc' => ?_⟩
        simp only [e2 i ei, e1 i ei] at hc' ⊢
        exact h2 c' hc'
      | dead => trivial
  · intro i j n1 z1 t1 n2 z2 t2 hi hj ki kj hij
    simp only [St.with, Hp.setq] at hi hj ki kj ⊢
    by_cases ei : i = d
    · subst ei
      rw [e3 j (Ne.symm hij)] at hj
      rw [e2 j (Ne.symm hij)] at kj
      rw [upd_same, e1 j (Ne.symm hij)]
      have := hs.row_lt hj kj
      omega
    · by_cases ej : j = d
      · subst ej
        rw [e3 i ei] at hi
        rw [e2 i ei] at ki
        rw [upd_same, e1 i ei]
        have := hs.row_lt hi ki
        omega
      · rw [e3 i ei] at hi; rw [e3 j ej] at hj
        rw [e2 i ei] at ki; rw [e2 j ej] at kj
        rw [e1 i ei, e1 j ej]
        exact hs.injq i j _ _ _ _ _ _ hi hj ki kj hij
  · intro i j ds n1 z1 t1 hi zi hj kj
    simp only [St.with, Hp.setq] at hi zi hj kj ⊢
    by_cases ej : j = d
    · subst ej
      rw [upd_same]
      have := hs.blk_lt hi zi
      omega
    · rw [e3 j ej] at hj; rw [e2 j ej] at kj
      rw [e1 j ej]
      exact hs.injx i j _ _ _ _ hi zi hj kj

/-- a row that grows where it lies -/
theorem Sim.growRow (hs : Sim B S M s a w) {d : Nat} {n m sz c : Nat} {e : TypeId} {news : List Value} (hd : s.m.q d = some (.live n sz e)) (hk : M.κ d = c + 1) (hm : n + m ≤ c) (hl : news.length = m * sz) :
    ∃ vs, w.heap[M.ψ d]? = some (.cells ⟨vs⟩ e (0, 0)) ∧ vs.length = c * sz ∧ ¬ B (M.ψ d) ∧ (∀ o, n * sz ≤ o → S (M.ψ d) o = none) ∧
      let vs' := vs.take (n * sz) ++ news ++ vs.drop (n * sz + news.length)
      Sim B (addR S (M.ψ d) (n * sz) ((n + m) * sz) vs') M (s.with (s.m.setq d (.live (n + m) sz e))) a (w.setRow (M.ψ d) ⟨vs'⟩) := by
  obtain ⟨_, hrow⟩ := hs.row d _ hd
  obtain ⟨r0, r0', r1, ⟨vs, r2, r3⟩, r4⟩ := hrow c hk
  refine ⟨vs, r2, r3, r1, r4, ?_⟩
  have hmul : (n + m) * sz ≤ c * sz := Nat.mul_le_mul_right _ hm
  have hsum : (n + m) * sz = n * sz + news.length := by rw [Nat.add_mul, hl]
  have hv' : (vs.take (n * sz) ++ news ++ vs.drop (n * sz + news.length)).length = c * sz := by
    simp only [List.length_append, List.length_take, List.length_drop]; omega
  intro vs'
  have hold : ∀ k, k ≠ M.ψ d → (w.setRow (M.ψ d) ⟨vs'⟩).heap[k]? = w.heap[k]? := fun k hk => setRow_old hk
  have hnew : (w.setRow (M.ψ d) ⟨vs'⟩).heap[M.ψ d]? = some (.cells ⟨vs'⟩ e (0, 0)) := setRow_new r2
  have hlt : M.ψ d < w.heap.size := (Array.getElem?_eq_some_iff.1 r2).1
  have hle : SLe S (addR S (M.ψ d) (n * sz) ((n + m) * sz) vs') := .cells rfl fun b o v hv => by
    show (if _ then _ else _) = some v
    rw [if_neg]
    · exact hv
    · rintro ⟨rfl, h1, _⟩; rw [r4 o h1] at hv; cases hv
  have e3 : ∀ i, i ≠ d → upd s.m.q d (some (.live (n + m) sz e)) i = s.m.q i := fun i h => upd_ne _ _ (Ne.symm h)
  have rep : ∀ {v p}, RepS S M s.m.q v p → RepS (addR S (M.ψ d) (n * sz) ((n + m) * sz) vs') M (upd s.m.q d (some (.live (n + m) sz e))) v p := fun r =>
    r.heap hle (fun _ _ => rfl) (fun i hi n' sz' e' hq => by
      by_cases ei : i = d
      · subst ei
        rw [upd_same] at hq
        cases hq
        by_cases h0 : m = 0
        · subst h0; exact .inl ⟨hd, rfl, rfl⟩
        · exact .inr ⟨n, sz, e, hd, by omega⟩
      · rw [e3 i ei] at hq
        exact .inl ⟨hq, rfl, rfl⟩)
  have live : ∀ i, Live s.m i → Live (s.m.setq d (.live (n + m) sz e)) i := fun i h => by
    cases i with
    | b i => exact h
    | r i =>
      show upd _ _ _ _ ≠ none
      by_cases ei : i = d
      · subst ei; rw [upd_same]; simp
      · rw [e3 i ei]; exact h
  have back : ∀ {i n1 z1 t1}, upd s.m.q d (some (.live (n + m) sz e)) i = some (.live n1 z1 t1) → ∃ n2 z2 t2, s.m.q i = some (.live n2 z2 t2) := fun {i n1 z1 t1} h => by
    by_cases ei : i = d
    · subst ei; exact ⟨_, _, _, hd⟩
    · rw [e3 i ei] at h; exact ⟨_, _, _, h⟩
  refine ⟨hs.defers, hs.hn, by rw [setRow_size]; exact hs.hB, hs.stable.move hle (fun b c hc => (hs.stable.o b c hc).2.1) ⟨fun b o v hv => ?_, fun b es he => ?_⟩ (fun b c hc => hold b (fun e => by subst e; obtain ⟨es, h, _⟩ := (hs.stable.o _ c hc).2.2; rw [r2] at h; cases h)) (fun b x hx => hold b (fun e => by subst e; have h := (hs.stable.i _ x hx).2.1; unfold IterAt at h; rw [r2] at h; cases h)), fun i => rep (hs.fr i), fun i j hj => live j (hs.ids i j hj), fun i b hb => ?_, fun i r hr => ?_, hs.inj, ?_, ?_⟩
  · rw [addR_c] at hv
    split at hv
    · rename_i hb
      obtain ⟨rfl, ho1, ho2⟩ := hb
      rw [cell_of hnew, List.getElem?_eq_getElem (by rw [hv']; omega), ← hv, getD_lt (by rw [hv']; omega)]
    · rename_i hb
      have h' := hs.stable b o v hv
      by_cases eb : b = M.ψ d
      · subst eb
        have ho : o < n * sz := by
          refine Decidable.byContradiction fun h => ?_
          rw [r4 o (by omega)] at hv; cases hv
        rw [cell_of r2] at h'
        rw [cell_of hnew]
        show (vs.take (n * sz) ++ news ++ vs.drop (n * sz + news.length))[o]? = some v
        rw [List.append_assoc, List.getElem?_append_left (by simp; omega), List.getElem?_take_of_lt ho]
        exact h'
      · rw [← h']; exact World.cell?_of_block (hold b eb)
  · have h' := hs.stable.s.m b es he
    rw [hold b (fun e => by subst e; rw [r2] at h'; cases h')]; exact h'
  · have hb' := hs.blk i b hb
    show BlkOk _ _ _ _ _ _ _ (s.m.z i)
    cases hz : s.m.z i with
    | false =>
      rw [hz] at hb'
      obtain ⟨h1, h2, ⟨us, t', h3, h4, h5⟩, h6⟩ := hb'
      have hne := hs.injx i d _ _ _ _ hb hz hd (by omega)
      refine ⟨h1, fun o => ?_, ⟨us, t', by rw [hold _ hne]; exact h3, h4, fun j hj => rep (h5 j hj)⟩, fun c hc k hk => live k (h6 c hc k hk)⟩
      show (if _ then _ else _) = none
      rw [if_neg (fun h => hne h.1)]; exact h2 o
    | true => rw [hz] at hb'; obtain ⟨vals, hv⟩ := hb'; exact ⟨vals, fun j hj => ⟨hle _ _ _ (hv j hj).1, (hv j hj).2.mono hle⟩⟩
  · simp only [St.with, Hp.setq] at hr
    by_cases ei : i = d
    · subst ei
      rw [upd_same] at hr
      cases hr
      refine ⟨fun h0 => by omega, fun c' hc' => ?_⟩
      obtain rfl : c' = c := by omega
      refine ⟨hm, r0', r1, ⟨vs', hnew, hv'⟩, fun o ho => ?_⟩
      show (if _ then _ else _) = none
      rw [if_neg (by omega)]
      exact r4 o (by rw [Nat.add_mul] at ho; omega)
    · rw [e3 i ei] at hr
      have hr' := hs.row i r hr
      cases r with
      | live n' sz' e' =>
        obtain ⟨h1, h2⟩ := hr'
        refine ⟨h1, fun c' hc' => ?_⟩
        obtain ⟨g0, g0', g1, ⟨us, g2, g3⟩, g4⟩ := h2 c' hc'
        have hne := hs.injq i d _ _ _ _ _ _ hr hd (by omega) (by omega) ei
        refine ⟨g0, g0', g1, ⟨us, by rw [hold _ hne]; exact g2, g3⟩, fun o ho => ?_⟩
        show (if _ then _ else _) = none
        rw [if_neg (fun h => hne h.1)]; exact g4 o ho
      | dead => trivial
  · intro i j n1 z1 t1 n2 z2 t2 hi hj ki kj hij
    obtain ⟨_, _, _, hi'⟩ := back hi
    obtain ⟨_, _, _, hj'⟩ := back hj
    exact hs.injq i j _ _ _ _ _ _ hi' hj' ki kj hij
  · intro i j ds n1 z1 t1 hi zi hj kj
    obtain ⟨_, _, _, hj'⟩ := back hj
    exact hs.injx i j _ _ _ _ hi zi hj' kj

/-- a row under another name -/
theorem Sim.moveRow (hs : Sim B S M s a w) {i d : Nat} {n sz : Nat} {e : TypeId} (hi : s.m.q i = some (.live n sz e)) (hd : s.m.q d = none) :
    Sim B S { M with ψ := upd M.ψ d (M.ψ i), κ := upd M.κ d (M.κ i) } (s.with ((s.m.setq i .dead).setq d (.live n sz e))) a w := by
  have hid : i ≠ d := fun h => by subst h; rw [hi] at hd; cases hd
  have e1 : ∀ k, k ≠ d → upd M.ψ d (M.ψ i) k = M.ψ k := fun i h => upd_ne _ _ (Ne.symm h)
  have e2 : ∀ k, k ≠ d → upd M.κ d (M.κ i) k = M.κ k := fun i h => upd_ne _ _ (Ne.symm h)
  have e3 : ∀ k, k ≠ d → k ≠ i → upd (upd s.m.q i (some .dead)) d (some (.live n sz e)) k = s.m.q k := fun k h h' => by rw [upd_ne _ _ (Ne.symm h), upd_ne _ _ (Ne.symm h')]
  have ei : upd (upd s.m.q i (some .dead)) d (some (.live n sz e)) i = some .dead := by rw [upd_ne _ _ (Ne.symm hid), upd_same]
  have rep : ∀ {v p}, RepS S M s.m.q v p → (∀ k ∈ p.ids, Live s.m k) → RepS S { M with ψ := upd M.ψ d (M.ψ i), κ := upd M.κ d (M.κ i) } (upd (upd s.m.q i (some .dead)) d (some (.live n sz e))) v p := fun r hids =>
    r.heap (SLe.refl _) (fun _ _ => rfl) (fun k hk n' sz' e' hq => by
      by_cases h1 : k = d
      · subst h1; exact absurd hd (hids _ hk)
      · by_cases h2 : k = i
        · subst h2; rw [ei] at hq; cases hq
        · rw [e3 k h1 h2] at hq; exact .inl ⟨hq, e2 k h1, e1 k h1⟩)
  have live : ∀ k, Live s.m k → Live ((s.m.setq i .dead).setq d (.live n sz e)) k := fun k h => by
    cases k with
    | b k => exact h
    | r k =>
      show upd (upd s.m.q i (some .dead)) d (some (.live n sz e)) k ≠ none
      by_cases h1 : k = d
      · subst h1; rw [upd_same]; simp
      · by_cases h2 : k = i
        · subst h2; rw [ei]; simp
        · rw [e3 k h1 h2]; exact h
  refine ⟨hs.defers, hs.hn, hs.hB, hs.stable, fun k => rep (hs.fr k) (hs.ids k), fun k j hj => live j (hs.ids k j hj), fun k b hb => ?_, fun k r hr => ?_, hs.inj, ?_, ?_⟩
  · have hb' := hs.blk k b hb
    show BlkOk _ _ _ _ _ _ _ (s.m.z k)
    cases hz : s.m.z k with
    | false =>
      rw [hz] at hb'
      obtain ⟨h1, h2, ⟨us, t', h3, h4, h5⟩, h6⟩ := hb'
      exact ⟨h1, h2, ⟨us, t', h3, h4, fun j hj => rep (h5 j hj) (fun k hk => h6 _ (getD_mem hj) k hk)⟩, fun c hc k hk => live k (h6 c hc k hk)⟩
    | true => rw [hz] at hb'; exact hb'
  · simp only [St.with, Hp.setq] at hr
    by_cases h1 : k = d
    · subst h1
      rw [upd_same] at hr
      cases hr
      have := hs.row i _ hi
      simpa [RowOk, upd_same] using this
    · by_cases h2 : k = i
      · subst h2; rw [ei] at hr; cases hr; trivial
      · rw [e3 k h1 h2] at hr
        have := hs.row k r hr
        cases r with
        | live n' z' t' => simpa only [RowOk, e1 k h1, e2 k h1] using this
        | dead => trivial
  · intro k j n1 z1 t1 n2 z2 t2 hk hj kk kj hkj
    simp only [St.with, Hp.setq] at hk hj kk kj ⊢
    have back : ∀ {k n1 z1 t1}, upd (upd s.m.q i (some .dead)) d (some (.live n sz e)) k = some (.live n1 z1 t1) → k ≠ d → k ≠ i ∧ s.m.q k = some (.live n1 z1 t1) := fun {k _ _ _} h h1 => by
      by_cases h2 : k = i
      · subst h2; rw [ei] at h; cases h
      · rw [e3 k h1 h2] at h; exact ⟨h2, h⟩
    by_cases h1 : k = d
    · subst h1
      have hj1 : j ≠ k := Ne.symm hkj
      obtain ⟨g1, g2⟩ := back hj hj1
      rw [e2 j hj1] at kj
      rw [upd_same] at kk ⊢
      rw [e1 j hj1]
      exact hs.injq i j _ _ _ _ _ _ hi g2 kk kj (Ne.symm g1)
    · obtain ⟨g1, g2⟩ := back hk h1
      rw [e2 k h1] at kk
      by_cases h2 : j = d
      · subst h2
        rw [upd_same] at kj ⊢
        rw [e1 k h1]
        exact hs.injq k i _ _ _ _ _ _ g2 hi kk kj g1
      · obtain ⟨g3, g4⟩ := back hj h2
        rw [e2 j h2] at kj
        rw [e1 k h1, e1 j h2]
        exact hs.injq k j _ _ _ _ _ _ g2 g4 kk kj hkj
  · intro k j ds n1 z1 t1 hk zk hj kj
    simp only [St.with, Hp.setq] at hk zk hj kj ⊢
    by_cases h2 : j = d
    · subst h2
      rw [upd_same] at kj ⊢
      exact hs.injx k i _ _ _ _ hk zk hi kj
    · by_cases h3 : j = i
      · subst h3; rw [ei] at hj; cases hj
      · rw [e3 j h2 h3] at hj
        rw [e2 j h2] at kj
        rw [e1 j h2]
        exact hs.injx k j _ _ _ _ hk zk hj kj
end
end Go.PL

namespace Go.PL
open Go.RowKit
set_option linter.unusedVariables false

/-- each element takes so many cells -/
def Sized (n : Nat) (es : List PV) : Prop := ∀ e ∈ es, e.cells.length = n
/-- each cell of each element is the value of one cell -/
def Atoms (es : List PV) : Prop := ∀ e ∈ es, e.cells.all PV.atom = true

structure EInfo where
  e : TypeId
  size : Nat
  bytes : Nat
/-- a slice type's elements: the type, its cells, its bytes; it has a zero value of as many cells -/
def telem (P : Program) (t : TypeId) : Option EInfo :=
  match P.underlying t with
  | some (.slice e) => match P.info? e with
    | some i => match i.zero with
      | some z => if z.cells.size = i.size ∧ 0 < i.size then some ⟨e, i.size, i.bytes⟩ else none
      | none => none
    | none => none
  | _ => none
theorem telem_spec {P : Program} {t : TypeId} {x : EInfo} (h : telem P t = some x) : ∃ i z, P.underlying t = some (.slice x.e) ∧ P.info? x.e = some i ∧ i.zero = some z ∧ z.cells.size = x.size ∧ i.size = x.size ∧ i.bytes = x.bytes ∧ 0 < x.size ∧ tsz P x.e = x.size := by
  unfold telem at h
  split at h
  · rename_i e he
    split at h
    · rename_i i hi
      split at h
      · rename_i z hz
        split at h
        · rename_i hc
          simp only [Option.some.injEq] at h
          subst h
          exact ⟨i, z, he, hi, hz, hc.1, rfl, rfl, hc.2, by simp [tsz, Program.cellsOf, hi]⟩
        · cases h
      · cases h
    · cases h
  · cases h

section
variable {P : Program} {B : Frm} {S : Stable} {M : Maps} {s : St} {a : Act} {w : World}

theorem flat_index {n i j : Nat} (hj : j < n) : (i * n + j) / n = i ∧ (i * n + j) % n = j := by
  have hn : 0 < n := by omega
  exact ⟨by rw [Nat.add_comm, Nat.add_mul_div_right _ _ hn, Nat.div_eq_of_lt hj, Nat.zero_add], by rw [Nat.add_comm, Nat.add_mul_mod_self_right, Nat.mod_eq_of_lt hj]⟩

/-- the cells of a slice that reads as a list -/
theorem Rep.src (hst : ∀ b o v, S b o = some v → w.cell? ⟨b, o, none⟩ = some v) {v : Value} {xs : List PV} {sz : Nat} (r : Rep S v (.sl .no xs)) (hz : Sized sz xs) (hat : Atoms xs) {tx e' : TypeId} (hk : P.underlying tx = some (.slice e')) :
    ∃ news : List Value, Src P sz tx v xs.length news w ∧ ∀ i j, i < xs.length → j < sz → Rep S (news.getD (i * sz + j) undef) ((xs.getD i .any).cells.getD j .any) := by
  by_cases h0 : xs.length = 0
  · have hx : xs = [] := List.eq_nil_of_length_eq_zero h0
    subst hx
    obtain ⟨ad, cap, rfl, _⟩ := r.sl_len
    refine ⟨[], ?_, fun i j hi => by simp at hi⟩
    cases ad with
    | none => exact Src.ofNil w hk cap
    | some ad => exact Src.ofSlice w hk ad 0 cap [] (by simp) (by simp) (by simp)
  · have hpos : 0 < xs.length := by omega
    obtain ⟨b, o, cap, vals, rfl, hcap, hu, hS, hR⟩ := r.sl_at hpos
    have e0 : (xs.getD 0 .any).cells.length = sz := hz _ (getD_mem hpos)
    rw [e0] at hS hR hu
    have key : ∀ k, k < xs.length * sz → (k / sz < xs.length ∧ k % sz < sz ∧ k / sz * sz + k % sz = k) := fun k hk => by
      have hsz : 0 < sz := Nat.pos_of_ne_zero fun h => by subst h; simp at hk
      exact ⟨by rw [Nat.div_lt_iff_lt_mul hsz]; exact hk, Nat.mod_lt _ hsz, by rw [Nat.mul_comm]; exact Nat.div_add_mod k sz⟩
    refine ⟨(List.range (xs.length * sz)).map fun k => vals (k / sz) (k % sz), ?_, fun i j hi hj => ?_⟩
    · refine Src.ofSlice w hk ⟨b, o, none⟩ xs.length cap _ (by simp) (fun k u hu' => ?_) (fun u hu' => ?_)
      · rw [List.getElem?_map] at hu'
        obtain ⟨k', hk', rfl⟩ := Option.map_eq_some_iff.1 hu'
        obtain ⟨h1, h2⟩ := List.getElem?_eq_some_iff.1 hk'
        simp only [List.length_range] at h1
        simp only [List.getElem_range] at h2
        subst h2
        obtain ⟨g1, g2, g3⟩ := key k h1
        rw [add_none]
        have := hst _ _ _ (hS (k / sz) (k % sz) g1 g2)
        rw [Nat.add_assoc, g3] at this
        exact this
      · obtain ⟨k, hk', rfl⟩ := List.mem_map.1 hu'
        obtain ⟨g1, g2, g3⟩ := key k (by simpa using hk')
        have hr := hR (k / sz) (k % sz) g1 g2
        have hc := hz _ (getD_mem (d := PV.any) g1)
        have ha := List.all_eq_true.1 (hat _ (getD_mem (d := PV.any) g1)) _ (getD_mem (d := PV.any) (by rw [hc]; exact g2))
        exact (RepS.clean (M := ⟨id, id, id⟩) (q := fun _ => none) hr).atom_inv ha
    · have hlt : i * sz + j < xs.length * sz := by
        have := Nat.mul_le_mul_right sz (show i + 1 ≤ xs.length by omega)
        rw [Nat.add_mul] at this
        omega
      rw [getD_lt (by simpa using hlt)]
      simp only [List.getElem_map, List.getElem_range]
      obtain ⟨d1, d2⟩ := flat_index (i := i) hj
      rw [d1, d2]
      exact hR i j hi hj

/-- a string's bytes, appended -/
def bytesPV (l : List UInt8) : List PV := l.map fun b => .int .u8 b.toNat

theorem src_string {tx : TypeId} (hk : P.underlying tx = some .string) (l : List UInt8) :
    ∃ news : List Value, Src P 1 tx (.string ⟨⟨l⟩⟩) (bytesPV l).length news w ∧ ∀ i j, i < (bytesPV l).length → j < 1 → Rep S (news.getD (i * 1 + j) undef) (((bytesPV l).getD i .any).cells.getD j .any) := by
  refine ⟨byteCells ⟨⟨l⟩⟩, ?_, fun i j hi hj => ?_⟩
  · have := Src.ofString (P := P) w hk ⟨⟨l⟩⟩
    have e : (⟨⟨l⟩⟩ : ByteArray).size = (bytesPV l).length := by simp [bytesPV, ByteArray.size]
    rw [e] at this
    exact this
  · obtain rfl : j = 0 := by omega
    simp only [bytesPV, List.length_map] at hi
    rw [Nat.mul_one, Nat.add_zero, getD_lt (by simpa [byteCells] using hi)]
    simp only [byteCells, List.getElem_map, bytesPV]
    rw [getD_lt (l := List.map _ l) (by simpa using hi)]
    simp only [List.getElem_map]
    exact .int _ _

/-- the cells of a slice whose elements lie at the head of a block -/
theorem rep_of_cells {b cap sz : Nat} {es : List PV} (hz : Sized sz es) (hcap : es.length ≤ cap) {cells : List Value} (hS : ∀ k, k < es.length * sz → S b k = some (cells.getD k undef))
    (hR : ∀ i j, i < es.length → j < sz → Rep S (cells.getD (i * sz + j) undef) ((es.getD i .any).cells.getD j .any)) : Rep S (.slice (some ⟨b, 0, none⟩) es.length cap) (.sl .no es) := by
  refine .sl b 0 cap sz es (fun i j => cells.getD (i * sz + j) undef) (fun i hi => hz _ (getD_mem hi)) hcap (fun i j hi hj => ?_) hR
  rw [Nat.zero_add]
  apply hS
  have := Nat.mul_le_mul_right sz (show i + 1 ≤ es.length by omega)
  rw [Nat.add_mul] at this
  omega

/-- the cells that a row's own value reads -/
theorem Rep.cells_of {v : Value} {es : List PV} {sz b c : Nat} (r : Rep S v (.sl .no es)) (hv : v = .slice (some ⟨b, 0, none⟩) es.length c) (hz : Sized sz es) :
    ∃ cells : List Value, cells.length = es.length * sz ∧ (∀ k, k < es.length * sz → S b k = some (cells.getD k undef)) ∧ ∀ i j, i < es.length → j < sz → Rep S (cells.getD (i * sz + j) undef) ((es.getD i .any).cells.getD j .any) := by
  by_cases h0 : es.length = 0
  · have hx : es = [] := List.eq_nil_of_length_eq_zero h0
    subst hx
    exact ⟨[], by simp, fun k hk => by simp at hk, fun i j hi => by simp at hi⟩
  · have hpos : 0 < es.length := by omega
    obtain ⟨b', o, cap, vals, e, hcap, hu, hS, hR⟩ := r.sl_at hpos
    rw [hv] at e
    cases e
    have e0 : (es.getD 0 .any).cells.length = sz := hz _ (getD_mem hpos)
    rw [e0] at hS hR hu
    refine ⟨(List.range (es.length * sz)).map fun k => vals (k / sz) (k % sz), by simp, fun k hk => ?_, fun i j hi hj => ?_⟩
    · have hsz : 0 < sz := Nat.pos_of_ne_zero fun h => by subst h; simp at hk
      have := hS (k / sz) (k % sz) (by rw [Nat.div_lt_iff_lt_mul hsz]; exact hk) (Nat.mod_lt _ hsz)
      rw [Nat.zero_add, Nat.mul_comm, Nat.div_add_mod] at this
      rw [getD_lt (by simpa using hk)]
      simpa using this
    · have hlt : i * sz + j < es.length * sz := by
        have := Nat.mul_le_mul_right sz (show i + 1 ≤ es.length by omega)
        rw [Nat.add_mul] at this
        omega
      rw [getD_lt (by simpa using hlt)]
      simp only [List.getElem_map, List.getElem_range]
      obtain ⟨d1, d2⟩ := flat_index (i := i) hj
      rw [d1, d2]
      exact hR i j hi hj

theorem reps_append {es xs : List PV} {sz : Nat} {c1 c2 : List Value} (hl : c1.length = es.length * sz) (h1 : ∀ i j, i < es.length → j < sz → Rep S (c1.getD (i * sz + j) undef) ((es.getD i .any).cells.getD j .any))
    (h2 : ∀ i j, i < xs.length → j < sz → Rep S (c2.getD (i * sz + j) undef) ((xs.getD i .any).cells.getD j .any)) :
    ∀ i j, i < (es ++ xs).length → j < sz → Rep S ((c1 ++ c2).getD (i * sz + j) undef) (((es ++ xs).getD i .any).cells.getD j .any) := by
  intro i j hi hj
  by_cases hlt : i < es.length
  · have hb : i * sz + j < c1.length := by
      have := Nat.mul_le_mul_right sz (show i + 1 ≤ es.length by omega)
      rw [Nat.add_mul] at this
      omega
    rw [getD_append_left hb, getD_append_left hlt]
    exact h1 i j hlt hj
  · have hb : c1.length ≤ i * sz + j := by
      have := Nat.mul_le_mul_right sz (show es.length ≤ i by omega)
      omega
    rw [getD_append_right hb, getD_append_right (by omega)]
    have e : i * sz + j - c1.length = (i - es.length) * sz + j := by
      rw [hl, Nat.sub_mul]
      have := Nat.mul_le_mul_right sz (show es.length ≤ i by omega)
      omega
    rw [e]
    exact h2 _ _ (by simp at hi; omega) hj

theorem Sized.append {n : Nat} {a b : List PV} (ha : Sized n a) (hb : Sized n b) : Sized n (a ++ b) := fun e he => (List.mem_append.1 he).elim (ha e) (hb e)

end
end Go.PL

namespace Go.PL
open Go.RowKit
set_option linter.unusedVariables false

/-- there is room for so many elements of so many bytes -/
def Room (n bytes : Nat) : Prop := n * bytes ≤ 140737488355328 ∧ n ≤ maxLen

theorem upd_upd {α : Type} (f : Nat → α) (i : Nat) (u v : α) : upd (upd f i u) i v = upd f i v := by
  funext j; by_cases e : i = j <;> simp [upd, e]

section
variable {P : Program} {B : Frm} {S : Stable} {M : Maps} {s : St} {a : Act} {w : World}

theorem Sim.world (hs : Sim B S M s a w) {w' : World} (h : w'.heap = w.heap) : Sim B S M s a w' := by
  have hc : ∀ x, w'.cell? x = w.cell? x := fun x => by simp [World.cell?, h]
  exact hs.grow (SLe.refl S) (fun _ _ => ⟨fun _ => rfl, rfl⟩) (hs.stable.s.old (fun k hk => by rw [h])) (fun k hk => by rw [h]) (by rw [h]; exact Nat.le_refl _)

/-- a nil row -/
theorem Sim.nilRow (hs : Sim B S M s a w) {d sz : Nat} {e : TypeId} (hd : s.m.q d = none) : Sim B S { M with κ := upd M.κ d 0 } (s.with (s.m.setq d (.live 0 sz e))) a w := by
  have e2 : ∀ i, i ≠ d → upd M.κ d 0 i = M.κ i := fun i h => upd_ne _ _ (Ne.symm h)
  have e3 : ∀ i, i ≠ d → upd s.m.q d (some (.live 0 sz e)) i = s.m.q i := fun i h => upd_ne _ _ (Ne.symm h)
  have rep : ∀ {v p}, RepS S M s.m.q v p → (∀ i ∈ p.ids, Live s.m i) → RepS S { M with κ := upd M.κ d 0 } (upd s.m.q d (some (.live 0 sz e))) v p := fun r hids =>
    r.heap (SLe.refl _) (fun _ _ => rfl) (fun i hi n' sz' e' hq => by
      by_cases ei : i = d
      · subst ei; exact absurd hd (hids _ hi)
      · rw [e3 i ei] at hq; exact .inl ⟨hq, e2 i ei, rfl⟩)
  have live : ∀ i, Live s.m i → Live (s.m.setq d (.live 0 sz e)) i := fun i h => by
    cases i with
    | b i => exact h
    | r i =>
      show upd _ _ _ _ ≠ none
      by_cases ei : i = d
      · subst ei; rw [upd_same]; simp
      · rw [e3 i ei]; exact h
  refine ⟨hs.defers, hs.hn, hs.hB, hs.stable, fun i => rep (hs.fr i) (hs.ids i), fun i j hj => live j (hs.ids i j hj), fun i b hb => ?_, fun i r hr => ?_, hs.inj, ?_, ?_⟩
  · have hb' := hs.blk i b hb
    show BlkOk _ _ _ _ _ _ _ (s.m.z i)
    cases hz : s.m.z i with
    | false =>
      rw [hz] at hb'
      obtain ⟨h1, h2, ⟨us, t', h3, h4, h5⟩, h6⟩ := hb'
      exact ⟨h1, h2, ⟨us, t', h3, h4, fun j hj => rep (h5 j hj) (fun k hk => h6 _ (getD_mem hj) k hk)⟩, fun c hc k hk => live k (h6 c hc k hk)⟩
    | true => rw [hz] at hb'; exact hb'
  · simp only [St.with, Hp.setq] at hr
    by_cases ei : i = d
    · subst ei
      rw [upd_same] at hr
      cases hr
      exact ⟨fun _ => rfl, fun c hc => by simp [upd_same] at hc⟩
    · rw [e3 i ei] at hr
      have := hs.row i r hr
      cases r with
      | live n' z' t' => simpa only [RowOk, e2 i ei] using this
      | dead => trivial
  · intro i j n1 z1 t1 n2 z2 t2 hi hj ki kj hij
    simp only [St.with, Hp.setq] at hi hj ki kj ⊢
    by_cases ei : i = d
    · subst ei; rw [upd_same] at ki; omega
    · by_cases ej : j = d
      · subst ej; rw [upd_same] at kj; omega
      · rw [e3 i ei] at hi; rw [e3 j ej] at hj; rw [e2 i ei] at ki; rw [e2 j ej] at kj
        exact hs.injq i j _ _ _ _ _ _ hi hj ki kj hij
  · intro i j ds n1 z1 t1 hi zi hj kj
    simp only [St.with, Hp.setq] at hi zi hj kj ⊢
    by_cases ej : j = d
    · subst ej; rw [upd_same] at kj; omega
    · rw [e3 j ej] at hj; rw [e2 j ej] at kj
      exact hs.injx i j _ _ _ _ hi zi hj kj

/-- what an append onto the row d comes to -/
def AppTo (P : Program) (B : Frm) (S : Stable) (s : St) (a : Act) (w : World) (m : Sem Value) (d n sz : Nat) (e : TypeId) (es : List PV) : Prop :=
  ∃ v w' S' M', m.run P w = .ok v w' ∧ Sim B S' M' (s.with (s.m.setq d (.live n sz e))) a w' ∧ Rep S' v (.sl .no es) ∧ es.length = n ∧
    (M'.κ d = 0 → v = .slice none 0 0) ∧ (∀ c, M'.κ d = c + 1 → v = .slice (some ⟨M'.ψ d, 0, none⟩) n c) ∧ Ext B S S' w w'

/-- an append that makes a new row -/
theorem append_new (hs : Sim B S M s a w) {d n : Nat} {t tx ty : TypeId} {x : EInfo} (hx : telem P t = some x) {base : Option Addr} {sLen sCap : Nat} {es ys : List PV} {olds news : List Value} {y : Value}
    (hd : s.m.q d = none ∨ ∃ n0 sz0 e0, s.m.q d = some (.live n0 sz0 e0) ∧ n0 < sLen + ys.length) (hold : (Builtin.firstCells x.size sLen (.slice base sLen sCap)).run P w.drew = .ok olds.toArray w.drew)
    (hle : es.length = sLen) (ho : olds.length = sLen * x.size) (hro : ∀ i j, i < es.length → j < x.size → Rep S (olds.getD (i * x.size + j) undef) ((es.getD i .any).cells.getD j .any))
    (hsrc : Src P x.size tx y ys.length news w) (hrn : ∀ i j, i < ys.length → j < x.size → Rep S (news.getD (i * x.size + j) undef) ((ys.getD i .any).cells.getD j .any))
    (hz1 : Sized x.size es) (hz2 : Sized x.size ys) (hg : sCap < sLen + ys.length) (hroom : Room (sLen + ys.length) x.bytes) :
    AppTo P B S s a w (Builtin.append_ #[t, tx] ty #[.slice base sLen sCap, y]) d (sLen + ys.length) x.size x.e (es ++ ys) := by
  obtain ⟨i, z, h1, h2, h3, h4, h5, h6, h7, h8⟩ := telem_spec hx
  obtain ⟨r1, r2⟩ := hroom
  have h63 : ((sLen + ys.length : Nat) : Int) ≤ 9223372036854775807 := by simp only [maxLen] at r2; omega
  have hrun := run_append_grow_src (P := P) w t tx ty x.e i z h1 h2 h3 base sLen sCap olds (by rw [h5]; exact hold) y ys.length news (by rw [h5]; exact hsrc) hg h63
    (by rw [h6]; exact growslice_fits hg r1)
  have hge := grownCap_ge w (sLen + ys.length) sCap x.e
  have hcm := grownCap_le_maxLen w (sLen + ys.length) sCap x.e r2
  generalize hcap : grownCap w (sLen + ys.length) sCap x.e = cap at *
  have hlen : (olds ++ news).length = (sLen + ys.length) * x.size := by rw [List.length_append, ho, hsrc.newsLen, Nat.add_mul]
  let vs : List Value := olds ++ news ++ (Builtin.zeroCells z.cells (cap - (sLen + ys.length))).toList
  have hvl : vs.length = cap * x.size := by
    show (olds ++ news ++ _).length = _
    have hzl : (Builtin.zeroCells z.cells (cap - (sLen + ys.length))).toList.length = (cap - (sLen + ys.length)) * x.size := by
      rw [Array.length_toList, size_zeroCells, h4]
    rw [List.length_append, hlen, hzl, ← Nat.add_mul]
    congr 1
    omega
  have harr : (olds ++ news).toArray ++ Builtin.zeroCells z.cells (cap - (sLen + ys.length)) = ⟨vs⟩ := by
    apply Array.ext'
    simp [vs]
  rw [harr] at hrun
  have hsim := hs.newRow (w' := w.drew.alloc (.cells ⟨vs⟩ x.e)) hd hge hcm hvl (fun k hk => alloc_heap_old w.drew _ hk) (alloc_heap_new w.drew _)
  have hle' : SLe S (addS S w.heap.size ((sLen + ys.length) * x.size) vs) := .cells rfl fun b o v hv => by
    rw [addS_c]
    rw [if_neg]
    · exact hv
    · rintro ⟨rfl, _⟩; rw [hs.S_lt (Nat.le_refl _)] at hv; cases hv
  refine ⟨_, _, _, _, hrun, hsim, ?_, by simp [hle], ?_, ?_, hle', ?_, ?_⟩
  · have := rep_of_cells (S := addS S w.heap.size ((sLen + ys.length) * x.size) vs) (b := w.heap.size) (cap := cap) (es := es ++ ys) (sz := x.size) (hz1.append hz2) (by simp; omega) (cells := olds ++ news)
      (fun k hk => by
        have hk' : k < (olds ++ news).length := by rw [hlen]; simpa [hle] using hk
        rw [addS_c, if_pos ⟨rfl, by rw [← hlen]; exact hk'⟩]
        show some ((olds ++ news ++ _).getD k undef) = _
        rw [getD_append_left hk'])
      (fun i j hi hj => (reps_append (by rw [ho, hle]) hro hrn i j hi hj).mono hle')
    simpa [hle] using this
  · intro h0; simp [upd_same] at h0
  · intro c hc
    simp only [upd_same, Nat.add_right_cancel_iff] at hc ⊢
    rw [hc]
  · intro b hb
    refine ⟨fun o => ?_, rfl⟩
    rw [addS_c, if_neg]
    rintro ⟨rfl, _⟩
    exact hs.new_ok hb
  · exact ((BelowF.refl B w).drew).alloc hs.hB _

theorem append_room (hs : Sim B S M s a w) {d n c : Nat} {t tx ty : TypeId} {x : EInfo} (hx : telem P t = some x) {es ys : List PV} {news : List Value} {y : Value}
    (hd : s.m.q d = some (.live n x.size x.e)) (hk : M.κ d = c + 1) (hn : es.length = n) (hre : Rep S (.slice (some ⟨M.ψ d, 0, none⟩) n c) (.sl .no es))
    (hsrc : Src P x.size tx y ys.length news w) (hrn : ∀ i j, i < ys.length → j < x.size → Rep S (news.getD (i * x.size + j) undef) ((ys.getD i .any).cells.getD j .any))
    (hz1 : Sized x.size es) (hz2 : Sized x.size ys) (hg : n + ys.length ≤ c) :
    AppTo P B S s a w (Builtin.append_ #[t, tx] ty #[.slice (some ⟨M.ψ d, 0, none⟩) n c, y]) d (n + ys.length) x.size x.e (es ++ ys) := by
  obtain ⟨i, z, h1, h2, h3, h4, h5, h6, h7, h8⟩ := telem_spec hx
  subst hn
  obtain ⟨vs, g1, g2, g3, g3', g4⟩ := hs.growRow (m := ys.length) (news := news) hd hk hg hsrc.newsLen
  simp only at g4
  have hmul : (es.length + ys.length) * x.size ≤ c * x.size := Nat.mul_le_mul_right _ hg
  have hsum : (es.length + ys.length) * x.size = es.length * x.size + news.length := by rw [Nat.add_mul, hsrc.newsLen]
  have hst := run_storeCells_at (P := P) (M.ψ d) (es.length * x.size) x.e news 0 ⟨vs⟩ w g1 (by simp; omega) hsrc.one
  simp only [Nat.add_zero] at hst
  have hrun : (Builtin.append_ #[t, tx] ty #[.slice (some ⟨M.ψ d, 0, none⟩) es.length c, y]).run P w = .ok (.slice (some ⟨M.ψ d, 0, none⟩) (es.length + ys.length) c) (w.setRow (M.ψ d) ⟨vs.take (es.length * x.size) ++ news ++ vs.drop (es.length * x.size + news.length)⟩) := by
    have e5 : (sizeOf x.e).run P w = .ok x.size w := by rw [run_szo h2, h8]
    rcases hsrc.kind with ⟨e', hk'⟩ | hk' <;> simp [Builtin.append_, run_underlying h1, run_underlying hk', e5, hsrc.len, hg, hsrc.cells, Addr.add_lit, hst]
  obtain ⟨cells, hcl, hcS, hcR⟩ := hre.cells_of rfl hz1
  have hle : SLe S (addR S (M.ψ d) (es.length * x.size) ((es.length + ys.length) * x.size) (vs.take (es.length * x.size) ++ news ++ vs.drop (es.length * x.size + news.length))) := .cells rfl fun b o v hv => by
    show (if _ then _ else _) = some v
    rw [if_neg]
    · exact hv
    · rintro ⟨rfl, h1, _⟩
      rw [g3' o h1] at hv
      cases hv
  refine ⟨_, _, _, _, hrun, g4, ?_, by simp, ?_, ?_, hle, ?_, below_setRow g3⟩
  · have := rep_of_cells (b := M.ψ d) (cap := c) (es := es ++ ys) (sz := x.size) (S := addR S (M.ψ d) (es.length * x.size) ((es.length + ys.length) * x.size) (vs.take (es.length * x.size) ++ news ++ vs.drop (es.length * x.size + news.length))) (hz1.append hz2) (by simp; omega) (cells := cells ++ news)
      (fun k hk => by
        simp only [List.length_append] at hk
        show (if _ then _ else _) = _
        by_cases hlt : k < es.length * x.size
        · rw [if_neg (by omega), hcS k hlt, getD_append_left (by omega)]
        · rw [if_pos ⟨rfl, by omega, hk⟩, getD_append_right (l := cells) (by omega), getD_append_left (by simp; omega), getD_append_right (by simp; omega)]
          congr 2
          simp
          omega)
      (fun i j hi hj => (reps_append hcl hcR hrn i j hi hj).mono hle)
    simpa using this
  · intro h0; omega
  · intro c' hc'
    obtain rfl : c' = c := by omega
    rfl
  · intro b hb
    refine ⟨fun o => ?_, rfl⟩
    show (if _ then _ else _) = _
    rw [if_neg]
    rintro ⟨rfl, _⟩
    exact g3 hb

/-- what is appended, as a list -/
def appended (P : Program) (tx : TypeId) (y : PV) : Option (List PV) :=
  match tix P tx, y with
  | .slc _ _, .sl _ ys => some ys
  | .str, .str l => some (bytesPV l)
  | _, _ => none

def aAppend (P : Program) (d : Nat) (t tx : TypeId) (x y : PV) (m : Hp) : ARes :=
  match telem P t, appended P tx y, x with
  | some ei, some ys, .sl .nil _ => ⟨m.q d = none ∧ Sized ei.size ys ∧ Atoms ys ∧ Room ys.length ei.bytes, .sl (.row d) ys, m.setq d (.live ys.length ei.size ei.e)⟩
  | some ei, some ys, .sl (.row id) es => match m.q id with
    | some (.live n sz e) => ⟨n = es.length ∧ sz = ei.size ∧ e = ei.e ∧ (d = id ∨ m.q d = none) ∧ Sized ei.size es ∧ Sized ei.size ys ∧ Atoms ys ∧ Room (es.length + ys.length) ei.bytes,
        .sl (.row d) (es ++ ys), if d = id then m.setq d (.live (es.length + ys.length) ei.size ei.e) else (m.setq id .dead).setq d (.live (es.length + ys.length) ei.size ei.e)⟩
    | _ => .fail
  | _, _, _ => .fail

theorem run_append_nothing' {t tx ty : TypeId} {x : EInfo} (hx : telem P t = some x) {base : Option Addr} {sLen sCap : Nat} (hle : sLen ≤ sCap) {y : Value} {news : List Value} (hs : Src P x.size tx y 0 news w) :
    (Builtin.append_ #[t, tx] ty #[.slice base sLen sCap, y]).run P w = .ok (.slice base sLen sCap) w := by
  obtain ⟨i, z, h1, h2, h3, h4, h5, h6, h7, h8⟩ := telem_spec hx
  have hn : news = [] := List.eq_nil_of_length_eq_zero (by simpa using hs.newsLen)
  subst hn
  exact run_append_nothing w t tx ty x.e i h1 h2 base sLen sCap hle y (by rw [h5]; exact hs)

theorem sound_append (hs : Sim B S M s a w) {d : Nat} {t tx ty : TypeId} {u v : Value} {p y : PV} (hu : RepS S M s.m.q u p) (hui : ∀ i ∈ p.ids, Live s.m i) (hv : RepS S M s.m.q v y)
    (hok : (aAppend P d t tx p y s.m).ok) : Snd P B S s a w (Builtin.append_ #[t, tx] ty #[u, v]) (aAppend P d t tx p y s.m) := by
  have src : ∀ {ei : EInfo} {ys : List PV}, appended P tx y = some ys → Sized ei.size ys → Atoms ys → 0 < ei.size → ∃ news : List Value, Src P ei.size tx v ys.length news w ∧ ∀ i j, i < ys.length → j < ei.size → Rep S (news.getD (i * ei.size + j) undef) ((ys.getD i .any).cells.getD j .any) := by
    intro ei ys hy hz hat hpos
    unfold appended at hy
    split at hy
    · rename_i es2 ea tk ys' heq
      cases hy
      obtain ⟨e, d', ti, h1, _⟩ := tix_slc heq
      exact hv.sl_inv.src hs.stable hz hat h1
    · rename_i l heq
      cases hy
      have h1 := tix_str heq
      rw [hv.str_inv]
      by_cases h0 : l = []
      · subst h0
        refine ⟨[], ?_, fun i j hi => by simp [bytesPV] at hi⟩
        refine ⟨.inr h1, fun _ => rfl, ?_, ?_, by simp [bytesPV], fun _ h => by cases h⟩
        · simp [Builtin.firstCells, bytesPV]
        · simp [Builtin.firstCells, bytesPV]
      · have e1 : ei.size = 1 := by
          obtain ⟨c, l', rfl⟩ := List.exists_cons_of_ne_nil h0
          exact (hz (.int .u8 c.toNat) (by simp [bytesPV])).symm
        rw [e1]
        exact src_string h1 l
    · cases hy
  -- the row keeps its name, or goes under another one
  have close : ∀ {n sz : Nat} {e : TypeId} {es : List PV} {id : Nat} {ok : Prop} {m : Sem Value}, AppTo P B S s a w m id n sz e es → (d = id ∨ (s.m.q d = none ∧ s.m.q id ≠ none)) →
      Snd P B S s a w m ⟨ok, .sl (.row d) es, if d = id then s.m.setq d (.live n sz e) else (s.m.setq id .dead).setq d (.live n sz e)⟩ := by
    intro n sz e es id ok m hap hdi
    obtain ⟨v', w', S', M', h1, h2, h3, h4, h5, h6, h7⟩ := hap
    by_cases hd : d = id
    · subst hd
      refine ⟨v', w', S', M', h1, ?_, ?_, ?_, h7⟩
      · simp only [if_true]; exact h2
      · simp only [if_true]
        refine .row d v' es h3 fun n' sz' e' hq => ?_
        simp only [Hp.setq, upd_same] at hq
        cases hq
        exact ⟨by omega, fun _ => ⟨h5, h6⟩⟩
      · intro i hi
        simp only [PV.ids, List.mem_singleton] at hi
        subst hi
        simp [Live, Hp.setq, upd_same]
    · rcases hdi with hdi | ⟨hdn, hin⟩
      · exact absurd hdi hd
      · have hq1 : (s.with (s.m.setq id (.live n sz e))).m.q id = some (.live n sz e) := upd_same _ _ _
        have hq2 : (s.with (s.m.setq id (.live n sz e))).m.q d = none := by
          show upd s.m.q id _ d = none
          rw [upd_ne _ _ (Ne.symm hd)]; exact hdn
        have h2' := h2.moveRow hq1 hq2
        simp only [St.with, Hp.setq, upd_upd] at h2'
        refine ⟨v', w', S', { M' with ψ := upd M'.ψ d (M'.ψ id), κ := upd M'.κ d (M'.κ id) }, h1, ?_, ?_, ?_, h7⟩
        · simp only [if_neg hd]; exact h2'
        · simp only [if_neg hd]
          refine .row d v' es h3 fun n' sz' e' hq => ?_
          simp only [Hp.setq, upd_same] at hq
          cases hq
          refine ⟨by omega, fun _ => ?_⟩
          simp only [upd_same]
          exact ⟨h5, h6⟩
        · intro i hi
          simp only [PV.ids, List.mem_singleton] at hi
          subst hi
          simp [Live, Hp.setq, upd_same, if_neg hd]
  revert hok
  unfold aAppend
  split
  · rename_i ei ys es hx hy
    rintro ⟨g1, g2, g3, g4⟩
    obtain ⟨i, z, h1, h2, h3, h4, h5, h6, h7, h8⟩ := telem_spec hx
    obtain ⟨news, hsrc, hrn⟩ := src hy g2 g3 h7
    rw [hu.slnil_inv]
    have base : ∀ (w : World), (Builtin.firstCells ei.size 0 (.slice none 0 0)).run P w = .ok ([] : List Value).toArray w := fun w => by simp [Builtin.firstCells]
    by_cases hm : ys.length = 0
    · have e0 : ys = [] := List.eq_nil_of_length_eq_zero hm
      subst e0
      have hrun := run_append_nothing' (ty := ty) hx (base := none) (Nat.le_refl 0) hsrc
      refine ⟨_, w, S, { M with κ := upd M.κ d 0 }, hrun, hs.nilRow g1, ?_, ?_, Ext.refl _ _ _⟩
      · refine .row d _ [] (.sl0 none 0) fun n' sz' e' hq => ?_
        simp only [Hp.setq, upd_same] at hq
        cases hq
        exact ⟨Nat.le_refl _, fun _ => ⟨fun _ => rfl, fun c hc => by simp [upd_same] at hc⟩⟩
      · intro i hi
        simp only [PV.ids, List.mem_singleton] at hi
        subst hi
        simp [Live, Hp.setq, upd_same]
    · have hap := append_new (n := 0) hs (d := d) (ty := ty) hx (.inl g1) (es := []) (olds := []) (base w.drew) rfl (by simp) (fun i j hi => by simp at hi) hsrc hrn (fun _ h => by cases h) g2 (by omega) (by simpa using g4)
      simp only [Nat.zero_add, List.nil_append] at hap
      have := close (ok := s.m.q d = none ∧ Sized ei.size ys ∧ Atoms ys ∧ Room ys.length ei.bytes) hap (.inl rfl)
      simpa using this
  · rename_i ei ys id es hx hy
    split
    · rename_i n sz e hq
      rintro ⟨g0, g1, g2, g3, g4, g5, g6, g7⟩
      subst g0
      subst g1
      subst g2
      obtain ⟨i, z, h1, h2, h3, h4, h5, h6, h7, h8⟩ := telem_spec hx
      obtain ⟨news, hsrc, hrn⟩ := src hy g5 g6 h7
      have hdi : d = id ∨ (s.m.q d = none ∧ s.m.q id ≠ none) := g3.imp (fun h => h) (fun h => ⟨h, by rw [hq]; simp⟩)
      refine close ?_ hdi
      have hrow : Rep S u (.sl .no es) ∧ (M.κ id = 0 → u = .slice none 0 0) ∧ (∀ c, M.κ id = c + 1 → u = .slice (some ⟨M.ψ id, 0, none⟩) es.length c) := by
        cases hu with
        | clean r => cases r
        | row id v es r t => obtain ⟨_, t2⟩ := t _ _ _ hq; exact ⟨r, t2 rfl⟩
      obtain ⟨hre, k0, k1⟩ := hrow
      obtain ⟨r0, r1⟩ := hs.row id _ hq
      have self : s.m.setq id (.live es.length ei.size ei.e) = s.m := by
        have : upd s.m.q id (some (.live es.length ei.size ei.e)) = s.m.q := by
          funext k; by_cases e : id = k
          · subst e; simp [upd, hq]
          · simp [upd, e]
        unfold Hp.setq
        rw [this]
      cases hk : M.κ id with
      | zero =>
        have hu0 := k0 hk
        have he0 : es = [] := List.eq_nil_of_length_eq_zero (r0 hk)
        subst he0
        subst hu0
        by_cases hm : ys.length = 0
        · have e0 : ys = [] := List.eq_nil_of_length_eq_zero hm
          subst e0
          have hrun := run_append_nothing' (ty := ty) hx (base := none) (Nat.le_refl 0) hsrc
          refine ⟨_, w, S, M, hrun, ?_, .sl0 none 0, rfl, fun _ => rfl, fun c hc => (by rw [hk] at hc; cases hc), Ext.refl _ _ _⟩
          simp only [List.length_nil, Nat.add_zero] at self ⊢
          rw [self]
          exact hs
        · have base : ∀ (w : World), (Builtin.firstCells ei.size 0 (.slice none 0 0)).run P w = .ok ([] : List Value).toArray w := fun w => by simp [Builtin.firstCells]
          exact append_new (n := 0) hs (d := id) (ty := ty) hx (.inr ⟨_, _, _, hq, by simp; omega⟩) (es := []) (olds := []) (base w.drew) rfl (by simp) (fun i j hi => by simp at hi) hsrc hrn (fun _ h => by cases h) g5 (by omega) (by simpa using g7)
      | succ c =>
        have hu0 := k1 c hk
        subst hu0
        obtain ⟨q1, q2, q3, ⟨vs, q4, q5⟩, q6⟩ := r1 c hk
        by_cases hroom : es.length + ys.length ≤ c
        · exact append_room hs hx hq hk rfl hre hsrc hrn g4 g5 hroom
        · obtain ⟨cells, hcl, hcS, hcR⟩ := hre.cells_of rfl g4
          refine append_new (n := 0) hs (d := id) (ty := ty) hx (.inr ⟨_, _, _, hq, by omega⟩) (es := es) (olds := cells) ?_ rfl hcl hcR hsrc hrn g4 g5 (by omega) g7
          refine run_firstCells_some w.drew ei.size es.length ⟨M.ψ id, 0, none⟩ es.length c cells hcl (fun j u hj => ?_)
          obtain ⟨hj1, hj2⟩ := List.getElem?_eq_some_iff.1 hj
          have := hs.stable _ _ _ (hcS j (by omega))
          rw [getD_lt hj1, hj2] at this
          rw [add_none, Nat.zero_add]
          exact this
    · exact fun hok => hok.elim
  · exact fun hok => hok.elim

end
end Go.PL

namespace Go.PL
open Go.RowKit
set_option linter.unusedVariables false

def aUn (op : UnOp) (x : PV) (m : Hp) : ARes :=
  match op, x with
  | .not, .bool b => ⟨True, .bool (!b), m⟩
  | .neg, .int k n => ⟨True, .int k (k.wrap (0 - n)), m⟩
  | .neg, .flt k b => ⟨True, .flt k (Op.negFloat k b), m⟩
  | _, _ => .fail

inductive CvK where
  | int (k : IntKind) | same | bytes | none | flt (k : FloatKind)
/-- which conversions are known -/
def tcv (P : Program) (src dst : TypeId) : CvK :=
  match P.underlying src, P.underlying dst with
  | some _, some (.int k) => .int k
  | some _, some (.float k) => .flt k
  | some .string, some .string => .same
  | some (.slice e), some .string => match P.underlying e with | some (.int .u8) => .bytes | _ => .none
  | _, _ => .none
/-- the bytes that elements are -/
def bytesOf : List PV → Option (List UInt8)
  | [] => some []
  | .int .u8 n :: r => if 0 ≤ n ∧ n < 256 then (match bytesOf r with | some l => some (UInt8.ofNat n.toNat :: l) | none => none) else none
  | _ :: _ => none

def aConv (P : Program) (src dst : TypeId) (x : PV) (m : Hp) : ARes :=
  match tcv P src dst, x with
  | .int k, .int _ n => ⟨True, .int k (k.wrap n), m⟩
  | .flt k, .int _ n => ⟨True, .flt k (k.nearest n), m⟩
  | .int k, .flt s b => match (s.decode b).toInt .zero with
    | some n => ⟨k.min ≤ n ∧ n ≤ k.max, .int k n, m⟩
    | none => .fail
  | .same, .str l => ⟨True, .str l, m⟩
  | .bytes, .sl _ es => match bytesOf es with
    | some l => ⟨True, .str l, m⟩
    | none => .fail
  | .bytes, .osl id off len _ => match m.h id with
    | some cs => match bytesOf ((cs.drop off).take len) with
      | some l => ⟨off + len ≤ cs.length, .str l, m⟩
      | none => .fail
    | none => .fail
  | _, _ => .fail

def aExtract (x : PV) (i : Nat) (m : Hp) : ARes :=
  match x with
  | .tup vs => ⟨i < vs.length, vs.getD i .any, m⟩
  | _ => .fail

def aPick (c x y : PV) (m : Hp) : ARes :=
  match c with
  | .bool true => ⟨True, x, m⟩
  | .bool false => ⟨True, y, m⟩
  | _ => .fail

def aNilCheck (x : PV) (m : Hp) : ARes :=
  match x with
  | .ptr id o => ⟨True, .ptr id o, m⟩
  | .rptr cs => ⟨True, .rptr cs, m⟩
  | .fn f cs => ⟨True, .fn f cs, m⟩
  | _ => .fail

inductive LenK where
  | arr (n : Nat) | slc | str | none
def tlen (P : Program) (t : TypeId) : LenK :=
  match P.underlying t with
  | some (.array n _) => .arr n
  | some (.slice _) => .slc
  | some .string => .str
  | some (.pointer e) => match P.underlying e with | some (.array n _) => .arr n | _ => .none
  | _ => .none

def aLen (P : Program) (t : TypeId) (x : PV) (m : Hp) : ARes :=
  match tlen P t, x with
  | .arr n, _ => ⟨True, .int .i64 n, m⟩
  | .slc, .sl _ es => ⟨True, .int .i64 es.length, m⟩
  | .slc, .osl _ _ n _ => ⟨True, .int .i64 n, m⟩
  | .str, .str l => ⟨True, .int .i64 l.length, m⟩
  | _, _ => .fail

def aMax (x y : PV) (m : Hp) : ARes :=
  match x, y with
  | .int k a, .int k' b => ⟨k = k', .int k (max a b), m⟩
  | _, _ => .fail
def aMin (x y : PV) (m : Hp) : ARes :=
  match x, y with
  | .int k a, .int k' b => ⟨k = k', .int k (min a b), m⟩
  | _, _ => .fail

def aCpx (x y : PV) (m : Hp) : ARes :=
  match x, y with
  | .flt k a, .flt k' b => ⟨k = k', .cpx k a b, m⟩
  | _, _ => .fail
def aReal (x : PV) (m : Hp) : ARes :=
  match x with
  | .cpx k a _ => ⟨True, .flt k a, m⟩
  | _ => .fail
def aImag (x : PV) (m : Hp) : ARes :=
  match x with
  | .cpx k _ b => ⟨True, .flt k b, m⟩
  | _ => .fail

section
variable {P : Program} {B : Frm} {S : Stable} {M : Maps} {s : St} {a : Act} {w : World}

theorem Snd.clean (hs : Sim B S M s a w) {m : Sem Value} {ok : Prop} {p : PV} {v : Value} (hm : m.run P w = .ok v w) (hr : Rep S v p) : Snd P B S s a w m ⟨ok, p, s.m⟩ :=
  Snd.pure hs hm (.clean hr) (fun i hi => absurd hi (hr.clean_ids i))

theorem sound_cpx (hs : Sim B S M s a w) {ts : Array TypeId} {ty : TypeId} {u v : Value} {p q : PV} (hu : RepS S M s.m.q u p) (hv : RepS S M s.m.q v q) (hok : (aCpx p q s.m).ok) : Snd P B S s a w (Builtin.complex_ ts ty #[u, v]) (aCpx p q s.m) := by
  revert hok
  unfold aCpx
  split
  · intro hok
    have e := hok
    simp only at e
    subst e
    rw [hu.flt_inv, hv.flt_inv]
    exact Snd.clean hs (by show (if _ then _ else _ : Sem Value).run P w = _; rw [if_pos rfl]; rfl) (.cpx _ _ _)
  · exact fun hok => hok.elim
theorem sound_real (hs : Sim B S M s a w) {ts : Array TypeId} {ty : TypeId} {u : Value} {p : PV} (hu : RepS S M s.m.q u p) (hok : (aReal p s.m).ok) : Snd P B S s a w (Builtin.real_ ts ty #[u]) (aReal p s.m) := by
  revert hok
  unfold aReal
  split
  · intro _
    rw [hu.cpx_inv]
    exact Snd.clean hs (by rfl) (.flt _ _)
  · exact fun hok => hok.elim
theorem sound_imag (hs : Sim B S M s a w) {ts : Array TypeId} {ty : TypeId} {u : Value} {p : PV} (hu : RepS S M s.m.q u p) (hok : (aImag p s.m).ok) : Snd P B S s a w (Builtin.imag_ ts ty #[u]) (aImag p s.m) := by
  revert hok
  unfold aImag
  split
  · intro _
    rw [hu.cpx_inv]
    exact Snd.clean hs (by rfl) (.flt _ _)
  · exact fun hok => hok.elim
theorem sound_un (hs : Sim B S M s a w) {op : UnOp} {u : Value} {p : PV} (hu : RepS S M s.m.q u p) (hok : (aUn op p s.m).ok) : Snd P B S s a w (Op.unary op u) (aUn op p s.m) := by
  revert hok
  unfold aUn
  split
  · intro _
    rw [hu.bool_inv]
    exact Snd.clean hs (by simp [Op.unary]) (.bool _)
  · intro _
    rw [hu.int_inv]
    exact Snd.clean hs (by simp [Op.unary, Op.intArith]) (.int _ _)
  · intro _
    rw [hu.flt_inv]
    exact Snd.clean hs (by simp [Op.unary]) (.flt _ _)
  · exact fun hok => hok.elim

theorem bytesOf_at : ∀ {es : List PV} {l : List UInt8}, bytesOf es = some l → l.length = es.length ∧ ∀ j (hj : j < l.length), es.getD j .any = .int .u8 (l[j].toNat : Int)
  | [], l, h => by
    simp only [bytesOf, Option.some.injEq] at h
    subst h
    exact ⟨rfl, fun j hj => by simp at hj⟩
  | e :: es, l, h => by
    unfold bytesOf at h
    split at h
    · rename_i he; cases he
    · rename_i n r he
      cases he
      split at h
      · rename_i hn
        split at h
        · rename_i l' hl'
          cases h
          obtain ⟨h1, h2⟩ := bytesOf_at hl'
          refine ⟨by simp [h1], fun j hj => ?_⟩
          cases j with
          | zero =>
            simp only [List.getD_cons_zero, List.getElem_cons_zero]
            congr 1
            rw [UInt8.toNat_ofNat']
            omega
          | succ j => simpa using h2 j (by simpa using hj)
        · cases h
      · cases h
    · cases h
theorem sound_conv (hs : Sim B S M s a w) {src dst : TypeId} {u : Value} {p : PV} (hu : RepS S M s.m.q u p) (hok : (aConv P src dst p s.m).ok) : Snd P B S s a w (convert src dst u) (aConv P src dst p s.m) := by
  revert hok
  unfold aConv
  split
  · rename_i k k' n heq
    intro _
    rw [hu.int_inv]
    unfold tcv at heq
    split at heq
    · rename_i d k0 h1 h2
      cases heq
      exact Snd.clean hs (by simp [convert, run_und h1, run_und h2, Conv.intToInt]) (.int _ _)
    · cases heq
    · cases heq
    · split at heq <;> cases heq
    · cases heq
  · rename_i k k' n heq
    intro _
    rw [hu.int_inv]
    unfold tcv at heq
    split at heq
    · cases heq
    · rename_i d k0 _ h1 h2
      cases heq
      exact Snd.clean hs (by simp [convert, run_und h1, run_und h2, Conv.intToFloat]) (.flt _ _)
    · cases heq
    · split at heq <;> cases heq
    · cases heq
  · rename_i k k' b heq
    split
    · rename_i n hn
      rintro ⟨g1, g2⟩
      rw [hu.flt_inv]
      unfold tcv at heq
      split at heq
      · rename_i d k0 h1 h2
        cases heq
        exact Snd.clean hs (by simp [convert, run_und h1, run_und h2, Conv.floatToInt, hn, g1, g2]) (.int _ _)
      · cases heq
      · cases heq
      · split at heq <;> cases heq
      · cases heq
    · exact fun hok => hok.elim
  · rename_i l heq
    intro _
    rw [hu.str_inv]
    unfold tcv at heq
    split at heq
    · cases heq
    · cases heq
    · rename_i h1 h2
      exact Snd.clean hs (by simp [convert, run_und h1, run_und h2]) (.str _)
    · split at heq <;> cases heq
    · cases heq
  · rename_i t es heq
    split
    · rename_i l hl
      intro _
      obtain ⟨b1, b2⟩ := bytesOf_at hl
      have hr := hu.sl_inv
      have ty : ∃ e, P.underlying src = some (.slice e) ∧ P.underlying e = some (.int .u8) ∧ P.underlying dst = some .string := by
        unfold tcv at heq
        split at heq
        · cases heq
        · cases heq
        · cases heq
        · rename_i e h1 h2
          split at heq
          · rename_i h3; exact ⟨e, h1, h3, h2⟩
          · cases heq
        · cases heq
      obtain ⟨e, t1, t2, t3⟩ := ty
      cases hr with
      | sl0 a0 cap =>
        have : l = [] := List.eq_nil_of_length_eq_zero (by simpa using b1)
        subst this
        cases a0 with
        | none => exact Snd.clean hs (v := .string ⟨⟨[]⟩⟩) (by rw [run_convert_bytes_string w src dst e none 0 cap t1 t2 t3]; simp [Conv.bytesToString]; rfl) (.str [])
        | some ad => exact Snd.clean hs (v := .string ⟨⟨[]⟩⟩) (run_convert_bytes_back w src dst e ad cap [] t1 t2 t3 (fun j hj => by simp at hj)) (.str [])
      | sl b o cap sz _ vals hsz hcap hS hR =>
        have key := run_convert_bytes_back (P := P) w src dst e ⟨b, o, none⟩ cap l t1 t2 t3 (fun j hj => by
          have hj' : j < es.length := by rw [← b1]; exact hj
          have e1 := b2 j hj
          have s1 : sz = 1 := by have := hsz j hj'; rw [e1] at this; simpa [PV.cells] using this.symm
          subst s1
          have r1 := hR j 0 hj' (by omega)
          rw [e1] at r1
          have r2 : vals j 0 = .int .u8 (l[j].toNat : Int) := by
            simp only [PV.cells, List.getD_cons_zero] at r1
            exact (RepS.clean (M := M) (q := s.m.q) r1).int_inv
          have := hs.stable _ _ _ (hS j 0 hj' (by omega))
          rw [r2, Nat.mul_one, Nat.add_zero] at this
          rw [add_none]
          exact this)
        rw [b1] at key
        exact Snd.clean hs key (.str l)
    · exact fun hok => hok.elim
  · rename_i id off len sz heq
    split
    · rename_i cs hcs
      split
      · rename_i l hl
        intro hle
        obtain ⟨b1, b2⟩ := bytesOf_at hl
        have ty : ∃ e, P.underlying src = some (.slice e) ∧ P.underlying e = some (.int .u8) ∧ P.underlying dst = some .string := by
          unfold tcv at heq
          split at heq
          · cases heq
          · cases heq
          · cases heq
          · rename_i e h1 h2
            split at heq
            · rename_i h3; exact ⟨e, h1, h3, h2⟩
            · cases heq
          · cases heq
        obtain ⟨e, t1, t2, t3⟩ := ty
        obtain ⟨cap, _, rfl⟩ := hu.osl_inv
        have hh : ∃ vals : Nat → Value, (∀ j, j < cs.length → w.cell? ⟨M.φ id, j, none⟩ = some (vals j)) ∧ (∀ j, j < cs.length → RepS S M s.m.q (vals j) (cs.getD j .any)) := by
          have hb := hs.blk id _ hcs
          cases hz : s.m.z id with
          | false =>
            rw [hz] at hb
            obtain ⟨_, _, ⟨vs, ty, h3, h4, h5⟩, h6⟩ := hb
            refine ⟨fun j => vs.getD j undef, fun j hj => ?_, h5⟩
            rw [cell_of h3, List.getElem?_eq_getElem (by omega)]
            show some _ = some (vs.getD j undef)
            rw [getD_lt (by omega)]
          | true =>
            rw [hz] at hb
            obtain ⟨vals, hv⟩ := hb
            exact ⟨vals, fun j hj => hs.stable _ _ _ (hv j hj).1, fun j hj => .clean (hv j hj).2⟩
        obtain ⟨vals, hc, hr⟩ := hh
        have hlen : l.length = len := by rw [b1]; simp; omega
        have key := run_convert_bytes_back (P := P) w src dst e ⟨M.φ id, off, none⟩ cap l t1 t2 t3 (fun j hj => by
          have e1 := b2 j hj
          have hj' : off + j < cs.length := by omega
          have e2 : ((cs.drop off).take len).getD j .any = cs.getD (off + j) .any := by
            simp only [List.getD_eq_getElem?_getD]
            rw [List.getElem?_take_of_lt (by omega), List.getElem?_drop]
          rw [e2] at e1
          have r1 := hr _ hj'
          rw [e1] at r1
          rw [add_none, hc _ hj', r1.int_inv])
        rw [hlen] at key
        exact Snd.clean hs key (.str l)
      · exact fun hok => hok.elim
    · exact fun hok => hok.elim
  · exact fun hok => hok.elim

theorem sound_extract (hs : Sim B S M s a w) {u : Value} {p : PV} {i : Nat} (hu : RepS S M s.m.q u p) (hui : ∀ i ∈ p.ids, Live s.m i) (hok : (aExtract p i s.m).ok) : Snd P B S s a w (Instr.extract u i) (aExtract p i s.m) := by
  revert hok
  unfold aExtract
  split
  · rename_i vs
    intro hi
    simp only at hi
    obtain ⟨us, rfl, hl, hr⟩ := hu.tup_inv
    refine Snd.pure hs (v := us.getD i undef) ?_ (hr i hi) (fun k hk => hui k (PV.mem_idsL.2 ⟨_, getD_mem hi, hk⟩))
    rw [getD_lt (by omega)]
    have : i < us.length := by omega
    simp [Instr.extract, this]
  · exact fun hok => hok.elim

theorem sound_len (hs : Sim B S M s a w) {t ty : TypeId} {u : Value} {p : PV} (hu : RepS S M s.m.q u p) (hok : (aLen P t p s.m).ok) : Snd P B S s a w (Builtin.len_ #[t] ty #[u]) (aLen P t p s.m) := by
  revert hok
  unfold aLen
  split
  · rename_i n x heq
    intro _
    unfold tlen at heq
    split at heq
    · rename_i h1
      cases heq
      exact Snd.clean hs (by simp [Builtin.len_, run_und h1, goInt]) (.int _ _)
    · cases heq
    · cases heq
    · rename_i e h1
      split at heq
      · rename_i h2
        cases heq
        exact Snd.clean hs (by simp [Builtin.len_, run_und h1, run_und h2, goInt]) (.int _ _)
      · cases heq
    · cases heq
  · rename_i tk es heq
    intro _
    obtain ⟨ad, cap, rfl, _⟩ := hu.sl_inv.sl_len
    unfold tlen at heq
    split at heq
    · cases heq
    · rename_i h1
      exact Snd.clean hs (by simp [Builtin.len_, run_und h1, goInt]) (.int _ _)
    · cases heq
    · split at heq <;> cases heq
    · cases heq
  · rename_i id off n sz heq
    intro _
    obtain ⟨cap, _, rfl⟩ := hu.osl_inv
    unfold tlen at heq
    split at heq
    · cases heq
    · rename_i h1
      exact Snd.clean hs (by simp [Builtin.len_, run_und h1, goInt]) (.int _ _)
    · cases heq
    · split at heq <;> cases heq
    · cases heq
  · rename_i l heq
    intro _
    rw [hu.str_inv]
    unfold tlen at heq
    split at heq
    · cases heq
    · cases heq
    · rename_i h1
      exact Snd.clean hs (v := .int .i64 l.length) (by simp [Builtin.len_, run_und h1, goInt]; rfl) (.int _ _)
    · split at heq <;> cases heq
    · cases heq
  · exact fun hok => hok.elim

theorem sound_max (hs : Sim B S M s a w) {ts : Array TypeId} {ty : TypeId} {u v : Value} {p q : PV} (hu : RepS S M s.m.q u p) (hv : RepS S M s.m.q v q) (hok : (aMax p q s.m).ok) : Snd P B S s a w (Builtin.max_ ts ty #[u, v]) (aMax p q s.m) := by
  revert hok
  unfold aMax
  split
  · rename_i k x k' y
    intro hk
    rw [hu.int_inv, hv.int_inv]
    simp only at hk
    subst hk
    have e : (if y > x then y else x) = max x y := by rw [Int.max_def]; split <;> split <;> omega
    exact Snd.clean hs (v := .int k (max x y)) (by simp [Builtin.max_, Builtin.max2]; omega) (.int _ _)
  · exact fun hok => hok.elim
theorem sound_min (hs : Sim B S M s a w) {ts : Array TypeId} {ty : TypeId} {u v : Value} {p q : PV} (hu : RepS S M s.m.q u p) (hv : RepS S M s.m.q v q) (hok : (aMin p q s.m).ok) : Snd P B S s a w (Builtin.min_ ts ty #[u, v]) (aMin p q s.m) := by
  revert hok
  unfold aMin
  split
  · rename_i k x k' y
    intro hk
    rw [hu.int_inv, hv.int_inv]
    simp only at hk
    subst hk
    exact Snd.clean hs (v := .int k (min x y)) (by simp [Builtin.min_, Builtin.min2]; omega) (.int _ _)
  · exact fun hok => hok.elim
end
end Go.PL

namespace Go.PL
open Go.RowKit
set_option linter.unusedVariables false

/-- parts laid over cells: 'place i': where part i lies, and how many cells it takes -/
def fillPV (place : Nat → Option (Nat × Nat)) : List PV → List (Nat × PV) → Option (List PV)
  | cs, [] => some cs
  | cs, (i, p) :: rest => match place i with
    | none => none
    | some (o, sz) => if p.known = true ∧ p.cells.length = sz ∧ o + sz ≤ cs.length then fillPV place (splice cs o p.cells) rest else none

inductive BdK where
  | str (fs : List (Nat × Nat)) (z : List PV)
  | arr (esz : Nat) (z : List PV)
  | none
/-- how a struct or an array is laid out, and its zero cells -/
def tbd (P : Program) (t : TypeId) : BdK :=
  match P.info? t with
  | some i => match i.zero with
    | some z => match P.underlying t with
      | some (.struct fs) => if (fs.all fun f => (P.info? f.type).isSome) && (ofVal z).known then .str (fs.toList.map fun f => (f.offset, tsz P f.type)) (ofVal z).cells else .none
      | some (.array _ e) => if (P.info? e).isSome && (ofVal z).known then .arr (tsz P e) (ofVal z).cells else .none
      | _ => .none
    | none => .none
  | none => .none

def aBuild (P : Program) (t : TypeId) (parts : List (Nat × PV)) (m : Hp) : ARes :=
  match tbd P t with
  | .str fs z => match fillPV (fs[·]?) z parts with
    | some cs => ⟨True, .agg cs, m⟩
    | none => .fail
  | .arr esz z => match fillPV (fun i => some (i * esz, esz)) z parts with
    | some cs => ⟨True, .agg cs, m⟩
    | none => .fail
  | .none => .fail

section
variable {P : Program} {B : Frm} {S : Stable} {M : Maps} {s : St} {a : Act} {w : World}

theorem foldl_set (l : List Value) : ∀ (k : Nat) (cs : Array Value) (off : Nat), off + k + l.length ≤ cs.size →
    (l.zipIdx k).foldl (fun cs x => cs.setIfInBounds (off + x.2) x.1) cs = ⟨cs.toList.take (off + k) ++ l ++ cs.toList.drop (off + k + l.length)⟩ := by
  induction l with
  | nil => intro k cs off h; simp
  | cons v l ih =>
    intro k cs off h
    simp only [List.zipIdx_cons, List.foldl_cons]
    rw [ih (k + 1) _ off (by simp at h ⊢; omega)]
    congr 1
    simp only [Array.toList_setIfInBounds]
    apply List.ext_getElem?
    intro j
    simp only [List.length_cons] at h
    have hk : off + k < cs.toList.length := by simp; omega
    simp only [List.append_assoc, List.getElem?_append, List.length_take, List.length_set, Array.length_toList, List.getElem?_take, List.getElem?_drop, List.getElem?_set, List.length_cons]
    have m1 : min (off + (k + 1)) cs.size = off + k + 1 := by omega
    have m2 : min (off + k) cs.size = off + k := by omega
    rw [m1, m2]
    by_cases c1 : j < off + k
    · have : j < off + k + 1 := by omega
      have h3 : ¬ off + k = j := by omega
      simp [c1, this, h3]
      omega
    · by_cases c2 : j = off + k
      · subst c2
        have : off + k < cs.size := by omega
        simp [this]
      · have c3 : ¬ j < off + k + 1 := by omega
        simp only [c1, c3, if_false]
        have e1 : j - (off + k) = (j - (off + k + 1)) + 1 := by omega
        rw [e1]
        simp only [List.length_cons, List.getElem?_cons_succ]
        by_cases c4 : j - (off + k + 1) < l.length
        · have : j - (off + k + 1) + 1 < l.length + 1 := by omega
          simp [c4]
        · have : ¬ j - (off + k + 1) + 1 < l.length + 1 := by omega
          simp only [c4, this, if_false]
          have e2 : ¬ off + k = off + (k + 1) + l.length + (j - (off + k + 1) - l.length) := by omega
          simp only [e2, if_false]
          congr 1
          omega

theorem fill_ok {place : Nat → Option (Nat × Nat)} : ∀ (parts : List (Nat × PV)) (vparts : List (Nat × Value)) (cs cs' : List PV) (vs : List Value),
    vparts.length = parts.length → (∀ i, i < parts.length → (vparts.getD i (0, undef)).1 = (parts.getD i (0, .any)).1 ∧ RepS S M s.m.q (vparts.getD i (0, undef)).2 (parts.getD i (0, .any)).2) →
    RepL S M s.m.q vs cs → fillPV place cs parts = some cs' → ∃ vs', Instr.fill place ⟨vs⟩ vparts = some ⟨vs'⟩ ∧ RepL S M s.m.q vs' cs' ∧ ∀ k ∈ PV.idsL cs', k ∈ PV.idsL cs ∨ ∃ x ∈ parts, k ∈ x.2.ids
  | [], vparts, cs, cs', vs, hl, _, hr, h => by
    have : vparts = [] := List.eq_nil_of_length_eq_zero (by simpa using hl)
    subst this
    simp only [fillPV, Option.some.injEq] at h
    subst h
    exact ⟨vs, rfl, hr, fun k hk => .inl hk⟩
  | (i, p) :: rest, [], cs, cs', vs, hl, _, hr, h => by simp at hl
  | (i, p) :: rest, (i', v) :: vrest, cs, cs', vs, hl, hp, hr, h => by
    obtain ⟨h0, hv⟩ := hp 0 (by simp)
    simp only [List.getD_cons_zero] at h0 hv
    subst h0
    simp only [fillPV] at h
    split at h
    · cases h
    · rename_i o sz hpl
      split at h
      · rename_i hc
        obtain ⟨hc1, hc2, hc3⟩ := hc
        obtain ⟨ys, hyc, hyl, hyr⟩ := hv.cells_inv hc1
        have hlen : ys.length = sz := by omega
        have hvl : vs.length = cs.length := hr.1
        have hr' : RepL S M s.m.q (vs.take o ++ ys ++ vs.drop (o + ys.length)) (splice cs o p.cells) := by
          refine ⟨by simp [splice, hvl, hyl], fun j hj => ?_⟩
          have hjl : j < cs.length := by simp [splice] at hj; omega
          unfold splice
          rw [splice_getD (by omega), splice_getD (by omega), hyl]
          split
          · exact hr.2 j hjl
          · split
            · exact hyr _ (by omega)
            · exact hr.2 j hjl
        obtain ⟨vs', e1, e2, e3⟩ := fill_ok rest vrest (splice cs o p.cells) cs' (vs.take o ++ ys ++ vs.drop (o + ys.length)) (by simpa using hl) (fun j hj => by simpa using hp (j + 1) (by simpa using hj)) hr' h
        refine ⟨vs', ?_, e2, fun k hk => ?_⟩
        · simp only [Instr.fill, hpl, hyc]
          have hz : (⟨ys⟩ : Array Value).size = sz := by simp [hlen]
          have hno : ¬ ((decide ((⟨ys⟩ : Array Value).size ≠ sz) || decide (o + (⟨ys⟩ : Array Value).size > (⟨vs⟩ : Array Value).size)) = true) := by
            simp only [List.size_toArray, Bool.or_eq_true, decide_eq_true_eq, not_or]
            omega
          rw [if_neg hno]
          have hf := foldl_set ys 0 ⟨vs⟩ o (by simp; omega)
          simp only [Nat.add_zero] at hf
          have hz2 : Array.foldl (fun cs x => cs.setIfInBounds (o + x.2) x.1) (⟨vs⟩ : Array Value) (Array.zipIdx ⟨ys⟩) = ⟨vs.take o ++ ys ++ vs.drop (o + ys.length)⟩ := by
            rw [← Array.foldl_toList]
            simpa using hf
          first | (rw [hz2]; exact e1) | (simp only [hz2]; exact e1)
        · rcases e3 k hk with h1 | ⟨x, hx, hkx⟩
          · obtain ⟨c, hc, hkc⟩ := PV.mem_idsL.1 h1
            simp only [splice, List.mem_append] at hc
            rcases hc with (hc | hc) | hc
            · exact .inl (PV.mem_idsL.2 ⟨c, List.mem_of_mem_take hc, hkc⟩)
            · exact .inr ⟨(i', p), by simp, cells_ids hc hkc⟩
            · exact .inl (PV.mem_idsL.2 ⟨c, List.mem_of_mem_drop hc, hkc⟩)
          · exact .inr ⟨x, by simp [hx], hkx⟩
      · cases h
end
end Go.PL

namespace Go.PL
open Go.RowKit
set_option linter.unusedVariables false

section
variable {P : Program} {B : Frm} {S : Stable} {M : Maps} {s : St} {a : Act} {w : World}

theorem run_mapM_list {α β : Type} (g : α → Sem β) (g' : α → β) (w : World) : ∀ (l : List α), (∀ x ∈ l, (g x).run P w = .ok (g' x) w) → (l.mapM g).run P w = .ok (l.map g') w
  | [], _ => by simp
  | x :: l, h => by
    have ih := run_mapM_list g g' w l (fun y hy => h y (by simp [hy]))
    simp [List.mapM_cons, h x (by simp), ih]
theorem run_mapM_array {α β : Type} (g : α → Sem β) (g' : α → β) (w : World) (l : Array α) (h : ∀ x ∈ l, (g x).run P w = .ok (g' x) w) : (l.mapM g).run P w = .ok (l.map g') w := by
  rw [Array.mapM_eq_mapM_toList]
  simp only [Sem.run_map, run_mapM_list g g' w l.toList (fun x hx => h x (by simpa using hx)), Result.andThen_ok]
  congr 1
  apply Array.ext'
  simp

theorem sound_build (hs : Sim B S M s a w) {t : TypeId} {parts : List (Nat × PV)} {vparts : List (Nat × Value)} (hl : vparts.length = parts.length)
    (hp : ∀ i, i < parts.length → (vparts.getD i (0, undef)).1 = (parts.getD i (0, .any)).1 ∧ RepS S M s.m.q (vparts.getD i (0, undef)).2 (parts.getD i (0, .any)).2) (hi : ∀ x ∈ parts, ∀ i ∈ x.2.ids, Live s.m i)
    (hok : (aBuild P t parts s.m).ok) : Snd P B S s a w (Instr.build t ⟨vparts⟩) (aBuild P t parts s.m) := by
  have zero : ∀ {i : TypeInfo} {z : Value}, P.info? t = some i → i.zero = some z → (ofVal z).known = true → (zeroValue t).run P w = .ok z w ∧ ∃ zs : List Value, z.cells = ⟨zs⟩ ∧ RepL S M s.m.q zs (ofVal z).cells ∧ PV.idsL (ofVal z).cells = [] := by
    intro i z h1 h2 hk
    refine ⟨by simp [zeroValue, run_inf h1, h2], ?_⟩
    obtain ⟨zs, e1, e2, e3⟩ := (RepS.clean (S := S) (M := M) (q := s.m.q) (rep_ofVal S z)).cells_inv hk
    refine ⟨zs, e1, ⟨e2, e3⟩, ?_⟩
    have := ids_ofVal z
    cases hz : ofVal z with
    | agg cs => rw [hz] at this; simpa [PV.cells, PV.ids] using this
    | _ => rw [hz] at this; simpa [PV.cells, PV.idsL] using this
  revert hok
  unfold aBuild
  split
  · rename_i fs z heq
    unfold tbd at heq
    split at heq
    · rename_i i h1
      split at heq
      · rename_i zv h2
        split at heq
        · rename_i fds h3
          split at heq
          · rename_i hall
            cases heq
            simp only [Bool.and_eq_true] at hall
            obtain ⟨hz0, zs, hz1, hz2, hz3⟩ := zero h1 h2 hall.2
            split
            · rename_i cs' hf
              intro _
              obtain ⟨vs', e1, e2, e3⟩ := fill_ok (S := S) (M := M) (s := s) parts vparts _ cs' zs hl hp hz2 hf
              refine Snd.pure hs (v := .agg ⟨vs'⟩) ?_ (.agg vs' cs' e2.1 e2.2) (fun k hk => ?_)
              · have hm := run_mapM_array (P := P) (fun f : Field => do pure (f.offset, ← sizeOf f.type)) (fun f => (f.offset, tsz P f.type)) w fds (fun f hf => by
                  have hsome : (P.info? f.type).isSome = true := by
                    have := hall.1
                    rw [Array.all_eq_true'] at this
                    exact this f hf
                  obtain ⟨fi, hfi⟩ := Option.isSome_iff_exists.1 hsome
                  simp [run_szo hfi])
                simp only [Instr.build, Sem.run_bind, hz0, Result.andThen_ok, run_und h3, hm, hz1]
                have hplace : (fun (x : Nat) => (fds.map fun f => (f.offset, tsz P f.type))[x]?) = (fun (x : Nat) => (List.map (fun f : Field => (f.offset, tsz P f.type)) fds.toList)[x]?) := by
                  funext x
                  simp
                rw [hplace, e1]
                simp
              · rcases e3 k (by simpa [PV.ids] using hk) with h | ⟨x, hx, hkx⟩
                · rw [hz3] at h; cases h
                · exact hi x hx k hkx
            · exact fun hok => hok.elim
          · cases heq
        · split at heq <;> cases heq
        · cases heq
      · cases heq
    · cases heq
  · rename_i esz z heq
    unfold tbd at heq
    split at heq
    · rename_i i h1
      split at heq
      · rename_i zv h2
        split at heq
        · split at heq <;> cases heq
        · rename_i n e h3
          split at heq
          · rename_i hall
            cases heq
            simp only [Bool.and_eq_true] at hall
            obtain ⟨hz0, zs, hz1, hz2, hz3⟩ := zero h1 h2 hall.2
            obtain ⟨ei, hei⟩ := Option.isSome_iff_exists.1 hall.1
            split
            · rename_i cs' hf
              intro _
              obtain ⟨vs', e1, e2, e3⟩ := fill_ok (S := S) (M := M) (s := s) parts vparts _ cs' zs hl hp hz2 hf
              refine Snd.pure hs (v := .agg ⟨vs'⟩) ?_ (.agg vs' cs' e2.1 e2.2) (fun k hk => ?_)
              · simp only [Instr.build, Sem.run_bind, hz0, Result.andThen_ok, run_und h3, run_szo hei, hz1, e1]
                simp
              · rcases e3 k (by simpa [PV.ids] using hk) with h | ⟨x, hx, hkx⟩
                · rw [hz3] at h; cases h
                · exact hi x hx k hkx
            · exact fun hok => hok.elim
          · cases heq
        · cases heq
      · cases heq
    · cases heq
  · exact fun hok => hok.elim

end
end Go.PL
