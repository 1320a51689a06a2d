/- A logic of values for functions that only read and build, over the model (part 6): no statement of the seat is proved here. -/
import Derived.Test.YthingdchjkhfbaaGreatVPlE
import Derived.ScopeJumps
set_option linter.unusedSimpArgs false
set_option linter.unusedVariables false
namespace Go.PL
open Go.RowKit
set_option linter.unusedVariables false
def vcGuard (want : Bool) (p : PV) (A B : Prop) : Prop :=
 match p with
 | .bool b => (b = want → A) ∧ (b = !want → B)
 | .tup _ => B
 | _ => False
def vcCall (P : Program) (x : Bool) (m : Hp) (c : Option (FuncId × List PV)) (K : PV → Hp → Prop) : Prop :=
 match c with
 | some (g, args) => (PV.givableL m args ∧ ((∃ r, Pure P g (PV.giveL m args) r ∧ K r m) ∨ (x = true ∧ callX P g (PV.giveL m args) m K))) ∨ (x = true ∧ callE P g (PV.giveL m args) m K)
 | none => False
def vcRes (r : ARes) (K : PV → Hp → Prop) : Prop := r.ok ∧ K r.v r.m
def vcOp (P : Program) (x : Bool) (o : Oper) (s : St) (K : St → Prop) : Prop :=
 match o.op with
 | .call { callee := .value f, args, argTypes } => vcCall P x s.m (calleeOf s.eval { callee := .value f, args, argTypes }) fun r m => K ((s.with m).put o.dst r)
 | .call { callee := .builtin .append, args, argTypes } => if isVecs (args.toList.map s.eval) || vmB o.dst s.m then x = true ∧ vApp P o.dst argTypes.toList (args.toList.map s.eval) s.m fun r m => K ((s.with m).put o.dst r) else vcRes (aop P o s.eval s.m) fun v m => K ((s.with m).put o.dst v)
 | .buildSlice t len parts => if vmB o.dst s.m then x = true ∧ vBld P o.dst t len (parts.toList.map fun y => (y.1, s.eval y.2)) s.m fun r m => K ((s.with m).put o.dst r) else vcRes (aop P o s.eval s.m) fun v m => K ((s.with m).put o.dst v)
 | .makeMap _ none => x = true ∧ makeX s.m fun r m => K ((s.with m).put o.dst r)
 | .mapEntry t y k => x = true ∧ entryX P t (s.eval y) (s.eval k) s.m fun r m => K ((s.with m).put o.dst r)
 | .entryStore t y st v => x = true ∧ o.dst = none ∧ storeX (s.eval y) (s.eval st) (s.eval v) s.m fun r m => K ((s.with m).put o.dst r)
 | .range t y => x = true ∧ tmapB P t = true ∧ rangeX (s.eval y) s.m fun r m => K ((s.with m).put o.dst r)
 | .next y false => x = true ∧ nextX (s.eval y) s.m fun r m => K ((s.with m).put o.dst r)
 | _ => vcRes (aop P o s.eval s.m) fun v m => K ((s.with m).put o.dst v)
def vcA (P : Program) (x : Bool) (ops : Array Oper) (K : St → Prop) : List Oper → St → Prop
 | [], s => K s
 | o :: rest, s => dstOk s.n o.dst ∧ match o.guard with
  | none => vcOp P x o s (vcA P x ops K rest)
  | some (j, want) => match (ops[j]?).bind (·.dst) with
   | none => vcA P x ops K rest (s.put o.dst (.tup []))
   | some d => d < s.n ∧ vcGuard want (s.fr d) (vcOp P x o s (vcA P x ops K rest)) (vcA P x ops K rest (s.put o.dst (.tup [])))
def lexX (P : Program) (ops : Array Oper) (K : St → Prop) : List Oper → St → Prop
 | [], s => K s
 | o :: rest, s => dstOk s.n o.dst ∧ ((gd ops s o = some true ∧ ((∃ v m', StepM P o s.eval s.m v m' ∧ lexX P ops K rest ((s.with m').put o.dst v)) ∨ spec P o s (lexX P ops K rest))) ∨ (gd ops s o = some false ∧ lexX P ops K rest (s.put o.dst (.tup []))))
def vcCond (p : PV) (A B : Prop) : Prop :=
 match p with
 | .bool b => (b = true → A) ∧ (b = false → B)
 | _ => False
section
variable {P : Program} {s : St}
theorem spec_mono {o : Oper} {K K' : St → Prop} (hK : ∀ s, K s → K' s) (h : spec P o s K) : spec P o s K' := by
 obtain ⟨dst, op, ty, pos, after, guard⟩ := o
 unfold spec at h ⊢
 simp only at h ⊢
 split at h
 ·rename_i c
  split at h
  ·rename_i g args hc
   rcases h with ⟨h1, h2⟩ | ⟨args0, m0, r, m1, f', g', a1, a2, a3, a4⟩
   rotate_left
   ·exact .inr ⟨args0, m0, r, m1, f', g', a1, a2, a3, hK _ a4⟩
   refine .inl ⟨h1, ?_⟩
   rcases h2 with ⟨r, a1, a2, a3⟩ | ⟨b, c, A, r, c', a1, a2, a3, a4⟩ | ⟨r, c, a1, a2⟩ | ⟨r, a1, a2⟩ | ⟨r, n, sz, e, d, a1, a2, a3⟩
   ·exact .inl ⟨r, a1, a2, hK _ a3⟩
   ·exact .inr (.inl ⟨b, c, A, r, c', a1, a2, a3, hK _ a4⟩)
   ·exact .inr (.inr (.inl ⟨r, c, a1, fun b hb => hK _ (a2 b hb)⟩))
   ·exact .inr (.inr (.inr (.inl ⟨r, a1, hK _ a2⟩)))
   ·exact .inr (.inr (.inr (.inr ⟨r, n, sz, e, d, a1, a2, hK _ a3⟩)))
  ·split at h
   ·unfold vApp at h ⊢
    split at h
    ·split at h
     ·obtain ⟨g, h⟩ := h
      refine ⟨g, ?_⟩
      unfold vApp1 at h ⊢
      split at h
      ·split at h
       ·obtain ⟨g0, g1, g2, g3, g4, g5, g6, hk⟩ := h
        exact ⟨g0, g1, g2, g3, g4, g5, g6, hK _ hk⟩
       ·exact h.elim
      ·obtain ⟨g0, g1, g2, g3, hk⟩ := h
       exact ⟨g0, g1, g2, g3, hK _ hk⟩
      ·exact h.elim
     ·exact h.elim
    ·exact h.elim
   ·exact h.elim
 ·unfold vBld at h ⊢
  split at h
  ·obtain ⟨g0, g1, g2, g3, hk⟩ := h
   exact ⟨g0, g1, g2, g3, hK _ hk⟩
  ·exact h.elim
 ·exact fun b hb => hK _ (h b hb)
 ·unfold entryX at h ⊢
  split at h
  ·split at h
   ·split at h
    ·exact ⟨h.1, h.2.1, hK _ h.2.2⟩
    ·exact h.elim
   ·exact h.elim
  ·exact h.elim
 ·obtain ⟨hd, h⟩ := h
  refine ⟨hd, ?_⟩
  unfold storeX at h ⊢
  split at h
  ·split at h
   ·exact ⟨h.1, h.2.1, hK _ h.2.2⟩
   ·exact h.elim
  ·exact h.elim
 ·rename_i t x
  obtain ⟨h1, h2⟩ := h
  refine ⟨h1, ?_⟩
  unfold rangeX at h2 ⊢
  split at h2
  ·split at h2
   ·exact fun ib hib => hK _ (h2 ib hib)
   ·exact h2.elim
  ·exact fun ib b hib => hK _ (h2 ib b hib)
  ·exact h2.elim
 ·rename_i x
  unfold nextX at h ⊢
  split at h
  ·split at h
   ·split at h
    ·exact ⟨h.1, fun hh => hK _ (h.2.1 hh), fun i h1 h2 => hK _ (h.2.2 i h1 h2)⟩
    ·exact h.elim
   ·exact h.elim
  ·exact h.elim
 ·exact h.elim
theorem vcOp_step {x : Bool} {o : Oper} {K : St → Prop} (h : vcOp P x o s K) : (∃ v m', StepM P o s.eval s.m v m' ∧ K ((s.with m').put o.dst v)) ∨ (x = true ∧ spec P o s K) := by
 unfold vcOp at h
 split at h
 ·rename_i f args ts heq
  unfold vcCall at h
  split at h
  ·rename_i g xs hc
   rcases h with ⟨h1, ⟨r, h2, h3⟩ | ⟨hx, h2⟩⟩ | ⟨hx, h2⟩
   ·exact .inl ⟨r, s.m, .inr ⟨_, g, xs, heq, hc, h1, h2, rfl⟩, h3⟩
   ·refine .inr ⟨hx, ?_⟩
    unfold spec
    rw [heq]
    simp only [hc]
    exact .inl ⟨h1, h2⟩
   ·refine .inr ⟨hx, ?_⟩
    unfold spec
    rw [heq]
    simp only [hc]
    exact .inr h2
  ·exact h.elim
 ·rename_i xs ts heq
  split at h
  ·obtain ⟨hx, h2⟩ := h
   refine .inr ⟨hx, ?_⟩
   unfold spec
   rw [heq]
   simp only [calleeOf]
   exact h2
  ·exact .inl ⟨_, _, .inl ⟨h.1, rfl, rfl⟩, h.2⟩
 ·rename_i t len parts heq
  split at h
  ·obtain ⟨hx, h2⟩ := h
   refine .inr ⟨hx, ?_⟩
   unfold spec
   rw [heq]
   exact h2
  ·exact .inl ⟨_, _, .inl ⟨h.1, rfl, rfl⟩, h.2⟩
 ·rename_i heq
  exact .inr ⟨h.1, by unfold spec; rw [heq]; exact h.2⟩
 ·rename_i heq
  exact .inr ⟨h.1, by unfold spec; rw [heq]; exact h.2⟩
 ·rename_i heq
  exact .inr ⟨h.1, by unfold spec; rw [heq]; exact h.2⟩
 ·rename_i heq
  exact .inr ⟨h.1, by unfold spec; rw [heq]; exact h.2⟩
 ·rename_i heq
  exact .inr ⟨h.1, by unfold spec; rw [heq]; exact h.2⟩
 ·exact .inl ⟨_, _, .inl ⟨h.1, rfl, rfl⟩, h.2⟩
theorem vcA_lexX {x : Bool} {ops : Array Oper} {K : St → Prop} : ∀ (l : List Oper) (s : St), vcA P x ops K l s → lexX P ops K l s
 | [], s, h => h
 | o :: rest, s, h => by
  obtain ⟨hd, h⟩ := h
  refine ⟨hd, ?_⟩
  have op : ∀ {s}, vcOp P x o s (vcA P x ops K rest) → (∃ v m', StepM P o s.eval s.m v m' ∧ lexX P ops K rest ((s.with m').put o.dst v)) ∨ spec P o s (lexX P ops K rest) := fun h => by
   rcases vcOp_step h with ⟨v, m', h1, h2⟩ | ⟨_, h1⟩
   ·exact .inl ⟨v, m', h1, vcA_lexX rest _ h2⟩
   ·exact .inr (spec_mono (fun s' hs' => vcA_lexX rest s' hs') h1)
  unfold gd
  cases hg : o.guard with
  | none =>
   rw [hg] at h
   exact .inl ⟨rfl, op h⟩
  | some jw =>
   obtain ⟨j, want⟩ := jw
   rw [hg] at h
   simp only at h ⊢
   cases hd' : (ops[j]?).bind (·.dst) with
   | none => rw [hd'] at h; exact .inr ⟨rfl, vcA_lexX rest _ h⟩
   | some d =>
    rw [hd'] at h
    simp only at h ⊢
    obtain ⟨hlt, h⟩ := h
    rw [if_pos hlt]
    unfold vcGuard at h
    split at h
    ·rename_i b hb
     rw [hb]
     by_cases hbw : b = want
     ·left; subst hbw; exact ⟨by simp [gdOf], op (h.1 rfl)⟩
     ·right
      refine ⟨by simp [gdOf, hbw], vcA_lexX rest _ (h.2 ?_)⟩
      cases b <;> cases want <;> simp_all
    ·rename_i l hb
     rw [hb]
     exact .inr ⟨rfl, vcA_lexX rest _ h⟩
    ·exact h.elim
theorem vcA_lex {ops : Array Oper} {K : St → Prop} : ∀ (l : List Oper) (s : St), vcA P false ops K l s → lexA P ops K l s
 | [], s, h => h
 | o :: rest, s, h => by
  obtain ⟨hd, h⟩ := h
  refine ⟨hd, ?_⟩
  have op : ∀ {s}, vcOp P false o s (vcA P false ops K rest) → ∃ v m', StepM P o s.eval s.m v m' ∧ lexA P ops K rest ((s.with m').put o.dst v) := fun h => by
   rcases vcOp_step h with ⟨v, m', h1, h2⟩ | ⟨h1, _⟩
   ·exact ⟨v, m', h1, vcA_lex rest _ h2⟩
   ·cases h1
  unfold gd
  cases hg : o.guard with
  | none =>
   rw [hg] at h
   exact .inl ⟨rfl, op h⟩
  | some jw =>
   obtain ⟨j, want⟩ := jw
   rw [hg] at h
   simp only at h ⊢
   cases hd' : (ops[j]?).bind (·.dst) with
   | none => rw [hd'] at h; exact .inr ⟨rfl, vcA_lex rest _ h⟩
   | some d =>
    rw [hd'] at h
    simp only at h ⊢
    obtain ⟨hlt, h⟩ := h
    rw [if_pos hlt]
    unfold vcGuard at h
    split at h
    ·rename_i b hb
     rw [hb]
     by_cases hbw : b = want
     ·left; subst hbw; exact ⟨by simp [gdOf], op (h.1 rfl)⟩
     ·right
      refine ⟨by simp [gdOf, hbw], vcA_lex rest _ (h.2 ?_)⟩
      cases b <;> cases want <;> simp_all
    ·rename_i l hb
     rw [hb]
     exact .inr ⟨rfl, vcA_lex rest _ h⟩
    ·exact h.elim
theorem lexX_sound {B : Frm} {ops : Array Oper} {K : St → Prop} {Qc : Exit → Act → World → Prop} {S0 : Stable} {w0 : World} (hQ : ∀ s' S' M' a' w', K s' → Sim B S' M' s' a' w' → Ext B S0 S' w0 w' → Qc .normal a' w') :
  ∀ (l : List Oper) (k : Nat) (s : St), (∀ j, l[j]? = ops[k + j]?) → lexX P ops K l s → ∀ S M a w, Sim B S M s a w → Ext B S0 S w0 w → wpOps P ops Qc (List.range' k l.length) a w
 | [], k, s, _, h, S, M, a, w, hs, he => hQ s S M a w h hs he
 | o :: rest, k, s, hl, h, S, M, a, w, hs, he => by
  have h0 : ops[k]? = some o := by simpa using (hl 0).symm
  have hl' : ∀ j, rest[j]? = ops[(k + 1) + j]? := fun j => by have := hl (j + 1); simpa [Nat.add_assoc, Nat.add_comm 1 j] using this
  obtain ⟨hd, h⟩ := h
  simp only [List.length_cons, List.range'_succ, wpOps, h0]
  rcases h with ⟨hg, ⟨v, m', hst, hrest⟩ | hsp⟩ | ⟨hg, hrest⟩
  ·rw [gd_ok hs hg, if_pos rfl]
   exact .inl (step_sound hs (dstOk_spec hd) hst _ _ fun u w' S' M' hs' he' => lexX_sound hQ rest (k + 1) _ hl' hrest S' M' _ w' hs' (he.trans he'))
  ·rw [gd_ok hs hg, if_pos rfl]
   exact .inl (spec_sound hs (dstOk_spec hd) hsp _ _ fun s' u w' S' M' hk hs' he' => lexX_sound hQ rest (k + 1) s' hl' hk S' M' _ w' hs' (he.trans he'))
  ·rw [gd_ok hs hg, if_neg (by simp)]
   exact lexX_sound hQ rest (k + 1) _ hl' hrest S M _ w (skip_sim hs hd) he
theorem awp_regionX {id : Nat} {ops : Array Oper} {Q : Exit → St → Prop} (h : lexX P ops (Q .normal) ops.toList s) : awp P (.region id ops false) Q s := fun B S M a w hs => by
 refine wp_region ?_
 have := lexX_sound (B := B) (S0 := S) (w0 := w) (Qc := fun e a' w' => ∃ s' S' M', Q e s' ∧ Sim B S' M' s' a' w' ∧ Ext B S S' w w') (fun s' S' M' a' w' h1 h2 h3 => ⟨s', S', M', h1, h2, h3⟩) ops.toList 0 s (by simp) h S M a w hs (Ext.refl _ _ _)
 rw [← List.range_eq_range'] at this
 simpa using this
def vc (P : Program) : Code → (Exit → St → Prop) → St → Prop
 | .skip, Q, s => Q .normal s
 | .label _, Q, s => Q .normal s
 | .ret, Q, s => Q .ret s
 | .exit id, Q, s => Q (.exit id) s
 | .goto l, Q, s => Q (.goto l) s
 | .seq (.label l) y, Q, s => awp P (.seq (.label l) y) Q s
 | .seq x y, Q, s => vc P x (thenQ (vc P y Q) Q) s
 | .cond c x y, Q, s => vcCond (s.eval c) (vc P x Q s) (vc P y Q s)
 | .block id c, Q, s => vc P c (blockQ id Q) s
 | .region _ ops false, Q, s => vcA P true ops (Q .normal) ops.toList s
 | c, Q, s => awp P c Q s
theorem awp_seq_vc {x y : Code} {Q : Exit → St → Prop} {s : St} (hx : ∀ Q s, vc P x Q s → awp P x Q s) (hy : ∀ Q s, vc P y Q s → awp P y Q s) (h : vc P x (thenQ (vc P y Q) Q) s) : awp P (.seq x y) Q s :=
 awp_seq (awp_mono (fun e s' h' => by
   cases e with
   | normal => exact hy Q s' h'
   | _ => exact h') (hx _ s h))
theorem vc_sound : ∀ (c : Code) (Q : Exit → St → Prop) (s : St), vc P c Q s → awp P c Q s
 | .skip, Q, s, h => awp_skip h
 | .label _, Q, s, h => awp_label h
 | .ret, Q, s, h => awp_ret h
 | .exit id, Q, s, h => awp_exit h
 | .goto l, Q, s, h => awp_goto h
 | .seq x y, Q, s, h => by
  cases x with
  | label l => exact h
  | _ => exact awp_seq_vc (vc_sound _) (vc_sound y) h
 | .cond c x y, Q, s, h => by
  unfold vc vcCond at h
  split at h
  ·rename_i b hb
   refine awp_cond hb ?_
   cases b
   ·exact vc_sound y Q s (h.2 rfl)
   ·exact vc_sound x Q s (h.1 rfl)
  ·exact h.elim
 | .block id c, Q, s, h => awp_block (vc_sound c _ s h)
 | .region _ ops false, Q, s, h => awp_regionX (vcA_lexX _ _ h)
 | .region _ ops true, Q, s, h => h
 | .loop c, Q, s, h => h
 | .rangeFunc .., Q, s, h => h
 | .scope c, Q, s, h => h
 | .refuse _, Q, s, h => h
end
class KS where
 k : St → Prop
class LST where
 l : List Oper
class COD where
 c : Code
class QS where
 q : Exit → St → Prop
class PR where
 p : Prop
class KR where
 k : PV → Hp → Prop
class KV where
 k : PV → Prop
class KH where
 m : Hp
def vRes (r : ARes) [K : KR] : Prop := vcRes r K.k
def vGuard (want : Bool) (p : PV) [A : PR] [B : PR] : Prop := vcGuard want p A.p B.p
def vCond (p : PV) [A : PR] [B : PR] : Prop := vcCond p A.p B.p
def vCall (P : Program) (x : Bool) [M : KH] (c : Option (FuncId × List PV)) [K : KR] : Prop := vcCall P x M.m c K.k
def vA (P : Program) (x : Bool) [K : KS] [G : LST] [L : LST] (s : St) : Prop := vcA P x G.l.toArray K.k L.l s
def vOne (P : Program) (x : Bool) [K : KS] [G : LST] [L : LST] (o : Oper) (s : St) : Prop := vcA P x G.l.toArray K.k (o :: L.l) s
def vOp (P : Program) (x : Bool) [K : KS] (o : Oper) (s : St) : Prop := vcOp P x o s K.k
def gSlot [G : LST] (j : Nat) : Option Nat := (G.l[j]?).bind (·.dst)
def vC (P : Program) [C : COD] [Q : QS] (s : St) : Prop := vc P C.c Q.q s
def vQ [Q : QS] (e : Exit) (s : St) : Prop := Q.q e s
section
variable {P : Program} {x : Bool}
theorem vRes_mk (ok : Prop) (v : PV) (m : Hp) (K : KR) : @vRes ⟨ok, v, m⟩ K = (ok ∧ K.k v m) := rfl
theorem vGuard_tt (A B : PR) : @vGuard true (.bool true) A B = A.p := by simp [vGuard, vcGuard]
theorem vGuard_tf (A B : PR) : @vGuard true (.bool false) A B = B.p := by simp [vGuard, vcGuard]
theorem vGuard_ft (A B : PR) : @vGuard false (.bool true) A B = B.p := by simp [vGuard, vcGuard]
theorem vGuard_ff (A B : PR) : @vGuard false (.bool false) A B = A.p := by simp [vGuard, vcGuard]
theorem vGuard_tup (w : Bool) (l : List PV) (A B : PR) : @vGuard w (.tup l) A B = B.p := rfl
theorem vCond_t (A B : PR) : @vCond (.bool true) A B = A.p := by simp [vCond, vcCond]
theorem vCond_f (A B : PR) : @vCond (.bool false) A B = B.p := by simp [vCond, vcCond]
theorem gSlot_zero (o : Oper) (l : List Oper) : @gSlot ⟨o :: l⟩ 0 = o.dst := rfl
theorem gSlot_succ (o : Oper) (l : List Oper) (j : Nat) : @gSlot ⟨o :: l⟩ (j + 1) = @gSlot ⟨l⟩ j := by simp [gSlot]
theorem vA_nil (K : KS) (G : LST) (s : St) : @vA P x K G ⟨[]⟩ s = K.k s := rfl
theorem vA_cons (K : KS) (G : LST) (o : Oper) (l : List Oper) (s : St) : @vA P x K G ⟨o :: l⟩ s = @vOne P x K G ⟨l⟩ o s := rfl
theorem vOne_plain (K : KS) (G L : LST) (d : Option Tmp) (op : Op) (ty : TypeId) (pos : String) (af : Array Edge) (s : St) :
  @vOne P x K G L ⟨d, op, ty, pos, af, none⟩ s = (dstOk s.n d ∧ @vOp P x ⟨@vA P x K G L⟩ ⟨d, op, ty, "", #[], none⟩ s) := by
 have h : vcOp P x ⟨d, op, ty, pos, af, none⟩ s = vcOp P x ⟨d, op, ty, "", #[], none⟩ s := by
  funext K; cases op <;> rfl
 show (dstOk s.n d ∧ vcOp P x ⟨d, op, ty, pos, af, none⟩ s (vcA P x G.l.toArray K.k L.l)) = _
 rw [h]; rfl
theorem vOne_guard (K : KS) (G L : LST) (d : Option Tmp) (op : Op) (ty : TypeId) (pos : String) (af : Array Edge) (j : Nat) (want : Bool) (s : St) (d' : Nat) (h : @gSlot G j = some d') :
  @vOne P x K G L ⟨d, op, ty, pos, af, some (j, want)⟩ s = (dstOk s.n d ∧ d' < s.n ∧ @vGuard want (s.fr d') ⟨@vOp P x ⟨@vA P x K G L⟩ ⟨d, op, ty, "", #[], none⟩ s⟩ ⟨@vA P x K G L (s.put d (.tup []))⟩) := by
 have h' : (G.l.toArray[j]?).bind (·.dst) = some d' := by simpa [gSlot] using h
 have e : vcOp P x ⟨d, op, ty, pos, af, some (j, want)⟩ s = vcOp P x ⟨d, op, ty, "", #[], none⟩ s := by
  funext K; cases op <;> rfl
 show (dstOk s.n d ∧ (match (G.l.toArray[j]?).bind (·.dst) with
   | none => vcA P x G.l.toArray K.k L.l (s.put d (.tup []))
   | some d => d < s.n ∧ vcGuard want (s.fr d) (vcOp P x ⟨_, op, ty, pos, af, some (j, want)⟩ s (vcA P x G.l.toArray K.k L.l)) (vcA P x G.l.toArray K.k L.l (s.put _ (.tup []))))) = _
 rw [h', e]; rfl
theorem vOp_call (K : KS) (d : Option Tmp) (f : Operand) (args : Array Operand) (ts : Array TypeId) (ty : TypeId) (s : St) :
  @vOp P x K ⟨d, .call ⟨.value f, args, ts⟩, ty, "", #[], none⟩ s = @vCall P x ⟨s.m⟩ (calleeOf s.eval ⟨.value f, args, ts⟩) ⟨fun r m => K.k ((s.with m).put d r)⟩ := rfl
theorem vC_skip (Q : QS) (s : St) : @vC P ⟨.skip⟩ Q s = @vQ Q .normal s := rfl
theorem vC_label (l : Nat) (Q : QS) (s : St) : @vC P ⟨.label l⟩ Q s = @vQ Q .normal s := rfl
theorem vC_ret (Q : QS) (s : St) : @vC P ⟨.ret⟩ Q s = @vQ Q .ret s := rfl
theorem vC_exit (id : Nat) (Q : QS) (s : St) : @vC P ⟨.exit id⟩ Q s = @vQ Q (.exit id) s := rfl
theorem vC_goto (l : Nat) (Q : QS) (s : St) : @vC P ⟨.goto l⟩ Q s = @vQ Q (.goto l) s := rfl
theorem vC_seq_skip (y : Code) (Q : QS) (s : St) : @vC P ⟨.seq (.skip) y⟩ Q s = @vC P ⟨.skip⟩ ⟨thenQ (@vC P ⟨y⟩ Q) Q.q⟩ s := rfl
theorem vC_seq_ret (y : Code) (Q : QS) (s : St) : @vC P ⟨.seq (.ret) y⟩ Q s = @vC P ⟨.ret⟩ ⟨thenQ (@vC P ⟨y⟩ Q) Q.q⟩ s := rfl
theorem vC_seq_exit (id : Nat) (y : Code) (Q : QS) (s : St) : @vC P ⟨.seq (.exit id) y⟩ Q s = @vC P ⟨.exit id⟩ ⟨thenQ (@vC P ⟨y⟩ Q) Q.q⟩ s := rfl
theorem vC_seq_goto (l : Nat) (y : Code) (Q : QS) (s : St) : @vC P ⟨.seq (.goto l) y⟩ Q s = @vC P ⟨.goto l⟩ ⟨thenQ (@vC P ⟨y⟩ Q) Q.q⟩ s := rfl
theorem vC_seq_seq (a b : Code) (y : Code) (Q : QS) (s : St) : @vC P ⟨.seq (.seq a b) y⟩ Q s = @vC P ⟨.seq a b⟩ ⟨thenQ (@vC P ⟨y⟩ Q) Q.q⟩ s := rfl
theorem vC_seq_cond (c : Operand) (a b : Code) (y : Code) (Q : QS) (s : St) : @vC P ⟨.seq (.cond c a b) y⟩ Q s = @vC P ⟨.cond c a b⟩ ⟨thenQ (@vC P ⟨y⟩ Q) Q.q⟩ s := rfl
theorem vC_seq_block (id : Nat) (c : Code) (y : Code) (Q : QS) (s : St) : @vC P ⟨.seq (.block id c) y⟩ Q s = @vC P ⟨.block id c⟩ ⟨thenQ (@vC P ⟨y⟩ Q) Q.q⟩ s := rfl
theorem vC_seq_region (id : Nat) (l : Array Oper) (d : Bool) (y : Code) (Q : QS) (s : St) : @vC P ⟨.seq (.region id l d) y⟩ Q s = @vC P ⟨.region id l d⟩ ⟨thenQ (@vC P ⟨y⟩ Q) Q.q⟩ s := rfl
theorem vC_seq_loop (c : Code) (y : Code) (Q : QS) (s : St) : @vC P ⟨.seq (.loop c) y⟩ Q s = @vC P ⟨.loop c⟩ ⟨thenQ (@vC P ⟨y⟩ Q) Q.q⟩ s := rfl
theorem vC_seq_scope (c : Code) (y : Code) (Q : QS) (s : St) : @vC P ⟨.seq (.scope c) y⟩ Q s = @vC P ⟨.scope c⟩ ⟨thenQ (@vC P ⟨y⟩ Q) Q.q⟩ s := rfl
theorem vC_seq_label (l : Nat) (y : Code) (Q : QS) (s : St) : @vC P ⟨.seq (.label l) y⟩ Q s = awp P (.seq (.label l) y) Q.q s := rfl
theorem vC_cond (c : Operand) (x y : Code) (Q : QS) (s : St) : @vC P ⟨.cond c x y⟩ Q s = @vCond (s.eval c) ⟨@vC P ⟨x⟩ Q s⟩ ⟨@vC P ⟨y⟩ Q s⟩ := rfl
theorem vC_block (id : Nat) (c : Code) (Q : QS) (s : St) : @vC P ⟨.block id c⟩ Q s = @vC P ⟨c⟩ ⟨blockQ id Q.q⟩ s := rfl
theorem vC_region (id : Nat) (l : List Oper) (Q : QS) (s : St) : @vC P ⟨.region id l.toArray false⟩ Q s = @vA P true ⟨@vQ Q .normal⟩ ⟨l⟩ ⟨l⟩ s := rfl
theorem vC_scope (c : Code) (Q : QS) (s : St) : @vC P ⟨.scope c⟩ Q s = awp P (.scope c) Q.q s := rfl
theorem vC_loop (c : Code) (Q : QS) (s : St) : @vC P ⟨.loop c⟩ Q s = awp P (.loop c) Q.q s := rfl
theorem vC_draw (id : Nat) (l : Array Oper) (Q : QS) (s : St) : @vC P ⟨.region id l true⟩ Q s = awp P (.region id l true) Q.q s := rfl
theorem vQ_then_normal (K : St → Prop) (Q : Exit → St → Prop) (s : St) : @vQ ⟨thenQ K Q⟩ .normal s = K s := rfl
theorem vQ_then_ret (K : St → Prop) (Q : Exit → St → Prop) (s : St) : @vQ ⟨thenQ K Q⟩ .ret s = @vQ ⟨Q⟩ .ret s := rfl
theorem vQ_then_exit (K : St → Prop) (Q : Exit → St → Prop) (id : Nat) (s : St) : @vQ ⟨thenQ K Q⟩ (.exit id) s = @vQ ⟨Q⟩ (.exit id) s := rfl
theorem vQ_then_goto (K : St → Prop) (Q : Exit → St → Prop) (id : Nat) (s : St) : @vQ ⟨thenQ K Q⟩ (.goto id) s = @vQ ⟨Q⟩ (.goto id) s := rfl
theorem vQ_block_normal (id : Nat) (Q : Exit → St → Prop) (s : St) : @vQ ⟨blockQ id Q⟩ .normal s = @vQ ⟨Q⟩ .normal s := rfl
theorem vQ_block_ret (id : Nat) (Q : Exit → St → Prop) (s : St) : @vQ ⟨blockQ id Q⟩ .ret s = @vQ ⟨Q⟩ .ret s := rfl
theorem vQ_block_goto (id l : Nat) (Q : Exit → St → Prop) (s : St) : @vQ ⟨blockQ id Q⟩ (.goto l) s = @vQ ⟨Q⟩ (.goto l) s := rfl
theorem vQ_block_exit (id j : Nat) (Q : Exit → St → Prop) (s : St) : @vQ ⟨blockQ id Q⟩ (.exit j) s = (if j = id then @vQ ⟨Q⟩ .normal s else @vQ ⟨Q⟩ (.exit j) s) := rfl
theorem vGuard_t {b : Bool} {A B : PR} (h1 : b = true → A.p) (h2 : b = false → B.p) : @vGuard true (.bool b) A B := ⟨h1, h2⟩
theorem vGuard_f {b : Bool} {A B : PR} (h1 : b = true → B.p) (h2 : b = false → A.p) : @vGuard false (.bool b) A B := ⟨h2, h1⟩
theorem vCond_b {b : Bool} {A B : PR} (h1 : b = true → A.p) (h2 : b = false → B.p) : @vCond (.bool b) A B := ⟨h1, h2⟩
theorem vCall_of {M : KH} {g : FuncId} {args args' : List PV} {K : KR} {r : PV} (h1 : Pure P g args' r) (h0 : PV.givableL M.m args) (he : PV.giveL M.m args = args') (h2 : K.k r M.m) : @vCall P x M (some (g, args)) K :=
 .inl ⟨h0, .inl ⟨r, by rw [he]; exact h1, h2⟩⟩
theorem vCall_sl {M : KH} {g : FuncId} {args args' : List PV} {K : KR} {r : PV} (h1 : Pure P g args' r) (hn : r.nomap = true) (h0 : PV.givableL M.m args) (he : PV.sealL M.m.o (PV.giveL M.m args) = args') (h2 : K.k r M.m) : @vCall P true M (some (g, args)) K :=
 .inl ⟨h0, .inr ⟨rfl, .inl ⟨r, by rw [he]; exact h1, hn, h2⟩⟩⟩
theorem vCall_wr {M : KH} {g : FuncId} {args : List PV} {K : KR} {A : Nat → List PV} {c c' : MapC} {r : PV} (b : Nat) (h1 : Wr P g A c r c') (h0 : PV.givableL M.m args) (he : PV.giveL M.m args = A b) (hc : M.m.o b = some c) (h2 : K.k r { M.m with o := upd M.m.o b (some c') }) : @vCall P true M (some (g, args)) K :=
 .inl ⟨h0, .inr ⟨rfl, .inr (.inl ⟨b, c, A, r, c', hc, he, h1, h2⟩)⟩⟩
theorem vCall_mk {M : KH} {g : FuncId} {args args' : List PV} {K : KR} {c : MapC} {r : Nat → PV} (h1 : Mk P g args' r c) (h0 : PV.givableL M.m args) (he : PV.giveL M.m args = args') (h2 : ∀ b, M.m.o b = none → K.k (r b) { M.m with o := upd M.m.o b (some c) }) : @vCall P true M (some (g, args)) K :=
 .inl ⟨h0, .inr ⟨rfl, .inr (.inr (.inl ⟨r, c, by rw [he]; exact h1, h2⟩))⟩⟩
theorem vCall_xt {M : KH} {g : FuncId} {args args' : List PV} {K : KR} {r : PV} (h1 : Xt P g args' r) (h0 : PV.givableL M.m args) (he : PV.giveL M.m args = args') (h2 : K.k r M.m) : @vCall P true M (some (g, args)) K :=
 .inl ⟨h0, .inr ⟨rfl, .inr (.inr (.inr (.inl ⟨r, by rw [he]; exact h1, h2⟩)))⟩⟩
theorem vCall_eff {M : KH} {g : FuncId} {args args0 : List PV} {K : KR} {m0 m1 : MemL} {r : PV} (f' g' : Nat → Nat) (h1 : Eff P g args0 m0 r m1) (hf : FitsM m0 m1 f' g' M.m) (he : PV.giveL M.m args = args0.map (PV.ren f' g')) (h2 : K.k (r.ren f' g') (layM m1 f' g' M.m)) : @vCall P true M (some (g, args)) K :=
 .inr ⟨rfl, args0, m0, r, m1, f', g', h1, hf, he, h2⟩
def vRet (P : Program) (r : PV) (s : St) : List PV → List ResultVar → Prop
 | acc, [] => (pack acc.reverse).givable s.m ∧ r = (pack acc.reverse).give s.m
 | acc, .tmp t :: rs => vRet P r s (s.fr t :: acc) rs
 | acc, .cell t ty :: rs => tkn P ty = true ∧ (aLoad P ty (s.fr t) s.m).ok ∧ vRet P r s ((aLoad P ty (s.fr t) s.m).v :: acc) rs
theorem vRet_retP {fn : Func} {r : PV} {s : St} : ∀ (rs : List ResultVar) (acc : List PV), vRet P r s acc rs →
  allOk (rs.map (resV P s)) ∧ (pack (acc.reverse ++ rs.map fun x => (resV P s x).v)).givable s.m ∧ r = (pack (acc.reverse ++ rs.map fun x => (resV P s x).v)).give s.m
 | [], acc, h => by simpa [vRet, allOk] using h
 | .tmp t :: rs, acc, h => by
  obtain ⟨h1, h2, h3⟩ := vRet_retP (fn := fn) rs _ h
  refine ⟨⟨trivial, h1⟩, ?_, ?_⟩
  ·simpa [resV] using h2
  ·simpa [resV] using h3
 | .cell t ty :: rs, acc, h => by
  obtain ⟨h0, h0', h⟩ := h
  obtain ⟨h1, h2, h3⟩ := vRet_retP (fn := fn) rs _ h
  refine ⟨⟨?_, h1⟩, ?_, ?_⟩
  ·simpa [resV, h0] using h0'
  ·simpa [resV, h0] using h2
  ·simpa [resV, h0] using h3
def vRetQ (P : Program) (rs : List ResultVar) (r : PV) : Exit → St → Prop
 | .normal, s => vRet P r s [] rs
 | .ret, s => vRet P r s [] rs
 | _, _ => False
theorem vQ_vret_ret (rs : List ResultVar) (r : PV) (s : St) : @vQ ⟨vRetQ P rs r⟩ .ret s = vRet P r s [] rs := rfl
theorem vQ_vret_normal (rs : List ResultVar) (r : PV) (s : St) : @vQ ⟨vRetQ P rs r⟩ .normal s = vRet P r s [] rs := rfl
theorem Pure.of_v {f : FuncId} {fn : Func} {c : Code} {args : List PV} {r : PV} {n : Nat} {rs : List ResultVar} (hf : P.funcs[f]? = some fn) (hname : fn.name ≠ "runtime.NumGoroutine") (hb : fn.body = some c) (hn : fn.ntmps = n) (hrs : fn.results = rs.toArray) (hl : args.length ≤ n) (hi : r.dids = [])
  (h : @vC P ⟨c⟩ ⟨vRetQ P rs r⟩ (St.init args n)) : Pure P f args r := by
 subst hn
 refine Pure.intro hf hname hb hl hi (awp_mono (fun e s hq => ?_) (vc_sound _ _ _ h))
 have key : vRet P r s [] rs → retP P fn r s := fun hv => by
  unfold retP
  rw [hrs]
  simpa using vRet_retP (fn := fn) rs [] hv
 cases e with
 | normal => exact key hq
 | ret => exact key hq
 | _ => exact hq
end
end Go.PL
namespace Go.PL
attribute [go_sem] vC_seq_skip vC_seq_ret vC_seq_exit vC_seq_goto vC_seq_seq vC_seq_cond vC_seq_block vC_seq_region vC_seq_loop vC_seq_scope vC_seq_label vC_scope vC_region vC_ret vC_cond vC_block vC_skip vC_label vC_exit vC_goto vC_loop vC_draw vA_cons vA_nil vOne_plain vOne_guard gSlot_zero gSlot_succ vQ_then_normal vQ_then_ret vQ_then_exit vQ_then_goto
 vQ_block_normal vQ_block_ret vQ_block_goto vQ_block_exit vQ_vret_ret vQ_vret_normal vGuard_tt vGuard_tf vGuard_ft vGuard_ff vGuard_tup vCond_t vCond_f vRes_mk
attribute [go_sem] vOp vcOp vcRes dstOk aop St.eval St.init initFr St.put St.with aField aFieldAddr aIndex aIndexAddr aLoad aStore splice Hp.new Hp.empty Hp.setq Hp.freeze PV.cells aBin aInt aFlt aStr aEql aEq ofVal ofAtom partPV PV.known PV.atom
 aPick aNilCheck aCpx aReal aImag aUn aConv aExtract aLen aMax aMin aBuild fillPV aBuildSlice partsOk aSlice loOf hiOf aMakeRow aMakeFull aBuiltin aAppend appended calleeOf PV.give PV.giveL PV.givable PV.givableL PV.share PV.shareL PV.clean PV.cleanL
 vRet pack frozenBy capsOk PV.ids PV.idsL eqLeaf eqLeaves ptrNil slNil mapNil ARes.fail aLookup aMapUpdate aEntry aMapLen isMapPV mapOf mapIt lookV makeX rangeX nextX PV.shut PV.sealL isVecs vmB vApp vApp1 vBld partsV appendedV vsrcOk appM entryX storeX entV entC findP putPV
attribute [go_sem ↓ high] vOp_call
attribute [go_sem] List.append_nil List.nil_append List.cons_append
@[go_sem] theorem upd_lit {α : Type} (f : Nat → α) (i j : Nat) (v : α) : upd f i v j = if i = j then v else f j := rfl
end Go.PL
namespace Go.PL
open Go.RowKit
set_option linter.unusedVariables false
structure Fp where
 rh : Bool := false
 rz : Bool := false
 rq : Bool := false
 wh : Bool := false
 wz : Bool := false
 wq : Bool := false
 nb : Bool := false
 nq : Bool := false
 ro : Bool := false
 wo : Bool := false
def fp : Op → Fp
 | .load _ _ => { rh := true }
 | .convert _ _ _ => { rh := true }
 | .store _ _ _ => { rh := true, rz := true, wh := true }
 | .alloc _ => { nb := true }
 | .box _ _ => { nb := true }
 | .makeSlice _ _ _ => { nq := true }
 | .buildSlice _ _ _ => { nq := true }
 | .makeFunc _ _ caps => if caps.isEmpty then {} else { rh := true, wz := true }
 | .lookup _ _ _ _ => { ro := true }
 | .mapUpdate _ _ _ _ => { ro := true, wo := true }
 | .entry _ => { ro := true }
 | .call { callee := .builtin b, .. } => match b with | .append => { rq := true, wq := true } | .len => { ro := true } | _ => {}
 | .call _ => { rh := true, rz := true }
 | _ => {}
def Hp.hv (m : Hp) : Ref → Option (List PV)
 | .b i => m.h i
 | .r i => m.v i
def Hp.io (m : Hp) : (Nat → Option IterC) × (Nat → Option MapC) × (Nat → Option Nat) × (Nat → Option (Nat × Nat × Nat)) × (Nat → Bool) := (m.it, m.om, m.ph, m.pq, m.vm)
theorem hv_setq (m : Hp) (d : Nat) (r : Row) (x : Ref) : (m.setq d r).hv x = m.hv x := by cases x <;> rfl
theorem hv_congr {a b : Hp} (h1 : a.h = b.h) (h2 : a.v = b.v) (x : Ref) : a.hv x = b.hv x := by cases x <;> simp [Hp.hv, h1, h2]
def refsOf (o : Oper) (ρ : Operand → PV) : List Ref := o.op.operands.toList.flatMap fun x => (ρ x).ids
def Wh (o : Oper) (ρ : Operand → PV) (r : Ref) : Prop := ((fp o.op).wh = true ∧ r ∈ refsOf o ρ) ∨ ((fp o.op).nb = true ∧ ∃ i, o.dst = some i ∧ r = .b i)
def Wz (o : Oper) (ρ : Operand → PV) (i : Nat) : Prop := ((fp o.op).wz = true ∧ .b i ∈ refsOf o ρ) ∨ ((fp o.op).nb = true ∧ o.dst = some i)
def Wq (o : Oper) (ρ : Operand → PV) (i : Nat) : Prop := ((fp o.op).wq = true ∧ (.r i ∈ refsOf o ρ ∨ o.dst = some i)) ∨ ((fp o.op).nq = true ∧ o.dst = some i)
structure Foot (P : Program) (o : Oper) (ρ : Operand → PV) (m : Hp) (v : PV) (m' : Hp) : Prop where
 h1 : ∀ r, ¬ Wh o ρ r → m'.hv r = m.hv r
 z1 : ∀ i, ¬ Wz o ρ i → m'.z i = m.z i
 q1 : ∀ i, ¬ Wq o ρ i → m'.q i = m.q i
 hn : (fp o.op).nb = true → ∀ i, o.dst = some i → m.h i = none
 qn : (fp o.op).nq = true → ∀ i, o.dst = some i → m.q i = none
 hl : ∀ i, m.h i ≠ none → m'.h i ≠ none
 ql : ∀ i, m.q i ≠ none → m'.q i ≠ none
 o1 : (fp o.op).wo = false → m'.o = m.o
 i1 : m'.io = m.io
 re : ∀ m2 : Hp, ((fp o.op).rh = true → ∀ r, r ∈ refsOf o ρ → m2.hv r = m.hv r) → ((fp o.op).rz = true → ∀ i, .b i ∈ refsOf o ρ → m2.z i = m.z i) →
  ((fp o.op).rq = true → ∀ i, (.r i ∈ refsOf o ρ ∨ o.dst = some i) → m2.q i = m.q i) → ((fp o.op).nb = true → ∀ i, o.dst = some i → m2.h i = none) → ((fp o.op).nq = true → ∀ i, o.dst = some i → m2.q i = none) →
  ((fp o.op).ro = true → m2.o = m.o) → m2.io = m.io →
  ∃ m2', StepM P o ρ m2 v m2' ∧ (∀ r, (Wh o ρ r → m2'.hv r = m'.hv r) ∧ (¬ Wh o ρ r → m2'.hv r = m2.hv r)) ∧ (∀ i, (Wz o ρ i → m2'.z i = m'.z i) ∧ (¬ Wz o ρ i → m2'.z i = m2.z i)) ∧
   (∀ i, (Wq o ρ i → m2'.q i = m'.q i) ∧ (¬ Wq o ρ i → m2'.q i = m2.q i)) ∧ (((fp o.op).wo = true → m2'.o = m'.o) ∧ ((fp o.op).wo = false → m2'.o = m2.o)) ∧ m2'.io = m2.io
def NoMem (f : Hp → ARes) : Prop := ∀ m m2, (f m).ok → (f m).m = m ∧ (f m2).ok ∧ (f m2).v = (f m).v ∧ (f m2).m = m2
section
variable {P : Program}
theorem noMem_const {ok : Prop} {v : PV} : NoMem fun m => ⟨ok, v, m⟩ := fun m m2 h => ⟨rfl, h, rfl, rfl⟩
theorem noMem_fail : NoMem fun _ => ARes.fail := fun m m2 h => h.elim
theorem noMem_pick {c x y : PV} : NoMem (aPick c x y) := fun m m2 h => by
 revert h; unfold aPick; split
 ·exact noMem_const m m2
 ·exact noMem_const m m2
 ·exact noMem_fail m m2
theorem noMem_field {t : TypeId} {x : PV} {f : Nat} : NoMem (aField P t x f) := fun m m2 h => by
 revert h; unfold aField; split
 ·exact noMem_const m m2
 ·exact noMem_fail m m2
theorem noMem_fieldAddr {t : TypeId} {x : PV} {f : Nat} : NoMem (aFieldAddr P t x f) := fun m m2 h => by
 revert h; unfold aFieldAddr; split <;> first | exact noMem_const m m2 | exact noMem_fail m m2
theorem noMem_index {t : TypeId} {x y : PV} : NoMem (aIndex P t x y) := fun m m2 h => by
 revert h; unfold aIndex; split <;> first | exact noMem_const m m2 | exact noMem_fail m m2
theorem noMem_indexAddr {t : TypeId} {x y : PV} : NoMem (aIndexAddr P t x y) := fun m m2 h => by
 revert h; unfold aIndexAddr; split <;> first | exact noMem_const m m2 | exact noMem_fail m m2
theorem noMem_int {op : BinOp} {k k' : IntKind} {x y : Int} : NoMem (aInt op k k' x y) := fun m m2 h => by
 revert h; unfold aInt; split <;> first | exact noMem_const m m2 | exact noMem_fail m m2
theorem noMem_str {op : BinOp} {x y : List UInt8} : NoMem (aStr op x y) := fun m m2 h => by
 revert h; unfold aStr; split <;> first | exact noMem_const m m2 | exact noMem_fail m m2
theorem noMem_flt {op : BinOp} {k k' : FloatKind} {x y : Nat} : NoMem (aFlt op k k' x y) := fun m m2 h => by
 revert h; unfold aFlt; split <;> first | exact noMem_const m m2 | exact noMem_fail m m2
theorem noMem_eq {b : Bool} {r : Option Bool} : NoMem (aEq b r) := fun m m2 h => by
 revert h; unfold aEq; split <;> first | exact noMem_const m m2 | exact noMem_fail m m2
theorem noMem_eql {b : Bool} {t : TypeId} {x y : PV} : NoMem (aEql P b t x y) := fun m m2 h => by
 revert h; unfold aEql
 split
 ·split <;> first | exact noMem_eq m m2 | exact noMem_fail m m2
 ·split <;> first | exact noMem_eq m m2 | exact noMem_fail m m2
 ·split <;> first | exact noMem_eq m m2 | exact noMem_fail m m2
theorem noMem_bin {op : BinOp} {t : TypeId} {x y : PV} : NoMem (aBin P op t x y) := fun m m2 h => by
 revert h; unfold aBin
 split
 ·exact noMem_int m m2
 ·exact noMem_str m m2
 ·exact noMem_flt m m2
 ·split <;> first | exact noMem_eql m m2 | exact noMem_fail m m2
theorem noMem_un {op : UnOp} {x : PV} : NoMem (aUn op x) := fun m m2 h => by
 revert h; unfold aUn; split <;> first | exact noMem_const m m2 | exact noMem_fail m m2
theorem noMem_cpx {x y : PV} : NoMem (aCpx x y) := fun m m2 h => by
 revert h; unfold aCpx; split <;> first | exact noMem_const m m2 | exact noMem_fail m m2
theorem noMem_real {x : PV} : NoMem (aReal x) := fun m m2 h => by
 revert h; unfold aReal; split <;> first | exact noMem_const m m2 | exact noMem_fail m m2
theorem noMem_imag {x : PV} : NoMem (aImag x) := fun m m2 h => by
 revert h; unfold aImag; split <;> first | exact noMem_const m m2 | exact noMem_fail m m2
theorem conv_m {a b : TypeId} {x : PV} {m : Hp} (h : (aConv P a b x m).ok) : (aConv P a b x m).m = m := by
 revert h
 unfold aConv
 split
 ·exact fun _ => rfl
 ·exact fun _ => rfl
 ·split
  ·exact fun _ => rfl
  ·exact fun h => h.elim
 ·exact fun _ => rfl
 ·split
  ·exact fun _ => rfl
  ·exact fun h => h.elim
 ·split
  ·split
   ·exact fun _ => rfl
   ·exact fun h => h.elim
  ·exact fun h => h.elim
 ·exact fun h => h.elim
theorem conv_congr {a b : TypeId} {x : PV} {m m2 : Hp} (hm : ∀ i, .b i ∈ x.ids → m2.h i = m.h i) (h : (aConv P a b x m).ok) : (aConv P a b x m2).ok ∧ (aConv P a b x m2).v = (aConv P a b x m).v ∧ (aConv P a b x m2).m = m2 := by
 revert h
 unfold aConv
 split
 ·exact fun _ => ⟨trivial, rfl, rfl⟩
 ·exact fun _ => ⟨trivial, rfl, rfl⟩
 ·split
  ·exact fun h => ⟨h, rfl, rfl⟩
  ·exact fun h => h.elim
 ·exact fun _ => ⟨trivial, rfl, rfl⟩
 ·split
  ·exact fun _ => ⟨trivial, rfl, rfl⟩
  ·exact fun h => h.elim
 ·rename_i id off len sz _
  have e := hm id (by simp [PV.ids])
  simp only [e]
  split
  ·split
   ·exact fun h => ⟨h, rfl, rfl⟩
   ·exact fun h => h.elim
  ·exact fun h => h.elim
 ·exact fun h => h.elim
theorem noMem_extract {x : PV} {i : Nat} : NoMem (aExtract x i) := fun m m2 h => by
 revert h; unfold aExtract; split <;> first | exact noMem_const m m2 | exact noMem_fail m m2
theorem noMem_nilCheck {x : PV} : NoMem (aNilCheck x) := fun m m2 h => by
 revert h; unfold aNilCheck; split <;> first | exact noMem_const m m2 | exact noMem_fail m m2
theorem noMem_len {t : TypeId} {x : PV} : NoMem (aLen P t x) := fun m m2 h => by
 revert h; unfold aLen; split <;> first | exact noMem_const m m2 | exact noMem_fail m m2
theorem noMem_max {x y : PV} : NoMem (aMax x y) := fun m m2 h => by
 revert h; unfold aMax; split <;> first | exact noMem_const m m2 | exact noMem_fail m m2
theorem noMem_min {x y : PV} : NoMem (aMin x y) := fun m m2 h => by
 revert h; unfold aMin; split <;> first | exact noMem_const m m2 | exact noMem_fail m m2
theorem noMem_build {t : TypeId} {l : List (Nat × PV)} : NoMem (aBuild P t l) := fun m m2 h => by
 revert h; unfold aBuild
 split
 ·split <;> first | exact noMem_const m m2 | exact noMem_fail m m2
 ·split <;> first | exact noMem_const m m2 | exact noMem_fail m m2
 ·exact noMem_fail m m2
theorem noMem_slice {t : TypeId} {x : PV} {lo hi : Option PV} : NoMem (aSlice P t x lo hi) := fun m m2 h => by
 revert h; unfold aSlice
 split
 ·split <;> first | exact noMem_const m m2 | exact noMem_fail m m2
 ·split <;> first | exact noMem_const m m2 | exact noMem_fail m m2
 ·split <;> first | exact noMem_const m m2 | exact noMem_fail m m2
 ·split <;> first | exact noMem_const m m2 | exact noMem_fail m m2
 ·exact noMem_fail m m2
theorem Foot.noMem {o : Oper} {ρ : Operand → PV} {m : Hp} (hn : NoMem (aop P o ρ)) (hf1 : (fp o.op).nb = false) (hf2 : (fp o.op).nq = false) (hf3 : (fp o.op).wh = false) (hf4 : (fp o.op).wz = false) (hf5 : (fp o.op).wq = false) (hf6 : (fp o.op).wo = false) (hok : (aop P o ρ m).ok) :
  Foot P o ρ m (aop P o ρ m).v (aop P o ρ m).m := by
 obtain ⟨e, _⟩ := hn m m hok
 rw [e]
 refine ⟨fun _ _ => rfl, fun _ _ => rfl, fun _ _ => rfl, fun h => (by rw [hf1] at h; cases h), fun h => (by rw [hf2] at h; cases h), fun _ h => h, fun _ h => h, fun _ => rfl, rfl, fun m2 _ _ _ _ _ _ _ => ?_⟩
 obtain ⟨_, g1, g2, g3⟩ := hn m m2 hok
 refine ⟨m2, .inl ⟨g1, g2.symm, g3.symm⟩, fun i => ⟨fun h => ?_, fun _ => rfl⟩, fun i => ⟨fun h => ?_, fun _ => rfl⟩, fun i => ⟨fun h => ?_, fun _ => rfl⟩, ⟨fun h => (by rw [hf6] at h; cases h), fun _ => rfl⟩, rfl⟩
 ·simp [Wh, hf1, hf3] at h
 ·simp [Wz, hf1, hf4] at h
 ·simp [Wq, hf2, hf5] at h
theorem Foot.newB {o : Oper} {ρ : Operand → PV} {m : Hp} {d : Nat} {v : PV} {cs : List PV} {ok : Prop} (hd : o.dst = some d) (hop : ∀ m : Hp, aop P o ρ m = ⟨m.h d = none ∧ ok, v, m.new d cs⟩)
  (hf : fp o.op = { nb := true }) (hok : (aop P o ρ m).ok) : Foot P o ρ m (aop P o ρ m).v (aop P o ρ m).m := by
 rw [hop] at hok ⊢
 simp only at hok ⊢
 have W1 : ∀ r, Wh o ρ r ↔ r = .b d := fun r => by simp [Wh, hf, hd]
 have W2 : ∀ i, Wz o ρ i ↔ i = d := fun i => by simp [Wz, hf, hd, eq_comm]
 have W3 : ∀ i, ¬ Wq o ρ i := fun i => by simp [Wq, hf]
 have n0 : ∀ (m : Hp) i, i ≠ d → (m.new d cs).h i = m.h i := fun m i h => upd_ne _ _ (Ne.symm h)
 have n1 : ∀ (m : Hp) r, r ≠ .b d → (m.new d cs).hv r = m.hv r := fun m r h => by cases r with | b i => exact n0 m i (fun e => h (by rw [e])) | r i => rfl
 have n2 : ∀ (m : Hp) i, i ≠ d → (m.new d cs).z i = m.z i := fun m i h => upd_ne _ _ (Ne.symm h)
 have n3' : ∀ (m : Hp), (m.new d cs).h d = some cs := fun m => upd_same _ _ _
 have n3 : ∀ (m : Hp), (m.new d cs).hv (.b d) = some cs := fun m => upd_same _ _ _
 have n4 : ∀ (m : Hp), (m.new d cs).z d = false := fun m => upd_same _ _ _
 refine ⟨fun i h => n1 m i (fun e => h ((W1 i).2 e)), fun i h => n2 m i (fun e => h ((W2 i).2 e)), fun _ _ => rfl, fun _ i hi => ?_, fun h => ?_, fun i h => ?_, fun _ h => h, fun _ => rfl, rfl, fun m2 _ _ _ h4 _ _ _ => ?_⟩
 ·rw [hd] at hi; cases hi; exact hok.1
 ·rw [hf] at h; cases h
 ·by_cases e : i = d
  ·subst e; rw [n3']; simp
  ·rw [n0 m i e]; exact h
 ·refine ⟨m2.new d cs, .inl ?_, fun i => ⟨fun h => ?_, fun h => n1 m2 i (fun e => h ((W1 i).2 e))⟩, fun i => ⟨fun h => ?_, fun h => n2 m2 i (fun e => h ((W2 i).2 e))⟩, fun i => ⟨fun h => absurd h (W3 i), fun _ => rfl⟩, ⟨fun h => (by rw [hf] at h; cases h), fun _ => rfl⟩, rfl⟩
  ·rw [hop]; exact ⟨⟨h4 (by rw [hf]) d hd, hok.2⟩, rfl, rfl⟩
  ·obtain rfl := (W1 i).1 h; rw [n3, n3]
  ·obtain rfl := (W2 i).1 h; rw [n4, n4]
theorem Foot.newQ {o : Oper} {ρ : Operand → PV} {m : Hp} {d : Nat} {v : PV} {r : Row} {ok : Prop} (hd : o.dst = some d) (hop : ∀ m : Hp, aop P o ρ m = ⟨m.q d = none ∧ ok, v, m.setq d r⟩)
  (hf : fp o.op = { nq := true }) (hok : (aop P o ρ m).ok) : Foot P o ρ m (aop P o ρ m).v (aop P o ρ m).m := by
 rw [hop] at hok ⊢
 simp only at hok ⊢
 have W1 : ∀ i, ¬ Wh o ρ i := fun i => by simp [Wh, hf]
 have W2 : ∀ i, ¬ Wz o ρ i := fun i => by simp [Wz, hf]
 have W3 : ∀ i, Wq o ρ i ↔ i = d := fun i => by simp [Wq, hf, hd, eq_comm]
 have n1 : ∀ (m : Hp) i, i ≠ d → (m.setq d r).q i = m.q i := fun m i h => upd_ne _ _ (Ne.symm h)
 have n3 : ∀ (m : Hp), (m.setq d r).q d = some r := fun m => upd_same _ _ _
 refine ⟨fun x _ => hv_setq _ _ _ x, fun _ _ => rfl, fun i h => n1 m i (fun e => h ((W3 i).2 e)), fun h => ?_, fun _ i hi => ?_, fun _ h => h, fun i h => ?_, fun _ => rfl, rfl, fun m2 _ _ _ _ h5 _ _ => ?_⟩
 ·rw [hf] at h; cases h
 ·rw [hd] at hi; cases hi; exact hok.1
 ·by_cases e : i = d
  ·subst e; rw [n3]; simp
  ·rw [n1 m i e]; exact h
 ·refine ⟨m2.setq d r, .inl ?_, fun i => ⟨fun h => absurd h (W1 i), fun _ => hv_setq _ _ _ i⟩, fun i => ⟨fun h => absurd h (W2 i), fun _ => rfl⟩, fun i => ⟨fun h => ?_, fun h => n1 m2 i (fun e => h ((W3 i).2 e))⟩, ⟨fun h => (by rw [hf] at h; cases h), fun _ => rfl⟩, rfl⟩
  ·rw [hop]; exact ⟨⟨h5 (by rw [hf]) d hd, hok.2⟩, rfl, rfl⟩
  ·obtain rfl := (W3 i).1 h; rw [n3, n3]
end
end Go.PL
namespace Go.PL
open Go.RowKit
set_option linter.unusedVariables false
section
variable {P : Program}
mutual
theorem give_congr {m m2 : Hp} : ∀ (p : PV), (∀ i, .b i ∈ p.ids → m2.h i = m.h i ∧ m2.z i = m.z i) → p.give m2 = p.give m ∧ (p.givable m → p.givable m2)
 | .ptr id off, h => by
  obtain ⟨h1, h2⟩ := h id (by simp [PV.ids])
  simp [PV.give, PV.givable, h1, h2]
 | .osl _ _ _ _, _ => by simp [PV.give, PV.givable]
 | .agg cs, h => by
  obtain ⟨h1, h2⟩ := give_congrL cs (fun i hi => h i (by simpa [PV.ids] using hi))
  simp only [PV.give, PV.givable, h1]
  exact ⟨trivial, h2⟩
 | .tup cs, h => by
  obtain ⟨h1, h2⟩ := give_congrL cs (fun i hi => h i (by simpa [PV.ids] using hi))
  simp only [PV.give, PV.givable, h1]
  exact ⟨trivial, h2⟩
 | .fn f cs, h => by
  obtain ⟨h1, h2⟩ := give_congrL cs (fun i hi => h i (by simpa [PV.ids] using hi))
  simp only [PV.give, PV.givable, h1]
  exact ⟨trivial, h2⟩
 | .any, _ => by simp [PV.give, PV.givable]
 | .int _ _, _ => by simp [PV.give, PV.givable]
 | .bool _, _ => by simp [PV.give, PV.givable]
 | .str _, _ => by simp [PV.give, PV.givable]
 | .flt _ _, _ => by simp [PV.give, PV.givable]
 | .cpx _ _ _, _ => by simp [PV.give, PV.givable]
 | .sl _ _, _ => by simp [PV.give, PV.givable]
 | .rptr _, _ => by simp [PV.give, PV.givable]
 | .nilp, _ => by simp [PV.give, PV.givable]
 | .nilfn, _ => by simp [PV.give, PV.givable]
 | .nilmap, _ => by simp [PV.give, PV.givable]
 | .mref _, _ => by simp [PV.give, PV.givable]
 | .iptr _, _ => by simp [PV.give, PV.givable]
 | .rmap _ _, _ => by simp [PV.give, PV.givable]
 | .vsl _ _ _, _ => by simp [PV.give, PV.givable]
 | .vptr _ _ _ _ _, _ => by simp [PV.give, PV.givable]
theorem give_congrL {m m2 : Hp} : ∀ (cs : List PV), (∀ i, .b i ∈ PV.idsL cs → m2.h i = m.h i ∧ m2.z i = m.z i) → PV.giveL m2 cs = PV.giveL m cs ∧ (PV.givableL m cs → PV.givableL m2 cs)
 | [], _ => by simp [PV.giveL, PV.givableL]
 | c :: cs, h => by
  obtain ⟨h1, h2⟩ := give_congr c (fun i hi => h i (by simp [PV.idsL, hi]))
  obtain ⟨h3, h4⟩ := give_congrL cs (fun i hi => h i (by simp [PV.idsL, hi]))
  simp only [PV.giveL, PV.givableL, h1, h3]
  exact ⟨trivial, fun h => ⟨h2 h.1, h4 h.2⟩⟩
end
theorem foot_call {o : Oper} {ρ : Operand → PV} {m : Hp} {v : PV} {c : Call} {g : FuncId} {args : List PV} (ho : o.op = .call c) (hc : calleeOf ρ c = some (g, args)) (hg : PV.givableL m args) (hp : Pure P g (PV.giveL m args) v) : Foot P o ρ m v m := by
 have hval : ∃ f, c.callee = .value f ∧ ∃ caps, ρ f = .fn g caps ∧ args = c.args.toList.map ρ ++ caps := by
  unfold calleeOf at hc
  split at hc
  ·rename_i f hf
   split at hc
   ·rename_i g' caps hcap
    simp only [Option.some.injEq, Prod.mk.injEq] at hc
    obtain ⟨rfl, rfl⟩ := hc
    exact ⟨f, hf, caps, hcap, rfl⟩
   ·cases hc
  ·cases hc
 obtain ⟨f, hf, caps, hcap, rfl⟩ := hval
 obtain ⟨callee, cargs, ts⟩ := c
 simp only at hf
 subst hf
 have hfp : fp o.op = { rh := true, rz := true } := by rw [ho]; rfl
 have W1 : ∀ i, ¬ Wh o ρ i := fun i => by simp [Wh, hfp]
 have W2 : ∀ i, ¬ Wz o ρ i := fun i => by simp [Wz, hfp]
 have W3 : ∀ i, ¬ Wq o ρ i := fun i => by simp [Wq, hfp]
 refine ⟨fun _ _ => rfl, fun _ _ => rfl, fun _ _ => rfl, fun h => (by rw [hfp] at h; cases h), fun h => (by rw [hfp] at h; cases h), fun _ h => h, fun _ h => h, fun _ => rfl, rfl, fun m2 a1 a2 _ _ _ _ _ => ?_⟩
 have hrefs : ∀ i, .b i ∈ PV.idsL (cargs.toList.map ρ ++ caps) → .b i ∈ refsOf o ρ := fun i hi => by
  unfold refsOf
  rw [ho]
  obtain ⟨x, hx, hix⟩ := PV.mem_idsL.1 hi
  rw [List.mem_flatMap]
  rcases List.mem_append.1 hx with hx | hx
  ·obtain ⟨y, hy, rfl⟩ := List.mem_map.1 hx
   exact ⟨y, by simp only [Op.operands, Call.operands]; simp; right; simpa using hy, hix⟩
  ·exact ⟨f, by simp [Op.operands, Call.operands], by rw [hcap]; exact PV.mem_idsL.2 ⟨x, hx, hix⟩⟩
 obtain ⟨g1, g2⟩ := give_congrL (m := m) (m2 := m2) (cargs.toList.map ρ ++ caps) (fun i hi => ⟨a1 (by rw [hfp]) (.b i) (hrefs i hi), a2 (by rw [hfp]) i (hrefs i hi)⟩)
 refine ⟨m2, .inr ⟨_, g, _, ho, hc, g2 hg, by rw [g1]; exact hp, rfl⟩, fun i => ⟨fun h => absurd h (W1 i), fun _ => rfl⟩, fun i => ⟨fun h => absurd h (W2 i), fun _ => rfl⟩, fun i => ⟨fun h => absurd h (W3 i), fun _ => rfl⟩, ⟨fun h => (by rw [hfp] at h; cases h), fun _ => rfl⟩, rfl⟩
theorem foot_load {o : Oper} {ρ : Operand → PV} {m : Hp} {t : TypeId} {x : Operand} (ho : o.op = .load t x) (hok : (aop P o ρ m).ok) : Foot P o ρ m (aop P o ρ m).v (aop P o ρ m).m := by
 have hfp : fp o.op = { rh := true } := by rw [ho]; rfl
 have W1 : ∀ i, ¬ Wh o ρ i := fun i => by simp [Wh, hfp]
 have W2 : ∀ i, ¬ Wz o ρ i := fun i => by simp [Wz, hfp]
 have W3 : ∀ i, ¬ Wq o ρ i := fun i => by simp [Wq, hfp]
 have hop : ∀ m, aop P o ρ m = if tkn P t then aLoad P t (ρ x) m else .fail := fun m => by unfold aop; rw [ho]
 have hrefs : ∀ r, r ∈ (ρ x).ids → r ∈ refsOf o ρ := fun i hi => by
  unfold refsOf; rw [ho]; exact List.mem_flatMap.2 ⟨x, by simp [Op.operands], hi⟩
 have key : ∀ m2 : Hp, (∀ r, r ∈ (ρ x).ids → m2.hv r = m.hv r) → (aop P o ρ m).m = m ∧ (aop P o ρ m2).ok ∧ (aop P o ρ m2).v = (aop P o ρ m).v ∧ (aop P o ρ m2).m = m2 := by
  intro m2 h2
  rw [hop] at hok ⊢
  rw [hop]
  split at hok
  ·rename_i hk
   simp only [hk, if_true]
   revert hok
   unfold aLoad
   cases hx : ρ x with
   | rptr cs => exact fun h => ⟨rfl, h, rfl, rfl⟩
   | ptr id off =>
    have : m2.h id = m.h id := h2 (.b id) (by rw [hx]; simp [PV.ids])
    simp only [this]
    cases m.h id with
    | none => exact fun h => h.elim
    | some cs => exact fun h => ⟨rfl, h, rfl, rfl⟩
   | vptr id n z i off =>
    have : m2.v id = m.v id := h2 (.r id) (by rw [hx]; simp [PV.ids])
    simp only [this]
    cases m.v id with
    | none => exact fun h => h.elim
    | some es => exact fun h => ⟨rfl, h, rfl, rfl⟩
   | _ => exact fun h => h.elim
  ·exact hok.elim
 obtain ⟨e, _⟩ := key m (fun _ _ => rfl)
 rw [e]
 refine ⟨fun _ _ => rfl, fun _ _ => rfl, fun _ _ => rfl, fun h => (by rw [hfp] at h; cases h), fun h => (by rw [hfp] at h; cases h), fun _ h => h, fun _ h => h, fun _ => rfl, rfl, fun m2 a1 _ _ _ _ _ _ => ?_⟩
 obtain ⟨_, g1, g2, g3⟩ := key m2 (fun i hi => a1 (by rw [hfp]) i (hrefs i hi))
 exact ⟨m2, .inl ⟨g1, g2.symm, g3.symm⟩, fun i => ⟨fun h => absurd h (W1 i), fun _ => rfl⟩, fun i => ⟨fun h => absurd h (W2 i), fun _ => rfl⟩, fun i => ⟨fun h => absurd h (W3 i), fun _ => rfl⟩, ⟨fun h => (by rw [hfp] at h; cases h), fun _ => rfl⟩, rfl⟩
theorem foot_conv {o : Oper} {ρ : Operand → PV} {m : Hp} {t u : TypeId} {x : Operand} (ho : o.op = .convert t u x) (hok : (aop P o ρ m).ok) : Foot P o ρ m (aop P o ρ m).v (aop P o ρ m).m := by
 have hfp : fp o.op = { rh := true } := by rw [ho]; rfl
 have W1 : ∀ i, ¬ Wh o ρ i := fun i => by simp [Wh, hfp]
 have W2 : ∀ i, ¬ Wz o ρ i := fun i => by simp [Wz, hfp]
 have W3 : ∀ i, ¬ Wq o ρ i := fun i => by simp [Wq, hfp]
 have hop : ∀ m, aop P o ρ m = aConv P t u (ρ x) m := fun m => by unfold aop; rw [ho]
 have hrefs : ∀ i, .b i ∈ (ρ x).ids → .b i ∈ refsOf o ρ := fun i hi => by
  unfold refsOf; rw [ho]; exact List.mem_flatMap.2 ⟨x, by simp [Op.operands], hi⟩
 have e : (aop P o ρ m).m = m := by rw [hop] at hok ⊢; exact conv_m hok
 rw [e]
 refine ⟨fun _ _ => rfl, fun _ _ => rfl, fun _ _ => rfl, fun h => (by rw [hfp] at h; cases h), fun h => (by rw [hfp] at h; cases h), fun _ h => h, fun _ h => h, fun _ => rfl, rfl, fun m2 a1 _ _ _ _ _ _ => ?_⟩
 have hok' : (aConv P t u (ρ x) m).ok := by rw [← hop]; exact hok
 obtain ⟨g1, g2, g3⟩ := conv_congr (m2 := m2) (fun i hi => a1 (by rw [hfp]) (.b i) (hrefs i hi)) hok'
 exact ⟨m2, .inl ⟨by rw [hop]; exact g1, by rw [hop, hop]; exact g2.symm, by rw [hop]; exact g3.symm⟩, fun i => ⟨fun h => absurd h (W1 i), fun _ => rfl⟩, fun i => ⟨fun h => absurd h (W2 i), fun _ => rfl⟩, fun i => ⟨fun h => absurd h (W3 i), fun _ => rfl⟩, ⟨fun h => (by rw [hfp] at h; cases h), fun _ => rfl⟩, rfl⟩
theorem foot_store {o : Oper} {ρ : Operand → PV} {m : Hp} {t : TypeId} {x y : Operand} (ho : o.op = .store t x y) (hok : (aop P o ρ m).ok) : Foot P o ρ m (aop P o ρ m).v (aop P o ρ m).m := by
 have hfp : fp o.op = { rh := true, rz := true, wh := true } := by rw [ho]; rfl
 have W2 : ∀ i, ¬ Wz o ρ i := fun i => by simp [Wz, hfp]
 have W3 : ∀ i, ¬ Wq o ρ i := fun i => by simp [Wq, hfp]
 have hop : ∀ m, aop P o ρ m = if tkn P t then aStore P t (ρ x) (ρ y) m else .fail := fun m => by unfold aop; rw [ho]
 have hrefs : ∀ r, r ∈ (ρ x).ids → r ∈ refsOf o ρ := fun i hi => by
  unfold refsOf; rw [ho]; exact List.mem_flatMap.2 ⟨x, by simp [Op.operands], hi⟩
 have W1 : ∀ r, Wh o ρ r ↔ r ∈ refsOf o ρ := fun i => by simp [Wh, hfp]
 rw [hop] at hok ⊢
 split at hok
 ·rename_i hk
  simp only [hk, if_true]
  revert hok
  unfold aStore
  cases hx : ρ x with
  | ptr id off =>
   simp only
   cases hid : m.h id with
   | none => exact fun h => h.elim
   | some cs =>
    rintro ⟨g0, g1, g2, g3, g4⟩
    have hin : .b id ∈ refsOf o ρ := hrefs (.b id) (by rw [hx]; simp [PV.ids])
    have n0 : ∀ (m : Hp) i, i ≠ id → (upd m.h id (some (splice cs off (ρ y).cells))) i = m.h i := fun m i h => upd_ne _ _ (Ne.symm h)
    have n1 : ∀ (m : Hp) r, r ≠ .b id → ({ m with h := upd m.h id (some (splice cs off (ρ y).cells)) } : Hp).hv r = m.hv r := fun m r h => by cases r with | b i => exact n0 m i (fun e => h (by rw [e])) | r i => rfl
    refine ⟨fun i h => n1 m i (fun e => h ((W1 i).2 (e ▸ hin))), fun _ _ => rfl, fun _ _ => rfl, fun h => (by rw [hfp] at h; cases h), fun h => (by rw [hfp] at h; cases h), fun i h => ?_, fun _ h => h, fun _ => rfl, rfl, fun m2 a1 a2 _ _ _ _ _ => ?_⟩
    ·show upd m.h id _ i ≠ none
     by_cases e : i = id
     ·subst e; rw [upd_same]; simp
     ·rw [n0 m i e]; exact h
    ·have hid2 : m2.h id = some cs := (a1 (by rw [hfp]) (.b id) hin).trans hid
     have hz2 := (a2 (by rw [hfp]) id hin).trans g0
     refine ⟨{ m2 with h := upd m2.h id (some (splice cs off (ρ y).cells)) }, .inl ?_, fun i => ⟨fun h => ?_, fun h => n1 m2 i (fun e => h ((W1 i).2 (e ▸ hin)))⟩, fun i => ⟨fun h => absurd h (W2 i), fun _ => rfl⟩, fun i => ⟨fun h => absurd h (W3 i), fun _ => rfl⟩, ⟨fun h => (by rw [hfp] at h; cases h), fun _ => rfl⟩, rfl⟩
     ·rw [hop]
      simp only [hk, if_true, aStore, hx, hid2]
      exact ⟨⟨hz2, g1, g2, g3, g4⟩, trivial, trivial⟩
     ·by_cases e : i = .b id
      ·subst e
       show upd m2.h id _ id = upd m.h id _ id
       rw [upd_same, upd_same]
      ·rw [n1 m2 i e, n1 m i e]; exact a1 (by rw [hfp]) i ((W1 i).1 h)
  | vptr id n z k off =>
   simp only
   cases hid : m.v id with
   | none => exact fun h => h.elim
   | some es =>
    intro g0
    have hin : .r id ∈ refsOf o ρ := hrefs (.r id) (by rw [hx]; simp [PV.ids])
    have n1 : ∀ (m : Hp) (x : List PV) r, r ≠ .r id → ({ m with v := upd m.v id (some x) } : Hp).hv r = m.hv r := fun m x r h => by cases r with | r i => exact upd_ne _ _ (fun e => h (by rw [e])) | b i => rfl
    refine ⟨fun i h => n1 m _ i (fun e => h ((W1 i).2 (e ▸ hin))), fun _ _ => rfl, fun _ _ => rfl, fun h => (by rw [hfp] at h; cases h), fun h => (by rw [hfp] at h; cases h), fun i h => h, fun _ h => h, fun _ => rfl, rfl, fun m2 a1 a2 _ _ _ _ _ => ?_⟩
    have hid2 : m2.v id = some es := (a1 (by rw [hfp]) (.r id) hin).trans hid
    refine ⟨{ m2 with v := upd m2.v id (some (es.set k (putPV (es.getD k .any) off (ρ y)))) }, .inl ?_, fun i => ⟨fun h => ?_, fun h => n1 m2 _ i (fun e => h ((W1 i).2 (e ▸ hin)))⟩, fun i => ⟨fun h => absurd h (W2 i), fun _ => rfl⟩, fun i => ⟨fun h => absurd h (W3 i), fun _ => rfl⟩, ⟨fun h => (by rw [hfp] at h; cases h), fun _ => rfl⟩, rfl⟩
    ·rw [hop]
     simp only [hk, if_true, aStore, hx, hid2]
     exact ⟨g0, trivial, trivial⟩
    ·by_cases e : i = .r id
     ·subst e
      show upd m2.v id _ id = upd m.v id _ id
      rw [upd_same, upd_same]
     ·rw [n1 m2 _ i e, n1 m _ i e]; exact a1 (by rw [hfp]) i ((W1 i).1 h)
  | _ => exact fun h => h.elim
 ·exact hok.elim
theorem frozenBy_o (m : Hp) : ∀ cs, (frozenBy m cs).o = m.o
 | [] => rfl
 | c :: cs => by
  cases c <;> first | exact frozenBy_o m cs | exact frozenBy_o (m.freeze _) cs
theorem frozenBy_it (m : Hp) : ∀ cs, (frozenBy m cs).it = m.it
 | [] => rfl
 | c :: cs => by
  cases c <;> first | exact frozenBy_it m cs | exact frozenBy_it (m.freeze _) cs
theorem frozenBy_om (m : Hp) : ∀ cs, (frozenBy m cs).om = m.om
 | [] => rfl
 | c :: cs => by
  cases c <;> first | exact frozenBy_om m cs | exact frozenBy_om (m.freeze _) cs
theorem frozenBy_v (m : Hp) : ∀ cs, (frozenBy m cs).v = m.v
 | [] => rfl
 | c :: cs => by
  cases c <;> first | exact frozenBy_v m cs | exact frozenBy_v (m.freeze _) cs
theorem frozenBy_hv (m : Hp) (cs : List PV) (x : Ref) : (frozenBy m cs).hv x = m.hv x := hv_congr (frozenBy_h m cs) (frozenBy_v m cs) x
theorem frozenBy_ph (m : Hp) : ∀ cs, (frozenBy m cs).ph = m.ph ∧ (frozenBy m cs).pq = m.pq ∧ (frozenBy m cs).vm = m.vm
 | [] => ⟨rfl, rfl, rfl⟩
 | c :: cs => by
  cases c <;> first | exact frozenBy_ph m cs | exact frozenBy_ph (m.freeze _) cs
theorem frozenBy_io (m : Hp) (cs : List PV) : (frozenBy m cs).io = m.io := by unfold Hp.io; rw [frozenBy_it, frozenBy_om, (frozenBy_ph m cs).1, (frozenBy_ph m cs).2.1, (frozenBy_ph m cs).2.2]
theorem frozenBy_z1 (m : Hp) : ∀ (cs : List PV) (i : Nat), m.z i = true → (frozenBy m cs).z i = true
 | [], i, h => h
 | c :: cs, i, h => by
  cases c with
  | ptr id off =>
   refine frozenBy_z1 (m.freeze id) cs i ?_
   show upd m.z id true i = true
   by_cases e : id = i
   ·subst e; exact upd_same _ _ _
   ·rw [upd_ne _ _ e]; exact h
  | _ => exact frozenBy_z1 m cs i h
theorem frozenBy_z2 (m : Hp) : ∀ (cs : List PV) (i off : Nat), PV.ptr i off ∈ cs → (frozenBy m cs).z i = true
 | [], i, off, h => by cases h
 | c :: cs, i, off, h => by
  rcases List.mem_cons.1 h with rfl | h'
  ·exact frozenBy_z1 (m.freeze i) cs i (upd_same _ _ _)
  ·cases c with
   | ptr id o => exact frozenBy_z2 (m.freeze id) cs i off h'
   | _ => exact frozenBy_z2 m cs i off h'
theorem frozenBy_z3 (m : Hp) : ∀ (cs : List PV) (i : Nat), (∀ off, PV.ptr i off ∉ cs) → (frozenBy m cs).z i = m.z i
 | [], i, h => rfl
 | c :: cs, i, h => by
  have ih := fun m => frozenBy_z3 m cs i (fun off ho => h off (by simp [ho]))
  cases c with
  | ptr id o =>
   refine (ih (m.freeze id)).trans (upd_ne _ _ fun e => ?_)
   subst e
   exact h o (by simp)
  | _ => exact ih m
theorem capsOk_congr {m m2 : Hp} : ∀ (cs : List PV), (∀ i, .b i ∈ PV.idsL cs → m2.h i = m.h i) → capsOk m cs → capsOk m2 cs
 | [], _, _ => trivial
 | c :: cs, h, hk => by
  have ih := capsOk_congr (m := m) (m2 := m2) cs (fun i hi => h i (by simp [PV.idsL, hi]))
  cases c with
  | ptr id off =>
   obtain ⟨h1, h2⟩ := hk
   refine ⟨?_, ih h2⟩
   rw [h id (by simp [PV.idsL, PV.ids])]
   exact h1
  | _ => exact ⟨hk.1, ih hk.2⟩
theorem capsOk_refs {m : Hp} : ∀ {cs : List PV}, capsOk m cs → ∀ i, .b i ∈ PV.idsL cs → ∃ off, PV.ptr i off ∈ cs
 | [], _, i, hi => by simp [PV.idsL] at hi
 | c :: cs, hk, i, hi => by
  simp only [PV.idsL, List.mem_append] at hi
  rcases hi with hi | hi
  ·cases c with
   | ptr id off => simp [PV.ids] at hi; subst hi; exact ⟨off, by simp⟩
   | _ => obtain ⟨h1, _⟩ := hk; rw [h1] at hi; cases hi
  ·have hk2 : capsOk m cs := by cases c <;> exact hk.2
   obtain ⟨off, ho⟩ := capsOk_refs hk2 i hi
   exact ⟨off, by simp [ho]⟩
theorem foot_makeFunc {o : Oper} {ρ : Operand → PV} {m : Hp} {f : FuncId} {first caps : Array Operand} (ho : o.op = .makeFunc (.func f) first caps) (hok : (aop P o ρ m).ok) : Foot P o ρ m (aop P o ρ m).v (aop P o ρ m).m := by
 have hop : ∀ m, aop P o ρ m = if first.isEmpty then ⟨capsOk m (caps.toList.map ρ), .fn f (caps.toList.map ρ), frozenBy m (caps.toList.map ρ)⟩ else .fail := fun m => by unfold aop; rw [ho]
 rw [hop] at hok ⊢
 split at hok
 ·rename_i hfe
  simp only [hfe, if_true]
  simp only at hok
  by_cases hce : caps.isEmpty = true
  ·have hc0 : caps = #[] := by simpa using hce
   subst hc0
   have hfp : fp o.op = {} := by rw [ho]; rfl
   have W1 : ∀ i, ¬ Wh o ρ i := fun i => by simp [Wh, hfp]
   have W2 : ∀ i, ¬ Wz o ρ i := fun i => by simp [Wz, hfp]
   have W3 : ∀ i, ¬ Wq o ρ i := fun i => by simp [Wq, hfp]
   refine ⟨fun _ _ => rfl, fun _ _ => rfl, fun _ _ => rfl, fun h => (by rw [hfp] at h; cases h), fun h => (by rw [hfp] at h; cases h), fun _ h => h, fun _ h => h, fun _ => rfl, rfl, fun m2 _ _ _ _ _ _ _ => ?_⟩
   refine ⟨m2, .inl ?_, fun i => ⟨fun h => absurd h (W1 i), fun _ => rfl⟩, fun i => ⟨fun h => absurd h (W2 i), fun _ => rfl⟩, fun i => ⟨fun h => absurd h (W3 i), fun _ => rfl⟩, ⟨fun h => (by rw [hfp] at h; cases h), fun _ => rfl⟩, rfl⟩
   rw [hop]
   simp only [hfe, if_true]
   exact ⟨trivial, trivial, rfl⟩
  ·have hfp : fp o.op = { rh := true, wz := true } := by rw [ho]; simp [fp, hce]
   have hrefs : ∀ i, .b i ∈ PV.idsL (caps.toList.map ρ) ↔ .b i ∈ refsOf o ρ := fun i => by
    unfold refsOf
    rw [ho]
    have hf0 : first = #[] := by simpa using hfe
    subst hf0
    constructor
    ·intro hi
     obtain ⟨x, hx, hix⟩ := PV.mem_idsL.1 hi
     obtain ⟨y, hy, rfl⟩ := List.mem_map.1 hx
     exact List.mem_flatMap.2 ⟨y, by simpa [Op.operands] using hy, hix⟩
    ·intro hi
     obtain ⟨y, hy, hiy⟩ := List.mem_flatMap.1 hi
     exact PV.mem_idsL.2 ⟨ρ y, List.mem_map.2 ⟨y, by simpa [Op.operands] using hy, rfl⟩, hiy⟩
   have W1 : ∀ i, ¬ Wh o ρ i := fun i => by simp [Wh, hfp]
   have W2 : ∀ i, Wz o ρ i ↔ .b i ∈ refsOf o ρ := fun i => by simp [Wz, hfp]
   have W3 : ∀ i, ¬ Wq o ρ i := fun i => by simp [Wq, hfp]
   have zz : ∀ (m : Hp) i, (.b i ∈ refsOf o ρ → (frozenBy m (caps.toList.map ρ)).z i = true) ∧ (.b i ∉ refsOf o ρ → (frozenBy m (caps.toList.map ρ)).z i = m.z i) := fun m' i => by
    constructor
    ·intro hi
     obtain ⟨off, ho'⟩ := capsOk_refs hok i ((hrefs i).2 hi)
     exact frozenBy_z2 m' _ i off ho'
    ·intro hi
     exact frozenBy_z3 m' _ i (fun off ho' => hi ((hrefs i).1 (PV.mem_idsL.2 ⟨_, ho', by simp [PV.ids]⟩)))
   refine ⟨fun i _ => frozenBy_hv m _ i, fun i h => (zz m i).2 (fun hh => h ((W2 i).2 hh)), fun i _ => by rw [frozenBy_q], fun h => (by rw [hfp] at h; cases h), fun h => (by rw [hfp] at h; cases h), fun i h => by rw [frozenBy_h]; exact h, fun i h => by rw [frozenBy_q]; exact h, fun _ => frozenBy_o m _, frozenBy_io m _, fun m2 a1 _ _ _ _ _ _ => ?_⟩
   refine ⟨frozenBy m2 (caps.toList.map ρ), .inl ?_, fun i => ⟨fun h => absurd h (W1 i), fun _ => frozenBy_hv m2 _ i⟩, fun i => ⟨fun h => ?_, fun h => (zz m2 i).2 (fun hh => h ((W2 i).2 hh))⟩, fun i => ⟨fun h => absurd h (W3 i), fun _ => by rw [frozenBy_q]⟩, ⟨fun h => (by rw [hfp] at h; cases h), fun _ => frozenBy_o m2 _⟩, frozenBy_io m2 _⟩
   ·rw [hop]
    simp only [hfe, if_true]
    exact ⟨capsOk_congr _ (fun i hi => a1 (by rw [hfp]) (.b i) ((hrefs i).1 hi)) hok, trivial, trivial⟩
   ·rw [(zz m2 i).1 ((W2 i).1 h), (zz m i).1 ((W2 i).1 h)]
 ·exact hok.elim
end
end Go.PL
namespace Go.PL
open Go.RowKit
set_option linter.unusedVariables false
section
variable {P : Program}
theorem foot_append {o : Oper} {ρ : Operand → PV} {m : Hp} {args : Array Operand} {ts : Array TypeId} (ho : o.op = .call ⟨.builtin .append, args, ts⟩) (hok : (aop P o ρ m).ok) : Foot P o ρ m (aop P o ρ m).v (aop P o ρ m).m := by
 have hfp : fp o.op = { rq := true, wq := true } := by rw [ho]; rfl
 have W1 : ∀ i, ¬ Wh o ρ i := fun i => by simp [Wh, hfp]
 have W2 : ∀ i, ¬ Wz o ρ i := fun i => by simp [Wz, hfp]
 have W3 : ∀ i, Wq o ρ i ↔ (.r i ∈ refsOf o ρ ∨ o.dst = some i) := fun i => by simp [Wq, hfp]
 have hop : ∀ m, aop P o ρ m = aBuiltin P .append ts.toList o.dst (args.toList.map ρ) m := fun m => by unfold aop; rw [ho]
 rw [hop] at hok ⊢
 have refs : ∀ x ∈ args.toList, ∀ i, .r i ∈ (ρ x).ids → .r i ∈ refsOf o ρ := fun x hx i hi => by
  unfold refsOf; rw [ho]; exact List.mem_flatMap.2 ⟨x, by simpa [Op.operands, Call.operands] using hx, hi⟩
 -- what is done: rows named in a list are laid anew
 have fin : ∀ {v : PV} {L : List (Nat × Row)} {ok : Hp → Prop}, (∀ x ∈ L, .r x.1 ∈ refsOf o ρ ∨ o.dst = some x.1) → (∀ m2 : Hp, (∀ i, (.r i ∈ refsOf o ρ ∨ o.dst = some i) → m2.q i = m.q i) → aop P o ρ m2 = ⟨ok m2, v, L.foldl (fun m x => m.setq x.1 x.2) m2⟩ ∧ (ok m → ok m2)) → ok m →
   Foot P o ρ m v (L.foldl (fun m x => m.setq x.1 x.2) m) := by
  intro v L ok hL hst hk
  have hh : ∀ (L : List (Nat × Row)) (m : Hp), (L.foldl (fun m x => m.setq x.1 x.2) m).h = m.h ∧ (L.foldl (fun m x => m.setq x.1 x.2) m).z = m.z := by
   intro L
   induction L with
   | nil => intro m; exact ⟨rfl, rfl⟩
   | cons x L ih => intro m; exact ⟨(ih _).1, (ih _).2⟩
  have hv : ∀ (L : List (Nat × Row)) (m : Hp) (x : Ref), (L.foldl (fun m x => m.setq x.1 x.2) m).hv x = m.hv x := by
   intro L
   induction L with
   | nil => intro m x; rfl
   | cons y L ih => intro m x; exact (ih _ x).trans (hv_setq _ _ _ x)
  have ho : ∀ (L : List (Nat × Row)) (m : Hp), (L.foldl (fun m x => m.setq x.1 x.2) m).o = m.o ∧ (L.foldl (fun m x => m.setq x.1 x.2) m).io = m.io := by
   intro L
   induction L with
   | nil => intro m; exact ⟨rfl, rfl⟩
   | cons x L ih => intro m; exact ⟨(ih _).1, (ih _).2⟩
  have qq : ∀ (L : List (Nat × Row)) (m : Hp) (i : Nat), (∀ x ∈ L, x.1 ≠ i) → (L.foldl (fun m x => m.setq x.1 x.2) m).q i = m.q i := by
   intro L
   induction L with
   | nil => intro m i _; rfl
   | cons x L ih =>
    intro m i h
    refine (ih (m.setq x.1 x.2) i (fun y hy => h y (by simp [hy]))).trans ?_
    exact upd_ne _ _ (h x (by simp))
  have qsame : ∀ (L : List (Nat × Row)) (m m2 : Hp) (i : Nat), m2.q i = m.q i → (L.foldl (fun m x => m.setq x.1 x.2) m2).q i = (L.foldl (fun m x => m.setq x.1 x.2) m).q i := by
   intro L
   induction L with
   | nil => intro m m2 i h; exact h
   | cons x L ih =>
    intro m m2 i h
    refine ih (m.setq x.1 x.2) (m2.setq x.1 x.2) i ?_
    show upd m2.q x.1 _ i = upd m.q x.1 _ i
    by_cases e : x.1 = i
    ·subst e; rw [upd_same, upd_same]
    ·rw [upd_ne _ _ e, upd_ne _ _ e]; exact h
  have qlive : ∀ (L : List (Nat × Row)) (m : Hp) (i : Nat), m.q i ≠ none → (L.foldl (fun m x => m.setq x.1 x.2) m).q i ≠ none := by
   intro L
   induction L with
   | nil => intro m i h; exact h
   | cons x L ih =>
    intro m i h
    refine ih (m.setq x.1 x.2) i ?_
    show upd m.q x.1 _ i ≠ none
    by_cases e : x.1 = i
    ·subst e; rw [upd_same]; simp
    ·rw [upd_ne _ _ e]; exact h
  refine ⟨fun i _ => hv L m i, fun i _ => by rw [(hh L m).2], fun i h => qq L m i (fun x hx e => h ((W3 i).2 (e ▸ hL x hx))), fun h => (by rw [hfp] at h; cases h), fun h => (by rw [hfp] at h; cases h), fun i h => by rw [(hh L m).1]; exact h, fun i h => qlive L m i h, fun _ => (ho L m).1, (ho L m).2, fun m2 _ _ a3 _ _ _ _ => ?_⟩
  have hag : ∀ i, (.r i ∈ refsOf o ρ ∨ o.dst = some i) → m2.q i = m.q i := a3 (by rw [hfp])
  obtain ⟨e, hk2⟩ := hst m2 hag
  refine ⟨L.foldl (fun m x => m.setq x.1 x.2) m2, .inl ?_, fun i => ⟨fun h => absurd h (W1 i), fun _ => hv L m2 i⟩, fun i => ⟨fun h => absurd h (W2 i), fun _ => by rw [(hh L m2).2]⟩, fun i => ⟨fun h => qsame L m m2 i (hag i ((W3 i).1 h)), fun h => qq L m2 i (fun x hx e => h ((W3 i).2 (e ▸ hL x hx)))⟩, ⟨fun h => (by rw [hfp] at h; cases h), fun _ => (ho L m2).1⟩, (ho L m2).2⟩
  rw [e]
  exact ⟨hk2 hk, rfl, rfl⟩
 revert hok
 match hts : ts.toList, has : args.toList with
 | [t, tx], [x, y] =>
  simp only [List.map_cons, List.map_nil, aBuiltin]
  cases hd : o.dst with
  | none => exact fun h => h.elim
  | some d =>
   have hop' : ∀ m2, aop P o ρ m2 = aAppend P d t tx (ρ x) (ρ y) m2 := fun m2 => by
    rw [hop, hts, has, hd]
    rfl
   simp only
   unfold aAppend
   unfold aAppend at hop'
   have hxr : ∀ i, .r i ∈ (ρ x).ids → .r i ∈ refsOf o ρ := refs x (by rw [has]; simp)
   split
   ·rename_i ei ys es h1 h2 h3
    intro hok
    exact fin (L := [(d, _)]) (ok := fun m2 => m2.q d = none ∧ Sized ei.size ys ∧ Atoms ys ∧ Room ys.length ei.bytes) (by intro z hz; simp at hz; subst hz; exact .inr hd)
     (fun m2 hag => ⟨by rw [hop']; simp only [h1, h2, h3]; rfl, fun hk => ⟨by rw [hag d (.inr hd)]; exact hk.1, hk.2⟩⟩) hok
   ·rename_i ei ys id es h1 h2 h3
    have hin : .r id ∈ refsOf o ρ := hxr id (by rw [h3]; simp [PV.ids])
    cases hq : m.q id with
    | none => exact fun h => h.elim
    | some r =>
     cases r with
     | dead => exact fun h => h.elim
     | vec n sz e => exact fun h => h.elim
     | live n sz e =>
      simp only
      intro hok
      by_cases hdi : d = id
      ·subst hdi
       simp only [if_true]
       exact fin (L := [(d, _)]) (ok := fun m2 => n = es.length ∧ sz = ei.size ∧ e = ei.e ∧ (d = d ∨ m2.q d = none) ∧ Sized ei.size es ∧ Sized ei.size ys ∧ Atoms ys ∧ Room (es.length + ys.length) ei.bytes) (by intro z hz; simp at hz; subst hz; exact .inr hd)
        (fun m2 hag => ⟨by rw [hop']; simp only [h1, h2, h3, hag d (.inr hd), hq, if_true]; rfl, fun hk => ⟨hk.1, hk.2.1, hk.2.2.1, .inl rfl, hk.2.2.2.2⟩⟩) hok
      ·simp only [if_neg hdi]
       exact fin (L := [(id, .dead), (d, _)]) (ok := fun m2 => n = es.length ∧ sz = ei.size ∧ e = ei.e ∧ (d = id ∨ m2.q d = none) ∧ Sized ei.size es ∧ Sized ei.size ys ∧ Atoms ys ∧ Room (es.length + ys.length) ei.bytes)
        (by intro z hz; simp at hz; rcases hz with rfl | rfl; exact .inl hin; exact .inr hd)
        (fun m2 hag => ⟨by rw [hop']; simp only [h1, h2, h3, hag id (.inl hin), hq, if_neg hdi]; rfl, fun hk => ⟨hk.1, hk.2.1, hk.2.2.1, hk.2.2.2.1.imp (fun h => h) (fun h => by rw [hag d (.inr hd)]; exact h), hk.2.2.2.2⟩⟩) hok
   ·exact fun h => h.elim
 | [], _ => exact fun h => h.elim
 | [_], _ => simp only [aBuiltin]; exact fun h => h.elim
 | _ :: _ :: _ :: _, _ => simp only [aBuiltin]; exact fun h => h.elim
 | [_, _], [] => exact fun h => h.elim
 | [_, _], [_] => simp only [List.map_cons, List.map_nil, aBuiltin]; exact fun h => h.elim
 | [_, _], _ :: _ :: _ :: _ => simp only [List.map_cons, aBuiltin]; exact fun h => h.elim
theorem foot_map {o : Oper} {ρ : Operand → PV} {m : Hp} {wo : Bool} (hfp : fp o.op = { ro := true, wo := wo }) (h1 : ∀ m : Hp, (aop P o ρ m).ok → (aop P o ρ m).m = { m with o := (aop P o ρ m).m.o } ∧ (wo = false → (aop P o ρ m).m.o = m.o))
  (h2 : ∀ m2 : Hp, m2.o = m.o → m2.it = m.it → (aop P o ρ m).ok → (aop P o ρ m2).ok ∧ (aop P o ρ m2).v = (aop P o ρ m).v ∧ (aop P o ρ m2).m.o = (aop P o ρ m).m.o) (hok : (aop P o ρ m).ok) : Foot P o ρ m (aop P o ρ m).v (aop P o ρ m).m := by
 have W1 : ∀ i, ¬ Wh o ρ i := fun i => by simp [Wh, hfp]
 have W2 : ∀ i, ¬ Wz o ρ i := fun i => by simp [Wz, hfp]
 have W3 : ∀ i, ¬ Wq o ρ i := fun i => by simp [Wq, hfp]
 obtain ⟨e, e'⟩ := h1 m hok
 refine ⟨fun i _ => by rw [e]; cases i <;> rfl, fun i _ => by rw [e], fun i _ => by rw [e], fun h => (by rw [hfp] at h; cases h), fun h => (by rw [hfp] at h; cases h), fun i h => by rw [e]; exact h, fun i h => by rw [e]; exact h,
  fun h => e' (by rw [hfp] at h; exact h), by rw [e]; rfl, fun m2 _ _ _ _ _ a1 a2 => ?_⟩
 obtain ⟨g1, g2, g3⟩ := h2 m2 (a1 (by rw [hfp])) (congrArg (fun x => x.1) a2) hok
 obtain ⟨k, k'⟩ := h1 m2 g1
 exact ⟨(aop P o ρ m2).m, .inl ⟨g1, g2.symm, rfl⟩, fun i => ⟨fun h => absurd h (W1 i), fun _ => by rw [k]; cases i <;> rfl⟩, fun i => ⟨fun h => absurd h (W2 i), fun _ => by rw [k]⟩, fun i => ⟨fun h => absurd h (W3 i), fun _ => by rw [k]⟩, ⟨fun _ => g3, fun h => k' (by rw [hfp] at h; exact h)⟩, by rw [k]; rfl⟩
theorem mapOf_congr {m m2 : Hp} (h : m2.o = m.o) (x : PV) : mapOf m2 x = mapOf m x := by cases x <;> simp [mapOf, h]
theorem lookup_facts {t : TypeId} {x k : PV} {ok : Bool} (m m2 : Hp) (h : m2.o = m.o) : (aLookup P t x k ok m).ok → (aLookup P t x k ok m).m = m ∧ (aLookup P t x k ok m2).ok ∧ (aLookup P t x k ok m2).v = (aLookup P t x k ok m).v ∧ (aLookup P t x k ok m2).m = m2 := by
 unfold aLookup
 rw [mapOf_congr h]
 split
 ·split
  ·exact fun hk => ⟨rfl, hk, rfl, rfl⟩
  ·exact fun hk => hk.elim
 ·exact fun hk => hk.elim
theorem mapLen_facts {t : TypeId} {x : PV} (m m2 : Hp) (h : m2.o = m.o) : (aMapLen P t x m).ok → (aMapLen P t x m).m = m ∧ (aMapLen P t x m2).ok ∧ (aMapLen P t x m2).v = (aMapLen P t x m).v ∧ (aMapLen P t x m2).m = m2 := by
 unfold aMapLen
 rw [mapOf_congr h]
 split
 ·exact fun hk => ⟨rfl, hk, rfl, rfl⟩
 ·exact fun hk => hk.elim
theorem entry_facts {x : PV} (m m2 : Hp) (h : m2.o = m.o) (h' : m2.it = m.it) : (aEntry x m).ok → (aEntry x m).m = m ∧ (aEntry x m2).ok ∧ (aEntry x m2).v = (aEntry x m).v ∧ (aEntry x m2).m = m2 := by
 have hm : ∀ it, mapIt m2 it = mapIt m it := fun it => by unfold mapIt; rw [h]
 unfold aEntry
 rw [h']
 simp only [hm]
 split
 ·split
  ·split
   ·exact fun hk => ⟨rfl, hk, rfl, rfl⟩
   ·exact fun hk => hk.elim
  ·exact fun hk => hk.elim
 ·exact fun hk => hk.elim
theorem update_facts {t : TypeId} {x k v : PV} (m m2 : Hp) (h : m2.o = m.o) : (aMapUpdate P t x k v m).ok → (aMapUpdate P t x k v m).m = { m with o := (aMapUpdate P t x k v m).m.o } ∧ (aMapUpdate P t x k v m2).ok ∧ (aMapUpdate P t x k v m2).v = (aMapUpdate P t x k v m).v ∧ (aMapUpdate P t x k v m2).m.o = (aMapUpdate P t x k v m).m.o := by
 unfold aMapUpdate
 rw [h]
 split
 ·split
  ·split
   ·exact fun hk => ⟨rfl, hk, rfl, rfl⟩
   ·exact fun hk => ⟨rfl, hk, rfl, rfl⟩
   ·exact fun hk => hk.elim
  ·exact fun hk => hk.elim
 ·exact fun hk => hk.elim
theorem foot_aop {o : Oper} {ρ : Operand → PV} {m : Hp} (hok : (aop P o ρ m).ok) : Foot P o ρ m (aop P o ρ m).v (aop P o ρ m).m := by
 have nm : NoMem (aop P o ρ) → fp o.op = {} → Foot P o ρ m (aop P o ρ m).v (aop P o ρ m).m := fun h hf => Foot.noMem h (by rw [hf]) (by rw [hf]) (by rw [hf]) (by rw [hf]) (by rw [hf]) (by rw [hf]) hok
 obtain ⟨dst, op, ty, pos, af, guard⟩ := o
 cases op with
 | move x => exact nm (noMem_const) rfl
 | assign x => exact nm (noMem_const) rfl
 | pick c x y => exact nm (noMem_pick) rfl
 | alloc t =>
  cases dst with
  | none => exact hok.elim
  | some d =>
   cases hz : tzero P t with
   | none => simp only [aop, hz] at hok; exact hok.elim
   | some z => exact Foot.newB (d := d) (v := .ptr d 0) (cs := z) (ok := True) rfl (fun m => by simp only [aop, hz, and_true]) rfl hok
 | box t x =>
  cases dst with
  | none => exact hok.elim
  | some d => exact Foot.newB (d := d) rfl (fun m => rfl) rfl hok
 | build t parts => exact nm (noMem_build) rfl
 | buildSlice t len parts =>
  cases dst with
  | none => exact hok.elim
  | some d =>
   cases he : telem P t with
   | none => simp only [aop, aBuildSlice, he] at hok; exact hok.elim
   | some ei => exact Foot.newQ (d := d) rfl (fun m => by simp only [aop, aBuildSlice, he]; rfl) rfl hok
 | load t x => exact foot_load rfl hok
 | store t x y => exact foot_store rfl hok
 | nilCheck x => exact nm (noMem_nilCheck) rfl
 | binOp op t x y yt => exact nm (noMem_bin) rfl
 | unOp op t x => exact nm (noMem_un) rfl
 | convert a b x => exact foot_conv rfl hok
 | makeFunc fn first caps =>
  cases fn with
  | func f => exact foot_makeFunc rfl hok
  | _ => exact hok.elim
 | makeSlice t l c =>
  cases dst with
  | none => exact hok.elim
  | some d =>
   by_cases hl : ∃ k, l = .const (.int k 0)
   ·obtain ⟨k, rfl⟩ := hl
    have hop : ∀ m, aop P ⟨some d, .makeSlice t (.const (.int k 0)) c, ty, pos, af, guard⟩ ρ m = aMakeRow P d t (ρ c) m := fun m => rfl
    rw [hop] at hok
    unfold aMakeRow at hok
    split at hok
    ·rename_i ei kc n h1 h2
     exact Foot.newQ (d := d) rfl (fun m => by rw [hop]; simp only [aMakeRow, h1, h2]; rfl) rfl (by rw [hop]; unfold aMakeRow; rw [h1, h2]; exact hok)
    ·exact hok.elim
   ·have hop : ∀ m, aop P ⟨some d, .makeSlice t l c, ty, pos, af, guard⟩ ρ m = aMakeFull P d t (ρ l) (ρ c) m := fun m => by
     unfold aop
     simp only
     split
     ·rename_i k; exact absurd ⟨k, rfl⟩ hl
     ·rfl
    rw [hop] at hok
    unfold aMakeFull at hok
    split at hok
    ·rename_i ei kl n kc n' h1 h2 h3
     split at hok
     ·rename_i z hz
      exact Foot.newQ (d := d) rfl (fun m => by rw [hop]; simp only [aMakeFull, h1, h2, h3, hz]; rfl) rfl (by rw [hop]; unfold aMakeFull; rw [h1, h2, h3]; simp only [hz]; exact hok)
     ·exact hok.elim
    ·exact hok.elim
 | slice t x lo hi mx =>
  refine nm (fun m m2 h => ?_) rfl
  revert h
  unfold aop
  simp only
  split
  ·exact noMem_slice m m2
  ·exact noMem_fail m m2
 | fieldAddr t x f => exact nm (noMem_fieldAddr) rfl
 | field t x f => exact nm (noMem_field) rfl
 | indexAddr t x i => exact nm (noMem_indexAddr) rfl
 | index t x i => exact nm (noMem_index) rfl
 | extract x i => exact nm (noMem_extract) rfl
 | lookup t x k ok =>
  have hop : ∀ m, aop P ⟨dst, .lookup t x k ok, ty, pos, af, guard⟩ ρ m = aLookup P t (ρ x) (ρ k) ok m := fun m => rfl
  refine foot_map (wo := false) rfl (fun m h => ?_) (fun m2 h1 h2 h => ?_) hok
  ·rw [hop] at h ⊢
   have := (lookup_facts m m rfl h).1
   exact ⟨by rw [this], fun _ => by rw [this]⟩
  ·rw [hop] at h ⊢
   rw [hop]
   obtain ⟨a1, a2, a3, a4⟩ := lookup_facts _ m2 h1 h
   exact ⟨a2, a3, by rw [a4, a1]; exact h1⟩
 | entry x =>
  have hop : ∀ m, aop P ⟨dst, .entry x, ty, pos, af, guard⟩ ρ m = aEntry (ρ x) m := fun m => rfl
  refine foot_map (wo := false) rfl (fun m h => ?_) (fun m2 h1 h2 h => ?_) hok
  ·rw [hop] at h ⊢
   have := (entry_facts m m rfl rfl h).1
   exact ⟨by rw [this], fun _ => by rw [this]⟩
  ·rw [hop] at h ⊢
   rw [hop]
   obtain ⟨a1, a2, a3, a4⟩ := entry_facts _ m2 h1 h2 h
   exact ⟨a2, a3, by rw [a4, a1]; exact h1⟩
 | mapUpdate t x k v =>
  exact foot_map (wo := true) rfl (fun m h => ⟨(update_facts m m rfl h).1, fun h => by cases h⟩) (fun m2 h1 h2 h => (update_facts _ m2 h1 h).2) hok
 | call c =>
  obtain ⟨callee, args, ts⟩ := c
  cases callee with
  | builtin b =>
   by_cases hb : b = .append
   ·subst hb; exact foot_append rfl hok
   by_cases hb2 : b = .len
   ·subst hb2
    have hop : ∀ m, aop P ⟨dst, .call ⟨.builtin .len, args, ts⟩, ty, pos, af, guard⟩ ρ m = aBuiltin P .len ts.toList dst (args.toList.map ρ) m := fun m => rfl
    have key : ∀ m m2 : Hp, m2.o = m.o → (aBuiltin P .len ts.toList dst (args.toList.map ρ) m).ok → (aBuiltin P .len ts.toList dst (args.toList.map ρ) m).m = m ∧ (aBuiltin P .len ts.toList dst (args.toList.map ρ) m2).ok ∧ (aBuiltin P .len ts.toList dst (args.toList.map ρ) m2).v = (aBuiltin P .len ts.toList dst (args.toList.map ρ) m).v ∧ (aBuiltin P .len ts.toList dst (args.toList.map ρ) m2).m = m2 := by
     intro m m2 h
     unfold aBuiltin
     split
     ·split
      ·exact mapLen_facts m m2 h
      ·exact noMem_len m m2
     all_goals first | contradiction | exact noMem_fail m m2
    refine foot_map (wo := false) rfl (fun m h => ?_) (fun m2 h1 h2 h => ?_) hok
    ·rw [hop] at h ⊢
     have := (key m m rfl h).1
     exact ⟨by rw [this], fun _ => by rw [this]⟩
    ·rw [hop] at h ⊢
     rw [hop]
     obtain ⟨a1, a2, a3, a4⟩ := key m m2 h1 h
     exact ⟨a2, a3, by rw [a4, a1]; exact h1⟩
   ·refine nm (fun m m2 h => ?_) (by cases b <;> first | rfl | exact absurd rfl hb | exact absurd rfl hb2)
    revert h
    show (aBuiltin P b ts.toList dst (args.toList.map ρ) m).ok → (aBuiltin P b ts.toList dst (args.toList.map ρ) m).m = m ∧ (aBuiltin P b ts.toList dst (args.toList.map ρ) m2).ok ∧ (aBuiltin P b ts.toList dst (args.toList.map ρ) m2).v = (aBuiltin P b ts.toList dst (args.toList.map ρ) m).v ∧ (aBuiltin P b ts.toList dst (args.toList.map ρ) m2).m = m2
    unfold aBuiltin
    split
    ·exact absurd rfl hb2
    ·exact absurd rfl hb
    ·exact noMem_max m m2
    ·exact noMem_min m m2
    ·exact noMem_cpx m m2
    ·exact noMem_real m m2
    ·exact noMem_imag m m2
    ·exact noMem_fail m m2
  | _ => exact hok.elim
 | _ => exact hok.elim
theorem foot_step {o : Oper} {ρ : Operand → PV} {m m' : Hp} {v : PV} (h : StepM P o ρ m v m') : Foot P o ρ m v m' := by
 rcases h with ⟨h1, rfl, rfl⟩ | ⟨c, g, args, ho, hc, hg, hp, rfl⟩
 ·exact foot_aop h1
 ·exact foot_call ho hc hg hp
end
end Go.PL
namespace Go.PL
open Go.RowKit
set_option linter.unusedVariables false
def compat (a b : Op) : Bool :=
 let x := fp a
 let y := fp b
 !(x.wh && (y.rh || y.wh)) && !(y.wh && (x.rh || x.wh)) && !(x.wz && (y.rz || y.wz)) && !(y.wz && (x.rz || x.wz)) && !(x.wq && (y.rq || y.wq)) && !(y.wq && (x.rq || x.wq)) && !(x.wo && (y.ro || y.wo)) && !(y.wo && (x.ro || x.wo))
section
variable {P : Program} {ops : Array Oper}
theorem aop_congr {ρ ρ' : Operand → PV} (o : Oper) (m : Hp) (h : ∀ x ∈ o.op.operands, ρ x = ρ' x) : aop P o ρ m = aop P o ρ' m := by
 obtain ⟨dst, op, ty, pos, af, guard⟩ := o
 have pairs : ∀ ps : Array (Nat × Operand), (∀ x ∈ (ps.toList.map (·.2)).toArray, ρ x = ρ' x) → (ps.toList.map fun x => (x.1, ρ x.2)) = (ps.toList.map fun x => (x.1, ρ' x.2)) := fun ps hp =>
  List.map_congr_left fun p hm => by rw [hp p.2 (by simp only [List.mem_toArray, List.mem_map]; exact ⟨p, hm, rfl⟩)]
 cases op with
 | build t ps => simp only [aop]; rw [pairs ps h]
 | buildSlice t n ps => simp only [aop]; rw [pairs ps h]
 | makeFunc fn first caps =>
  have : caps.toList.map ρ = caps.toList.map ρ' := List.map_congr_left fun x hx => h x (by simp [Op.operands]; right; simpa using hx)
  cases fn <;> simp only [aop, this]
 | makeSlice t l c =>
  have h1 : ρ l = ρ' l := h l (by simp [Op.operands])
  have h2 : ρ c = ρ' c := h c (by simp [Op.operands])
  simp only [aop, h1, h2]
 | slice t x lo hi mx =>
  have h1 : ρ x = ρ' x := h x (by simp [Op.operands])
  have h2 : lo.map ρ = lo.map ρ' := by cases lo with | none => rfl | some y => simp [h y (by simp [Op.operands])]
  have h3 : hi.map ρ = hi.map ρ' := by cases hi with | none => rfl | some y => simp [h y (by simp [Op.operands])]
  simp only [aop, h1, h2, h3]
 | call c =>
  obtain ⟨callee, args, ts⟩ := c
  cases callee with
  | builtin b =>
   have : args.toList.map ρ = args.toList.map ρ' := List.map_congr_left fun x hx => h x (by simp [Op.operands, Call.operands]; simpa using hx)
   simp only [aop, this]
  | _ => rfl
 | pick c x y =>
  simp only [aop, h c (by simp [Op.operands]), h x (by simp [Op.operands]), h y (by simp [Op.operands])]
 | alloc t => rfl
 | move x => simp only [aop, h x (by simp [Op.operands])]
 | assign x => simp only [aop, h x (by simp [Op.operands])]
 | box t x => simp only [aop, h x (by simp [Op.operands])]
 | load t x => simp only [aop, h x (by simp [Op.operands])]
 | store t x y => simp only [aop, h x (by simp [Op.operands]), h y (by simp [Op.operands])]
 | nilCheck x => simp only [aop, h x (by simp [Op.operands])]
 | binOp op t x y yt => simp only [aop, h x (by simp [Op.operands]), h y (by simp [Op.operands])]
 | unOp op t x => simp only [aop, h x (by simp [Op.operands])]
 | convert a b x => simp only [aop, h x (by simp [Op.operands])]
 | fieldAddr t x f => simp only [aop, h x (by simp [Op.operands])]
 | field t x f => simp only [aop, h x (by simp [Op.operands])]
 | indexAddr t x i => simp only [aop, h x (by simp [Op.operands]), h i (by simp [Op.operands])]
 | index t x i => simp only [aop, h x (by simp [Op.operands]), h i (by simp [Op.operands])]
 | extract x i => simp only [aop, h x (by simp [Op.operands])]
 | lookup t x k ok => simp only [aop, h x (by simp [Op.operands]), h k (by simp [Op.operands])]
 | mapUpdate t x k v => simp only [aop, h x (by simp [Op.operands]), h k (by simp [Op.operands]), h v (by simp [Op.operands])]
 | entry x => simp only [aop, h x (by simp [Op.operands])]
 | _ => rfl
theorem stepM_congr {ρ ρ' : Operand → PV} {o : Oper} {m m' : Hp} {v : PV} (h : ∀ x ∈ o.op.operands, ρ x = ρ' x) (hs : StepM P o ρ m v m') : StepM P o ρ' m v m' := by
 rcases hs with ⟨h1, h2, h3⟩ | ⟨c, g, args, ho, hc, hg, hp, rfl⟩
 ·rw [aop_congr o m h] at h1 h2 h3; exact .inl ⟨h1, h2, h3⟩
 ·refine .inr ⟨c, g, args, ho, ?_, hg, hp, rfl⟩
  rw [← hc]
  rw [ho] at h
  unfold calleeOf
  cases hcal : c.callee with
  | value f =>
   have e1 : ρ f = ρ' f := h f (by simp [Op.operands, Call.operands, hcal])
   have e2 : c.args.toList.map ρ' = c.args.toList.map ρ := List.map_congr_left fun x hx => (h x (by simp [Op.operands, Call.operands]; right; simpa using hx)).symm
   simp only [e1, e2]
  | _ => rfl
def Yield (P : Program) (ops : Array Oper) (o : Oper) (s s' : St) : Prop :=
 dstOk s.n o.dst ∧ ((gd ops s o = some true ∧ ∃ v m', StepM P o s.eval s.m v m' ∧ s' = (s.with m').put o.dst v) ∨ (gd ops s o = some false ∧ s' = s.put o.dst (.tup [])))
theorem put_n (s : St) (d : Option Nat) (v : PV) : (s.put d v).n = s.n := by cases d <;> rfl
theorem put_m (s : St) (d : Option Nat) (v : PV) : (s.put d v).m = s.m := by cases d <;> rfl
theorem put_with (s : St) (d : Option Nat) (v : PV) (m : Hp) : (s.put d v).with m = (s.with m).put d v := by cases d <;> rfl
theorem put_fr {s : St} {d : Option Nat} {v : PV} {i : Nat} (h : d ≠ some i) : (s.put d v).fr i = s.fr i := by
 cases d with
 | none => rfl
 | some d => exact upd_ne _ _ (fun e => h (by rw [e]))
theorem put_eval {s : St} {d : Option Nat} {v : PV} {x : Operand} (h : ∀ t, d = some t → x ≠ .tmp t) : (s.put d v).eval x = s.eval x := by
 cases x with
 | tmp t => exact put_fr (fun e => h t e rfl)
 | _ => rfl
theorem with_eval (s : St) (m : Hp) : (s.with m).eval = s.eval := by
 funext x; cases x <;> rfl
theorem put_comm (s : St) {x y : Option Nat} (u v : PV) (h : ∀ d, x = some d → y ≠ some d) : (s.put x u).put y v = (s.put y v).put x u := by
 cases x with
 | none => rfl
 | some d =>
  cases y with
  | none => rfl
  | some e =>
   have hne : d ≠ e := fun he => h d rfl (he ▸ rfl)
   simp only [St.put]
   congr 1
   funext i
   simp only [upd]
   by_cases h1 : e = i
   ·by_cases h2 : d = i
    ·exact absurd (h2.trans h1.symm) hne
    ·simp [h1, h2]
   ·simp [h1]
theorem put_gd {s : St} {o : Oper} {d : Option Nat} {v : PV} {m : Hp} (h : ∀ t, d = some t → t ∉ o.looksAt ops) : gd ops ((s.with m).put d v) o = gd ops s o := by
 unfold gd
 cases hg : o.guard with
 | none => rfl
 | some jw =>
  obtain ⟨j, want⟩ := jw
  simp only
  cases hd : (ops[j]?).bind (·.dst) with
  | none => rfl
  | some t =>
   simp only [put_n]
   have : d ≠ some t := fun e => h t e (by unfold Oper.looksAt; rw [hg]; simp [hd])
   rw [put_fr this]
   rfl
theorem looks_ops {o : Oper} {d : Option Nat} (h : ∀ t, d = some t → t ∉ o.looksAt ops) : ∀ x ∈ o.op.operands, ∀ t, d = some t → x ≠ .tmp t := fun x hx t ht e => by
 refine h t ht ?_
 subst e
 unfold Oper.looksAt
 exact List.mem_append_left _ (List.mem_filterMap.2 ⟨.tmp t, by simpa using hx, rfl⟩)
theorem refs_live {s : St} (hr : Refs s) (o : Oper) : ∀ r ∈ refsOf o s.eval, Live s.m r := fun r h => by
 unfold refsOf at h
 obtain ⟨x, _, hx⟩ := List.mem_flatMap.1 h
 cases x with
 | tmp t => exact hr.fr t r hx
 | const v => simp [St.eval, ids_ofVal] at hx
 | func f => simp [St.eval, PV.ids, PV.idsL] at hx
 | _ => simp [St.eval, PV.ids] at hx
theorem hp_ext {a b : Hp} (h1 : ∀ i, a.hv i = b.hv i) (h2 : ∀ i, a.z i = b.z i) (h3 : ∀ i, a.q i = b.q i) (h4 : a.o = b.o) (h5 : a.io = b.io) : a = b := by
 cases a; cases b; simp only [Hp.mk.injEq]; exact ⟨funext fun i => h1 (.b i), funext h2, funext h3, h4, congrArg (fun x => x.1) h5, congrArg (fun x => x.2.1) h5, funext fun i => h1 (.r i), congrArg (fun x => x.2.2.1) h5, congrArg (fun x => x.2.2.2.1) h5, congrArg (fun x => x.2.2.2.2) h5⟩
theorem yield_swap {s s1 s2 : St} {oi oj : Oper} (hr : Refs s) (hap : oi.apart ops oj = true) (hcp : compat oi.op oj.op = true) (h1 : Yield P ops oi s s1) (h2 : Yield P ops oj s1 s2) :
  ∃ s1', Yield P ops oj s s1' ∧ Yield P ops oi s1' s2 := by
 obtain ⟨a1, a2, a3⟩ := Oper.apart_spec hap
 obtain ⟨d1, h1⟩ := h1
 obtain ⟨d2, h2⟩ := h2
 have n1 : s1.n = s.n := by rcases h1 with ⟨_, v, m', _, rfl⟩ | ⟨_, rfl⟩ <;> simp [put_n, St.with]
 rw [n1] at d2
 have ej : ∀ x ∈ oj.op.operands, s1.eval x = s.eval x := fun x hx => by
  rcases h1 with ⟨_, v, m', _, rfl⟩ | ⟨_, rfl⟩
  ·rw [put_eval (looks_ops a1 x hx), with_eval]
  ·rw [put_eval (looks_ops a1 x hx)]
 have gj : gd ops s1 oj = gd ops s oj := by
  rcases h1 with ⟨_, v, m', _, rfl⟩ | ⟨_, rfl⟩
  ·exact put_gd a1
  ·exact put_gd (m := s.m) a1
 have a2' : ∀ d, oj.dst = some d → oi.dst ≠ some d := fun d hd e => a2 d e hd
 rcases h1 with ⟨g1, vi, mi, st1, rfl⟩ | ⟨g1, rfl⟩
 ·rcases h2 with ⟨g2, vj, mj, st2, rfl⟩ | ⟨g2, rfl⟩
  · -- both are carried out
   rw [put_m] at st2
   have st2' : StepM P oj s.eval mi vj mj := stepM_congr ej st2
   have F1 := foot_step st1
   have F2 := foot_step st2'
   have Li := refs_live hr oi
   have Lj := refs_live hr oj
   simp only [compat, Bool.and_eq_true, Bool.not_eq_true', Bool.and_eq_false_imp, Bool.or_eq_false_iff] at hcp
   obtain ⟨⟨⟨⟨⟨⟨⟨c1, c2⟩, c3⟩, c4⟩, c5⟩, c6⟩, c7⟩, c8⟩ := hcp
   have dne : ∀ i, oi.dst = some i → oj.dst = some i → False := fun i h h' => a2 i h h'
   -- what the second one makes anew was not there before the first one
   have nbj : (fp oj.op).nb = true → ∀ i, oj.dst = some i → s.m.h i = none := fun hb i hi => by
    have h0 := F2.hn hb i hi
    refine Decidable.byContradiction fun hne => ?_
    exact F1.hl i hne h0
   have nqj : (fp oj.op).nq = true → ∀ i, oj.dst = some i → s.m.q i = none := fun hb i hi => by
    have h0 := F2.qn hb i hi
    refine Decidable.byContradiction fun hne => ?_
    exact F1.ql i hne h0
   obtain ⟨ma, sta, ah, az, aq, ao, ai⟩ := F2.re s.m
    (fun hrh i hi => by
     refine (F1.h1 i ?_).symm
     rintro (⟨w, _⟩ | ⟨nb, d, hd, rfl⟩)
     ·have := (c1 w).1; rw [hrh] at this; cases this
     ·exact Lj _ hi (F1.hn nb d hd))
    (fun hrz i hi => by
     refine (F1.z1 i ?_).symm
     rintro (⟨w, _⟩ | ⟨nb, hd⟩)
     ·have := (c3 w).1; rw [hrz] at this; cases this
     ·exact Lj _ hi (F1.hn nb i hd))
    (fun hrq i hi => by
     refine (F1.q1 i ?_).symm
     rintro (⟨w, _⟩ | ⟨nq, hd⟩)
     ·have := (c5 w).1; rw [hrq] at this; cases this
     ·rcases hi with hi | hi
      ·exact Lj _ hi (F1.qn nq i hd)
      ·exact dne i hd hi)
    nbj nqj
    (fun hro => by
     refine (F1.o1 ?_).symm
     cases hw : (fp oi.op).wo with
     | false => rfl
     | true => have := (c7 hw).1; rw [hro] at this; cases this) F1.i1.symm
   obtain ⟨mb, stb, bh, bz, bq, bo, bi⟩ := F1.re ma
    (fun hrh i hi => by
     refine (ah i).2 ?_
     rintro (⟨w, _⟩ | ⟨nb, d, hd, rfl⟩)
     ·have := (c2 w).1; rw [hrh] at this; cases this
     ·exact Li _ hi (nbj nb d hd))
    (fun hrz i hi => by
     refine (az i).2 ?_
     rintro (⟨w, _⟩ | ⟨nb, hd⟩)
     ·have := (c4 w).1; rw [hrz] at this; cases this
     ·exact Li _ hi (nbj nb i hd))
    (fun hrq i hi => by
     refine (aq i).2 ?_
     rintro (⟨w, _⟩ | ⟨nq, hd⟩)
     ·have := (c6 w).1; rw [hrq] at this; cases this
     ·rcases hi with hi | hi
      ·exact Li _ hi (nqj nq i hd)
      ·exact dne i hi hd)
    (fun nb i hd => by
     refine ((ah (.b i)).2 ?_).trans (F1.hn nb i hd)
     rintro (⟨_, hi⟩ | ⟨_, d, hd', e⟩)
     ·exact Lj _ hi (F1.hn nb i hd)
     ·cases e; exact dne i hd hd')
    (fun nq i hd => by
     refine ((aq i).2 ?_).trans (F1.qn nq i hd)
     rintro (⟨w, hi⟩ | ⟨_, hd'⟩)
     ·rcases hi with hi | hi
      ·exact Lj _ hi (F1.qn nq i hd)
      ·exact dne i hd hi
     ·exact dne i hd hd')
    (fun hro => by
     refine ao.2 ?_
     cases hw : (fp oj.op).wo with
     | false => rfl
     | true => have := (c8 hw).1; rw [hro] at this; cases this) ai
   have em : mb = mj := by
    refine hp_ext (fun i => ?_) (fun i => ?_) (fun i => ?_) ?_ (by rw [bi, ai, F2.i1, F1.i1])
    ·by_cases wi : Wh oi s.eval i
     ·rw [(bh i).1 wi]
      refine (F2.h1 i ?_).symm
      rintro (⟨w, hi⟩ | ⟨nb, d, hd, e⟩)
      ·rcases wi with ⟨w', _⟩ | ⟨nb', d', hd', e'⟩
       ·have := (c1 w').2; rw [w] at this; cases this
       ·subst e'; exact Lj _ hi (F1.hn nb' d' hd')
      ·subst e
       rcases wi with ⟨_, hi'⟩ | ⟨_, d', hd', e'⟩
       ·exact Li _ hi' (nbj nb d hd)
       ·cases e'; exact dne d hd' hd
     ·rw [(bh i).2 wi]
      by_cases wj : Wh oj s.eval i
      ·exact (ah i).1 wj
      ·rw [(ah i).2 wj, F2.h1 i wj, F1.h1 i wi]
    ·by_cases wi : Wz oi s.eval i
     ·rw [(bz i).1 wi]
      refine (F2.z1 i ?_).symm
      rintro (⟨w, hi⟩ | ⟨nb, hd⟩)
      ·rcases wi with ⟨w', _⟩ | ⟨nb', hd'⟩
       ·have := (c3 w').2; rw [w] at this; cases this
       ·exact Lj _ hi (F1.hn nb' i hd')
      ·rcases wi with ⟨_, hi'⟩ | ⟨_, hd'⟩
       ·exact Li _ hi' (nbj nb i hd)
       ·exact dne i hd' hd
     ·rw [(bz i).2 wi]
      by_cases wj : Wz oj s.eval i
      ·exact (az i).1 wj
      ·rw [(az i).2 wj, F2.z1 i wj, F1.z1 i wi]
    ·by_cases wi : Wq oi s.eval i
     ·rw [(bq i).1 wi]
      refine (F2.q1 i ?_).symm
      rintro (⟨w, hi⟩ | ⟨nq, hd⟩)
      ·rcases wi with ⟨w', _⟩ | ⟨nq', hd'⟩
       ·have := (c5 w').2; rw [w] at this; cases this
       ·rcases hi with hi | hi
        ·exact Lj _ hi (F1.qn nq' i hd')
        ·exact dne i hd' hi
      ·rcases wi with ⟨_, hi'⟩ | ⟨_, hd'⟩
       ·rcases hi' with hi' | hi'
        ·exact Li _ hi' (nqj nq i hd)
        ·exact dne i hi' hd
       ·exact dne i hd' hd
     ·rw [(bq i).2 wi]
      by_cases wj : Wq oj s.eval i
      ·exact (aq i).1 wj
      ·rw [(aq i).2 wj, F2.q1 i wj, F1.q1 i wi]
    ·cases hwi : (fp oi.op).wo with
     | true =>
      rw [bo.1 hwi]
      refine (F2.o1 ?_).symm
      cases hwj : (fp oj.op).wo with
      | false => rfl
      | true => have := (c7 hwi).2; rw [hwj] at this; cases this
     | false =>
      rw [bo.2 hwi]
      cases hwj : (fp oj.op).wo with
      | true => exact ao.1 hwj
      | false => rw [ao.2 hwj, F2.o1 hwj, F1.o1 hwi]
   subst em
   refine ⟨(s.with ma).put oj.dst vj, ⟨d2, .inl ⟨by rw [← gj]; exact g2, vj, ma, sta, rfl⟩⟩, by rw [put_n]; exact d1, .inl ⟨by rw [put_gd a3]; exact g1, vi, mb, ?_, ?_⟩⟩
   ·rw [put_m]
    refine stepM_congr (fun x hx => ?_) stb
    rw [put_eval (looks_ops a3 x hx), with_eval]
   ·rw [put_with, put_with, put_comm _ _ _ a2]; rfl
  ·refine ⟨s.put oj.dst (.tup []), ⟨d2, .inr ⟨by rw [← gj]; exact g2, rfl⟩⟩, by rw [put_n]; exact d1, .inl ⟨by rw [show s.put oj.dst (.tup []) = (s.with s.m).put oj.dst (.tup []) from rfl, put_gd a3]; exact g1, vi, mi, ?_, ?_⟩⟩
   ·rw [put_m]
    exact stepM_congr (fun x hx => by rw [put_eval (looks_ops a3 x hx)]) st1
   ·rw [put_with, put_comm _ _ _ a2]
 ·rcases h2 with ⟨g2, vj, mj, st2, rfl⟩ | ⟨g2, rfl⟩
  ·rw [put_m] at st2
   refine ⟨(s.with mj).put oj.dst vj, ⟨d2, .inl ⟨by rw [← gj]; exact g2, vj, mj, stepM_congr ej st2, rfl⟩⟩, by rw [put_n]; exact d1, .inr ⟨by rw [put_gd a3]; exact g1, ?_⟩⟩
   rw [put_with, put_comm _ _ _ a2]
  ·refine ⟨s.put oj.dst (.tup []), ⟨d2, .inr ⟨by rw [← gj]; exact g2, rfl⟩⟩, by rw [put_n]; exact d1, .inr ⟨by rw [show s.put oj.dst (.tup []) = (s.with s.m).put oj.dst (.tup []) from rfl, put_gd a3]; exact g1, ?_⟩⟩
   rw [put_comm _ _ _ a2]
end
end Go.PL
