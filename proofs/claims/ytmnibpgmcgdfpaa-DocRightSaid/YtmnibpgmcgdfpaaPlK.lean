/- A logic of values for functions that only read and build, over the model (part 11): no statement of the seat is proved here. -/
import Derived.Test.YtmnibpgmcgdfpaaPlJ
import Derived.LoopNIn
import Derived.Test.YtmnibpgmcgdfpaaPlI
import Derived.RangeFuncLeaves
import Derived.Test.YtmnibpgmcgdfpaaPlF
import Derived.OrdersHeld
import Derived.Still
set_option linter.unusedSimpArgs false
set_option linter.unusedVariables false
/-! Loops in a round -/
namespace Go.PL
open Go.RowKit
set_option linter.unusedVariables false
section
variable {P : Program} {l n : Nat} {s s' : St} {Q Q' : Exit → St → Prop}
theorem vR_loop (c : Code) (Q : QS) (s : St) : @vR l n P ⟨.loop c⟩ Q s = awpR l n P (.loop c) Q.q s := rfl
end
attribute [go_sem] vR_loop
end Go.PL

/-! A FUNCTION WITH A RANGE OVER A FUNCTION: the code behind it walks beside a deferred mark; at the end the mark is taken -/
namespace Go.PL
open Go.RowKit
set_option linter.unusedVariables false
/-- an activation with calls put off -/
def md (a : Act) (D : List Deferred) : Act := { tmps := a.tmps, defers := a.defers ++ D }
theorem md_eval (a : Act) (D : List Deferred) : (md a D).eval = a.eval := rfl
theorem md_put (a : Act) (D : List Deferred) (d : Option Tmp) (v : Value) : (md a D).put d v = md (a.put d v) D := by cases d <;> rfl
section
variable {P : Program} {n : Nat} {D : List Deferred}
theorem oper_md {o : Oper} {a : Act} {w : World} {next : Act → World → Prop} {Q : Exit → Act → World → Prop} (h : o.wp P a w (fun a w => next (md a D) w) (fun e a w => Q e (md a D) w)) : o.wpIn Fence.wide n P (md a D) w next Q := by
  refine ⟨fun f _ => trivial, ?_⟩
  rw [show Fence.wide.round = none from rfl, Oper.semAt_none, md_eval]
  unfold Oper.wp at h
  generalize (execOp a.eval o).run P w = r at h ⊢
  cases r with
  | ok x w' =>
    cases x with
    | value v => rw [Oper.uponIn_value, md_put]; exact h
    | skip => rw [Oper.uponIn_skip, md_put]; exact h
    | defer d =>
      rw [Oper.uponIn_defer]
      have e : ({ md a D with defers := d :: (md a D).defers } : Act) = md { a with defers := d :: a.defers } D := rfl
      rw [e, md_put]; exact h
    | enter f args =>
      refine ⟨fun hh => absurd (show false = true from hh) (by decide), ((callsIn_wide (n := n - 1)).2 h).mono ?_⟩
      intro e w'' he
      cases e with
      | returned v => show next ((md a D).put o.dst v) w''; rw [md_put]; exact he
      | panicked c => exact he
      | outgrown => obtain ⟨a1, w1, h1⟩ : LetsOut (fun e a w => Q e (md a D) w) := he; exact ⟨_, w1, h1⟩
    | row row args =>
      refine ⟨fun hh => absurd (show false = true from hh) (by decide), fun c cs _ => ?_⟩
      obtain ⟨v, w'', r, s⟩ := h c cs
      exact ⟨v, w'', by show next ((md a D).put o.dst v) w''; rw [md_put]; exact r, stepsIn_wide.2 s⟩
    | _ => first | exact h | exact False.elim h
  | halt x w' => cases x <;> exact h
/-- what holds behind a piece of code beside calls that are put off -/
def awpD (D : List Deferred) (n : Nat) (P : Program) (c : Code) (Q : Exit → St → Prop) (s : St) : Prop :=
  ∀ B S M a w, Sim B S M s a w → c.wpIn Fence.wide n P (fun e a' w' => ∃ s' S' M' a0, Q e s' ∧ a' = md a0 D ∧ Sim B S' M' s' a0 w' ∧ Ext B S S' w w') (md a D) w
theorem lexD_sound {B : Frm} {ops : Array Oper} {K : St → Prop} {Qc : Exit → Act → World → Prop} {S0 : Stable} {w0 : World} (hQ : ∀ s' S' M' a' w', K s' → Sim B S' M' s' a' w' → Ext B S0 S' w0 w' → Qc .normal (md a' D) w') :
    ∀ (li : List Oper) (k : Nat) (s : St), (∀ j, li[j]? = ops[k + j]?) → lexX P ops K li s → ∀ S M a w, Sim B S M s a w → Ext B S0 S w0 w → wpOpsIn Fence.wide n P ops Qc (List.range' k li.length) (md a D) w
  | [], k, s, _, h, S, M, a, w, hs, he => hQ s S M a w h hs he
  | o :: rest, k, s, hl, h, S, M, a, w, hs, he => by
    have h0 : ops[k]? = some o := by simpa using (hl 0).symm
    have hl' : ∀ j, rest[j]? = ops[(k + 1) + j]? := fun j => by have := hl (j + 1); simpa [Nat.add_assoc, Nat.add_comm 1 j] using this
    obtain ⟨hd, h⟩ := h
    simp only [List.length_cons, List.range'_succ, wpOpsIn, h0]
    rcases h with ⟨hg, ⟨v, m', hst, hrest⟩ | hsp⟩ | ⟨hg, hrest⟩
    · rw [show yielded ops (md a D).tmps = yielded ops a.tmps from rfl, gd_ok hs hg, if_pos rfl]
      exact oper_md (step_sound hs (dstOk_spec hd) hst _ _ fun u w' S' M' hs' he' => lexD_sound hQ rest (k + 1) _ hl' hrest S' M' _ w' hs' (he.trans he'))
    · rw [show yielded ops (md a D).tmps = yielded ops a.tmps from rfl, gd_ok hs hg, if_pos rfl]
      exact oper_md (spec_sound hs (dstOk_spec hd) hsp _ _ fun s' u w' S' M' hk hs' he' => lexD_sound hQ rest (k + 1) s' hl' hk S' M' _ w' hs' (he.trans he'))
    · rw [show yielded ops (md a D).tmps = yielded ops a.tmps from rfl, gd_ok hs hg, if_neg (by simp)]
      rw [md_put]
      exact ⟨fun _ _ => trivial, lexD_sound hQ rest (k + 1) _ hl' hrest S M _ w (skip_sim hs hd) he⟩
variable {s : St} {Q Q' : Exit → St → Prop}
theorem awpD_mono {c : Code} (h : ∀ e s, Q e s → Q' e s) (hh : awpD D n P c Q s) : awpD D n P c Q' s := fun B S M a w hs =>
  wpIn_mono (hh B S M a w hs) fun e a' w' ⟨s', S', M', a0, h1, h2, h3, h4⟩ => ⟨s', S', M', a0, h _ _ h1, h2, h3, h4⟩
theorem awpD_region {id : Nat} {ops : Array Oper} (h : lexX P ops (Q .normal) ops.toList s) : awpD D n P (.region id ops false) Q s := fun B S M a w hs => by
  refine wpIn_region ?_
  have := lexD_sound (n := n) (D := D) (B := B) (S0 := S) (w0 := w) (Qc := fun e a' w' => ∃ s' S' M' a0, Q e s' ∧ a' = md a0 D ∧ Sim B S' M' s' a0 w' ∧ Ext B S S' w w') (fun s' S' M' a' w' h1 h2 h3 => ⟨s', S', M', a', h1, rfl, h2, h3⟩) ops.toList 0 s (by simp) h S M a w hs (Ext.refl _ _ _)
  rw [← List.range_eq_range'] at this
  simpa using this
theorem awpD_skip (h : Q .normal s) : awpD D n P .skip Q s := fun B S M a w hs => wpIn_skip ⟨s, S, M, a, h, rfl, hs, Ext.refl _ _ _⟩
theorem awpD_ret (h : Q .ret s) : awpD D n P .ret Q s := fun B S M a w hs => wpIn_ret ⟨s, S, M, a, h, rfl, hs, Ext.refl _ _ _⟩
theorem awpD_seq {x y : Code} (h : awpD D n P x (thenQ (awpD D n P y Q) Q) s) : awpD D n P (.seq x y) Q s := fun B S M a w hs => by
  refine wpIn_seq (wpIn_mono (h B S M a w hs) fun e a' w' hq => ?_)
  obtain ⟨s', S', M', a0, h1, rfl, h2, h3⟩ := hq
  cases e with
  | normal =>
    refine wpIn_mono (h1 B S' M' a0 w' h2) fun e a'' w'' hq' => ?_
    obtain ⟨s'', S'', M'', a1, g1, g2, g3, g4⟩ := hq'
    exact ⟨s'', S'', M'', a1, g1, g2, g3, h3.trans g4⟩
  | _ => exact ⟨s', S', M', a0, h1, rfl, h2, h3⟩
theorem awpD_cond {c : Operand} {x y : Code} {b : Bool} (hc : s.eval c = .bool b) (h : awpD D n P (if b then x else y) Q s) : awpD D n P (.cond c x y) Q s := fun B S M a w hs => by
  have he := hs.eval c
  rw [hc] at he
  exact wpIn_cond (a := md a D) he.bool_inv (h B S M a w hs)
/-- the conditions of code behind a mark -/
def vcD (P : Program) : Code → (Exit → St → Prop) → St → Prop
  | .skip, Q, s => Q .normal s
  | .ret, Q, s => Q .ret s
  | .seq x y, Q, s => vcD P x (thenQ (vcD P y Q) Q) s
  | .cond c x y, Q, s => vcCond (s.eval c) (vcD P x Q s) (vcD P y Q s)
  | .region _ ops false, Q, s => vcA P true ops (Q .normal) ops.toList s
  | _, _, _ => False
theorem vcD_sound : ∀ (c : Code) (Q : Exit → St → Prop) (s : St), vcD P c Q s → awpD D n P c Q s
  | .skip, Q, s, h => awpD_skip h
  | .ret, Q, s, h => awpD_ret h
  | .seq x y, Q, s, h => awpD_seq (awpD_mono (fun e s' h' => by
      cases e with
      | normal => exact vcD_sound y Q s' h'
      | _ => exact h') (vcD_sound x _ s h))
  | .cond c x y, Q, s, h => by
    unfold vcD vcCond at h
    split at h
    · rename_i b hb
      refine awpD_cond hb ?_
      cases b
      · exact vcD_sound y Q s (h.2 rfl)
      · exact vcD_sound x Q s (h.1 rfl)
    · exact h.elim
  | .region _ ops false, Q, s, h => awpD_region (vcA_lexX _ _ h)
  | .region _ ops true, Q, s, h => False.elim h
  | .label _, Q, s, h => False.elim h
  | .exit _, Q, s, h => False.elim h
  | .goto _, Q, s, h => False.elim h
  | .block _ _, Q, s, h => False.elim h
  | .loop _, Q, s, h => False.elim h
  | .rangeFunc .., Q, s, h => False.elim h
  | .scope _, Q, s, h => False.elim h
  | .refuse _, Q, s, h => False.elim h
end
/-! The same out of simp's reach, as vC -/
def vD (P : Program) [C : COD] [Q : QS] (s : St) : Prop := vcD P C.c Q.q s
section
variable {P : Program}
theorem vD_skip (Q : QS) (s : St) : @vD P ⟨.skip⟩ Q s = @vQ Q .normal s := rfl
theorem vD_ret (Q : QS) (s : St) : @vD P ⟨.ret⟩ Q s = @vQ Q .ret s := rfl
theorem vD_seq (x y : Code) (Q : QS) (s : St) : @vD P ⟨.seq x y⟩ Q s = @vD P ⟨x⟩ ⟨thenQ (@vD P ⟨y⟩ Q) Q.q⟩ s := rfl
theorem vD_cond (c : Operand) (x y : Code) (Q : QS) (s : St) : @vD P ⟨.cond c x y⟩ Q s = @vCond (s.eval c) ⟨@vD P ⟨x⟩ Q s⟩ ⟨@vD P ⟨y⟩ Q s⟩ := rfl
theorem vD_region (id : Nat) (li : List Oper) (Q : QS) (s : St) : @vD P ⟨.region id li.toArray false⟩ Q s = @vA P true ⟨@vQ Q .normal⟩ ⟨li⟩ ⟨li⟩ s := rfl
end
attribute [go_sem] vD_skip vD_ret vD_seq vD_cond vD_region
section
variable {P : Program}
/-- A FUNCTION THAT RANGES OVER A FUNCTION: its first k parts told, then the range, then what is behind it -/
theorem Pure.range {A : Type} {n : Nat} {rs : List ResultVar} {f : FuncId} {fn : Func} {c : Code} {args : List PV} {r : PV} (k : Nat) {Q1 : St → Prop}
    {gf : Nat} {caps : List PV} {xs : List A} {enc : A → List PV} {g : Operand} {ps : Array Tmp} {e1 assign body tail : Code} {id : Nat} {L : List (Nat × PV)} {pin : List Nat} {mt mx : List A → MemT} {Y X : List A → Prop}
    (hf : P.funcs[f]? = some fn) (hname : fn.name ≠ "runtime.NumGoroutine") (hb : fn.body = some c) (hn : fn.ntmps = n) (hrs : fn.results = rs.toArray) (hl : args.length ≤ n) (hi : r.dids = [])
    (h1 : tawp P (awp P e1 (thenQ Q1 fun _ _ => False)) k c (St.init args n)) (hd : dropC k c = .seq (.seq e1 (.block id (.rangeFunc g ps assign body))) tail)
    (hQ : ∀ s, Q1 s → s.eval g = .fn gf caps ∧ HasT n L (mt []) [] s ∧ ∀ i ∈ pin, s.m.h i ≠ none)
    (hcaps : ∀ p ∈ caps, p.ids = []) (hseq : GivesP P gf caps xs enc ps.size) (henc : ∀ x ∈ xs, ∀ p ∈ enc x, p.ids = []) (hps : ∀ t ∈ ps, t < n)
    (hL : ∀ x ∈ L, ∀ r ∈ x.2.ids, ∃ i ∈ pin, r = .b i) (hY : Y [])
    (hw : ∀ pre φ, WholeT L (mt pre) (pinL pin φ)) (hwx : ∀ pre φ, WholeT L (mx pre) (pinL pin φ))
    (round : ∀ (l : Nat) (φ : Nat → Nat) (pre : List A) (x : A), x ∈ xs → pre.length < xs.length → Y pre →
      awpR l 0 P assign (thenQ (awpR l 0 P body (rangeQ n (mt (pre ++ [x])) (mx (pre ++ [x])) (Y (pre ++ [x])) (X (pre ++ [x])) (pinL pin φ))) (fun _ _ => False)) (putL (mkT n L (mt pre) (pinL pin φ)) (ps.toList.zip (enc x))))
    (done : Y xs → ∀ φ, vcD P tail (vRetQ P rs r) (mkT n L (mt xs) (pinL pin φ)))
    (stop : ∀ pre, pre <+: xs → X pre → ∀ φ, vRetQ P rs r .ret (mkT n L (mx pre) (pinL pin φ))) : Pure P f args r := by
  subst hn
  have key : ∀ s, vRet P r s [] rs → retP P fn r s := fun s hv => by
    unfold retP
    rw [hrs]
    simpa using vRet_retP (fn := fn) rs [] hv
  have keyQ : ∀ e s, vRetQ P rs r e s → retQ P fn r e s := fun e s hv => by
    cases e with
    | normal => exact key s hv
    | ret => exact key s hv
    | _ => exact hv
  refine ⟨⟨fn, hf, hname, by rw [hb]; rfl⟩, hi, fun w S vs hst hyo hlen hrep => ?_⟩
  refine (callsIn_wide (n := 2)).1 (callsIn_of_wp_marks hf hb trivial ?_)
  have hs := sim_init (B := fun k => k < w.heap.size) (w := w) (n := fn.ntmps) (o := fun _ => none) hl hlen hrep (fun k hk => hk) ⟨hst, fun b c hc => by simp at hc, fun b x hx => by simp at hx⟩ (fun k hk => hyo k (Nat.le_of_not_lt hk))
  have hsz : (⟨vs⟩ : Array Value).size = vs.length := by simp
  rw [hsz]
  refine wpIn_wide.2 (tawp_sound (B := fun k => k < w.heap.size) (S0 := S) (w0 := w) k c _ S _ _ w h1 hs (Ext.refl _ _ _) fun s0 S0 M0 a0 w0 hq0 hs0 hx0 => (wpIn_wide (n := 2)).1 ?_)
  rw [hd]
  refine wpIn_seq (wpIn_seq (wpIn_mono (wpIn_wide.2 (hq0 _ S0 M0 a0 w0 hs0)) ?_))
  rintro e a' w' ⟨s', S', M', hq, hs', hx1⟩
  have hx := hx0.trans hx1
  obtain ⟨rfl, hq⟩ : e = .normal ∧ Q1 s' := by cases e <;> first | exact ⟨rfl, hq⟩ | exact hq.elim
  obtain ⟨q1, q2, q3⟩ := hQ s' hq
  have fin : ∀ (Dd : Nat) (s2 : St) (S2 : Stable) (M2 : Maps) (a2 : Act) (w2 : World), Sim (fun k => k < w.heap.size) S2 M2 s2 a2 w2 → Ext (fun k => k < w.heap.size) S S2 w w2 → w2.heap[Dd]? = some (.deferred (some [])) → w.heap.size ≤ Dd → retP P fn r s2 →
      LeavesInM Fence.wide 2 P fn a2.tmps (fun en w'' => ∃ v S3, en = .returned v ∧ Rep S3 v r ∧ StabS S3 w'' ∧ SLe S S3 ∧ (∀ b, b < w.heap.size → (∀ o, S3 b o = S b o) ∧ S3.m b = S.m b) ∧ Below w.heap.size w w'') [{ target := .collected Dd, args := #[] }] .returning w2 := by
    rintro Dd s2 S2 M2 a2 w2 g1 g2 g3 g4 ⟨p1, p2, p3⟩
    have g5 := g1.book (.inr ⟨_, g3⟩) (.deferred none)
    have g6 : Ext (fun k => k < w.heap.size) S S2 w (w2.putObj Dd (.deferred none)) := ⟨g2.1, g2.2.1, g2.2.2.putB (by omega)⟩
    obtain ⟨v, hv, hrv⟩ := results_sound g5 p1
    refine ⟨by simp, .inl ⟨Dd, _, rfl, run_takeDeferred g3, v, hv, v, S2, rfl, ?_, g5.stable.s, g6.1, g6.2.1, g6.2.2.to⟩⟩
    rw [p3]; exact hrv.give g5 p2
  have hsize : w.heap.size ≤ w'.heap.size := hx.2.2.size
  have hmd : ∀ Dd, ({ a' with defers := { target := .collected Dd, args := #[] } :: a'.defers } : Act) = md a' [{ target := .collected Dd, args := #[] }] := fun Dd => by
    unfold md; rw [hs'.defers]; rfl
  refine wpIn_block (wpIn_range hs' q1 hcaps hseq henc hps q2 hL q3 hY hw hwx round ?_ ?_)
  · intro Dd φ S2 M2 W hYx g1 g2 g3 g4
    rw [hmd]
    have hB2 : ∀ k, (k < w.heap.size ∨ k = Dd) → k < w.heap.size ∨ Book W k := fun k hk => hk.imp (fun h => h) fun e => by subst e; exact .inr ⟨_, g3⟩
    have g1' := g1.widen (B' := fun k => k < w.heap.size ∨ k = Dd) hB2 (fun k hk => hs'.zle g2.1 k fun h => hk (.inl h))
    refine wpIn_mono (awpD_mono keyQ (vcD_sound (D := [{ target := .collected Dd, args := #[] }]) (n := 2) tail _ _ (done hYx φ)) _ S2 M2 a' W g1') ?_
    rintro e a3 w3 ⟨s3, S3, M3, a0, k1, rfl, k3, k4⟩
    have k5 : Ext (fun k => k < w.heap.size) S S3 w w3 := (hx.trans g2).trans (k4.mono fun k hk => .inl hk)
    have k6 : Sim (fun k => k < w.heap.size) S3 M3 s3 a0 w3 := k3.widen (hzz := hs'.zle (g2.1.trans k4.1)) fun k hk => .inl (.inl hk)
    have k7 : w3.heap[Dd]? = some (.deferred (some [])) := (k4.2.2.block Dd (.inr rfl)).trans g3
    have hdd : (md a0 [{ target := .collected Dd, args := #[] }]).defers = [{ target := .collected Dd, args := #[] }] := by
      unfold md; rw [k6.defers]; rfl
    cases e with
    | normal =>
      show LeavesInM Fence.wide 2 P fn a0.tmps _ (md a0 _).defers .returning w3
      rw [hdd]
      exact fin Dd s3 S3 M3 a0 w3 k6 k5 k7 (by omega) k1
    | ret =>
      show LeavesInM Fence.wide 2 P fn a0.tmps _ (md a0 _).defers .returning w3
      rw [hdd]
      exact fin Dd s3 S3 M3 a0 w3 k6 k5 k7 (by omega) k1
    | _ => exact k1.elim
  · intro Dd φ pre S2 M2 W hpre hX g1 g2 g3 g4
    rw [hmd]
    have hdd : (md a' [{ target := .collected Dd, args := #[] }]).defers = [{ target := .collected Dd, args := #[] }] := by
      unfold md; rw [hs'.defers]; rfl
    show LeavesInM Fence.wide 2 P fn a'.tmps _ (md a' _).defers .returning W
    rw [hdd]
    exact fin Dd _ S2 M2 a' W g1 (hx.trans g2) g3 (by omega) (key _ (stop pre hpre hX φ))
end
end Go.PL

namespace Go.PL
open Go.RowKit
set_option linter.unusedVariables false
/-! YOUNG MEMORY: a slice that is told to lie in blocks made since the call's start (if it has cells at all) -/
def tokF : List PV → Tok
  | [] => .no
  | _ :: _ => .fr
def PV.frl (es : List PV) : PV := .sl (tokF es) es
section
variable {es : List PV}
theorem frl_ids : (PV.frl es).ids = [] := by cases es <;> rfl
theorem frl_dids : (PV.frl es).dids = PV.didsL es := by cases es <;> rfl
theorem tokF_sh : (tokF es).sh = tokF es := by cases es <;> rfl
theorem tokF_ids : (PV.sl (tokF es) es).ids = [] := frl_ids
theorem tokF_dids : (PV.sl (tokF es) es).dids = PV.didsL es := frl_dids
attribute [go_sem] PV.frl
attribute [go_sem ↓ high] tokF_sh tokF_ids tokF_dids
theorem Pub.frl {K : Ref → Prop} {m : Hp} {id n sz : Nat} {e : TypeId} (hq : m.q id = some (.live n sz e)) (hn : es.length = n) : Pub K m (.sl (.row id) es) (PV.frl es) := by
  cases es with
  | nil => exact .row id []
  | cons x l => exact .rowf id n sz e _ hq hn
theorem Rep.frl_inv {S : Stable} {v : Value} (r : Rep S v (PV.frl es)) : Rep S v (.sl .no es) ∧ ∀ b o n c, v = .slice (some ⟨b, o, none⟩) n c → 0 < n → S.z b ∧ S.y b := by
  cases es with
  | nil =>
    have r : Rep S v (.sl .no []) := r
    refine ⟨r, fun b o n c e hn => ?_⟩
    obtain ⟨a, cap, h, _⟩ := r.sl_len
    rw [h] at e
    cases e
    exact absurd hn (by simp)
  | cons x l =>
    have r : Rep S v (.sl .fr (x :: l)) := r
    cases r with
    | slf _ _ r hz => exact ⟨r, hz⟩
end
mutual
/-- nothing in it is told as young -/
def PV.nofr : PV → Bool
  | .sl t es => (t != .fr) && PV.nofrL es
  | .rptr cs => PV.nofrL cs
  | .rmap ks vs => PV.nofrL ks && PV.nofrL vs
  | .agg cs => PV.nofrL cs
  | .tup cs => PV.nofrL cs
  | .fn _ cs => PV.nofrL cs
  | _ => true
def PV.nofrL : List PV → Bool
  | [] => true
  | c :: cs => PV.nofr c && PV.nofrL cs
end
theorem nofrL_getD : ∀ {cs : List PV} (h : PV.nofrL cs = true) (i : Nat), (cs.getD i .any).nofr = true
  | [], _, i => by simp [PV.nofr]
  | c :: cs, h, 0 => by simp [PV.nofrL] at h; simpa using h.1
  | c :: cs, h, i + 1 => by simp [PV.nofrL] at h; simpa using nofrL_getD h.2 i
theorem nofrL_of : ∀ {cs : List PV} (h : ∀ c ∈ cs, c.nofr = true), PV.nofrL cs = true
  | [], _ => rfl
  | c :: cs, h => by simp only [PV.nofrL, Bool.and_eq_true]; exact ⟨h c (by simp), nofrL_of fun x hx => h x (by simp [hx])⟩
theorem nofr_cells {p : PV} (h : p.nofr = true) (j : Nat) : (p.cells.getD j .any).nofr = true := by
  have one : ∀ q : PV, q.nofr = true → (([q] : List PV).getD j .any).nofr = true := fun q hq => by
    cases j with
    | zero => exact hq
    | succ j => rfl
  cases p with
  | agg cs => exact nofrL_getD (cs := cs) h j
  | _ => exact one _ h
/-- what is young may be told otherwise, where nothing is told as young -/
theorem Rep.rez {S S' : Stable} (hc : S'.c = S.c) (hm : S'.m = S.m) {v : Value} {p : PV} (r : Rep S v p) (h : p.nofr = true) : Rep S' v p := by
  induction r with
  | any v => exact .any v
  | int k n => exact .int k n
  | bool b => exact .bool b
  | str l => exact .str l
  | flt k b => exact .flt k b
  | cpx k a b => exact .cpx k a b
  | agg vs cs hl _ ih => exact .agg vs cs hl (fun i hi => ih i hi (nofrL_getD h i))
  | tup vs cs hl _ ih => exact .tup vs cs hl (fun i hi => ih i hi (nofrL_getD h i))
  | sl0 a cap => exact .sl0 a cap
  | slnil => exact .slnil
  | sl b o cap sz es vals hsz hcap hS _ ih =>
    simp only [PV.nofr, Bool.and_eq_true] at h
    exact .sl b o cap sz es vals hsz hcap (fun i j hi hj => by rw [hc]; exact hS i j hi hj) (fun i j hi hj => ih i j hi hj (nofr_cells (nofrL_getD h.2 i) j))
  | slf v es _ hz ih => simp [PV.nofr] at h
  | rptr b o cs vals hS _ ih => exact .rptr b o cs vals (fun j hj => by rw [hc]; exact hS j hj) (fun j hj => ih j hj (nofrL_getD h j))
  | nilp => exact .nilp
  | nilfn => exact .nilfn
  | nilmap => exact .nilmap
  | mref b => exact .mref b
  | iptr b => exact .iptr b
  | rmap b es ks vs hS hk hv hb _ _ ihK ihV =>
    simp only [PV.nofr, Bool.and_eq_true] at h
    exact .rmap b es ks vs (by rw [hm]; exact hS) hk hv hb (fun i hi => ihK i hi (nofrL_getD h.1 i)) (fun i hi => ihV i hi (nofrL_getD h.2 i))
  | fn f vs cs hl _ ih => exact .fn f vs cs hl (fun i hi => ih i hi (nofrL_getD h i))
section
variable {P : Program}
/-- a contract whose arguments are told more closely -/
theorem Pure.tell {f : FuncId} {args args' : List PV} {r : PV} (h : Pure P f args' r) (hl : args.length = args'.length) (ht : ∀ i, i < args.length → ∀ S v, Rep S v (args.getD i .any) → Rep S v (args'.getD i .any)) : Pure P f args r :=
  ⟨h.1, h.2.1, fun w S vs hst hyo hlen hr => h.2.2 w S vs hst hyo (hlen.trans hl) fun i hi => ht i (by omega) S _ (hr i (by omega))⟩
end
end Go.PL

namespace Go.PL
open Go.RowKit
set_option linter.unusedVariables false
/-! A REGION THAT DRAWS: all of its operations but the last one only look, and the last one waits for all of them -/
section
variable {P : Program} {ops : Array Oper} {Q : Exit → Act → World → Prop} {md : Region.Mode} {S : World → Prop}
def wpAnyG (P : Program) (md : Region.Mode) (ops : Array Oper) (last : Nat) (Q : Exit → Act → World → Prop) (S : World → Prop) : Nat → Array Bool → Act → World → Prop
  | 0, listed, a, w => Region.ready md ops listed = [] ∧ Q .normal a w
  | fuel + 1, listed, a, w =>
    (Region.ready md ops listed = [] → Q .normal a w) ∧
    ∀ i ∈ Region.ready md ops listed, wpOp P ops Q i (fun a' w' => (i ≠ last → S w') ∧ wpAnyG P md ops last Q S fuel (listed.setIfInBounds i true) a' w') a w
theorem wpAny_of_G {last : Nat} : ∀ (fuel : Nat) (listed : Array Bool) (a : Act) (w : World), wpAnyG P md ops last Q S fuel listed a w → wpAny P md ops Q fuel listed a w
  | 0, _, _, _, h => h
  | fuel + 1, _, _, _, h => ⟨h.1, fun i hi => wpOp_mono (fun a' w' h' => wpAny_of_G fuel _ a' w' h'.2) (h.2 i hi)⟩
/-- whoever has come up, all that he waited for has come up -/
def Closed (md : Region.Mode) (ops : Array Oper) (listed : Array Bool) : Prop :=
  ∀ x ox, ops[x]? = some ox → listed.getD x true = true → ∀ e ∈ ox.after, Region.binds md e = true → listed.getD e.on false = true
theorem Closed.step {listed : Array Bool} {j : Nat} (h : Closed md ops listed) (hj : j ∈ Region.ready md ops listed) : Closed md ops (listed.setIfInBounds j true) := by
  intro x ox hx hl e he hb
  refine getD_set_true ?_
  by_cases e' : j = x
  · subst e'
    obtain ⟨_, o, ho, hall⟩ := mem_ready.1 hj
    rw [ho] at hx; cases hx
    exact hall e he hb
  · rw [getD_set_ne true e'] at hl
    exact h x ox hx hl e he hb
/-- each but the last is waited for by one further on -/
def chained (md : Region.Mode) (ops : Array Oper) (last : Nat) : Bool :=
  (List.range last).all fun i => (List.range (last + 1)).any fun j => decide (i < j) && ((ops[j]?).map fun o => o.after.any fun e => Region.binds md e && e.on == i).getD false
theorem last_waits {listed : Array Bool} {last : Nat} (hc : chained md ops last = true) (hcl : Closed md ops listed) (hl : last ∈ Region.ready md ops listed) (hsz : listed.size = ops.size) :
    ∀ (n i : Nat), i < last → last - i ≤ n → listed.getD i true = true := by
  have key : ∀ (n i : Nat), i < last → last - i ≤ n → listed.getD i false = true := by
    intro n
    induction n with
    | zero => intro i hi hn; omega
    | succ n ih =>
      intro i hi hn
      simp only [chained, List.all_eq_true, List.mem_range, List.any_eq_true, Bool.and_eq_true, decide_eq_true_eq] at hc
      obtain ⟨j, hj, hij, hd⟩ := hc i hi
      cases ho : ops[j]? with
      | none => rw [ho] at hd; cases hd
      | some o =>
        rw [ho] at hd
        simp only [Option.map_some, Option.getD_some] at hd
        obtain ⟨e, he, hb⟩ := Array.any_eq_true'.1 hd
        simp only [Bool.and_eq_true, beq_iff_eq] at hb
        rw [← hb.2]
        by_cases hjl : j = last
        · subst hjl
          obtain ⟨_, o', ho', hall⟩ := mem_ready.1 hl
          rw [ho] at ho'; cases ho'
          exact hall e he hb.1
        · have hjs : j < ops.size := (Array.getElem?_eq_some_iff.1 ho).1
          have h1 := ih j (by omega) (by omega)
          have h2 : listed.getD j true = true := by
            have hj2 : j < listed.size := by omega
            simp [hj2] at h1 ⊢; exact h1
          exact hcl j o ho h2 e he hb.1
  intro n i hi hn
  have h1 := key n i hi hn
  by_cases hs : i < listed.size
  · simp [hs] at h1 ⊢; exact h1
  · simp [Array.getElem?_eq_none (Nat.le_of_not_lt hs)] at h1
theorem wpAnyG_first {last : Nat} (hc : chained md ops last = true) (hls : last + 1 = ops.size) {i : Nat} {oi : Oper} {v : Value} (hi : ops[i]? = some oi) (hil : i < last) (hsel : ∀ (j : Nat) (o : Oper) cs b, ops[j]? = some o → o.op ≠ .select cs b)
    (hQ : ∀ c a w, Q (.panic c) (a.put oi.dst v) w → Q (.panic c) a w) :
    ∀ (fuel : Nat) (listed : Array Bool) (a : Act) (w : World), Closed md ops listed → listed.size = ops.size →
      (∀ j oj, ops[j]? = some oj → j ≠ i → listed.getD j true = false → (∀ e ∈ oj.after, Region.binds md e = true → e.on ≠ i) → oi.apart ops oj = true) →
      i ∈ Region.ready md ops listed → YieldsIf P ops S oi v a → S w →
      wpAnyG P md ops last Q S fuel (listed.setIfInBounds i true) (a.put oi.dst v) w → wpAnyG P md ops last Q S (fuel + 1) listed a w := by
  intro fuel
  induction fuel with
  | zero =>
    intro listed a w _ _ _ hr hy hS H
    refine ⟨fun h => (by rw [h] at hr; cases hr), fun j hj => ?_⟩
    by_cases hji : j = i
    · subst hji; exact hy.wpOp hi hS ⟨fun _ => hS, H⟩
    · have := ready_mono hj hji
      rw [H.1] at this
      cases this
  | succ fuel ih =>
    intro listed a w hcl hsz hfree hr hy hS H
    refine ⟨fun h => (by rw [h] at hr; cases hr), fun j hj => ?_⟩
    by_cases hji : j = i
    · subst hji; exact hy.wpOp hi hS ⟨fun _ => hS, H⟩
    · have hjl : j ≠ last := fun e => by
        subst e
        have h1 := last_waits hc hcl hj hsz (j - i) i hil (Nat.le_refl _)
        have h0 := (mem_ready.1 hr).1
        rw [h1] at h0; cases h0
      have h1 := H.2 j (ready_mono hj hji)
      obtain ⟨hjun, oj, hoj, hall⟩ := mem_ready.1 hj
      have hnot : ∀ e ∈ oj.after, Region.binds md e = true → e.on ≠ i := fun e he hb heq => by
        have h1 := hall e he hb
        have h0 := (mem_ready.1 hr).1
        rw [heq] at h1
        rcases Nat.lt_or_ge i listed.size with h' | h'
        · simp [h'] at h0 h1; rw [h0] at h1; cases h1
        · simp [Array.getElem?_eq_none h'] at h1
      have h2 := wpOp_putIf hoj (hfree j oj hoj hji hjun hnot) (fun cs b => hsel i oi cs b hi) (fun cs b => hsel j oj cs b hoj) hQ hy h1
      have hfree' : ∀ k ok, ops[k]? = some ok → k ≠ i → (listed.setIfInBounds j true).getD k true = false →
          (∀ e ∈ ok.after, Region.binds md e = true → e.on ≠ i) → oi.apart ops ok = true := fun k ok hk hki hun hno => by
        refine hfree k ok hk hki ?_ hno
        by_cases hjk : j = k
        · subst hjk; exact hjun
        · rw [getD_set_ne true hjk] at hun; exact hun
      refine wpOp_mono (fun a' w' h3 => ⟨h3.2.1, ih (listed.setIfInBounds j true) a' w' (hcl.step hj) (by simpa using hsz) hfree' (ready_mono hr (Ne.symm hji)) h3.1 (h3.2.1 hjl) ?_⟩) h2
      rw [Array.setIfInBounds_comm _ _ hji]
      exact h3.2.2
/-- one after the other, each only looks: what is left, and then K -/
def held (P : Program) (ops : Array Oper) (S : World → Prop) (K : Act → Prop) : List Oper → Act → Prop
  | [], a => K a
  | o :: rest, a => ∃ v, YieldsIf P ops S o v a ∧ held P ops S K rest (a.put o.dst v)
theorem anyG_lex {last : Nat} (hc : chained md ops last = true) (hls : last + 1 = ops.size) (hs : Region.noSelect ops = true) (hQ : ∀ c a w, ¬ Q (.panic c) a w) {w : World} (hS : S w) {ol : Oper} (hol : ops[last]? = some ol) (hg : ol.guard = none) :
    ∀ (l : List Oper) (k : Nat) (listed : Array Bool) (a : Act), k + l.length = last → (∀ j, j < l.length → l[j]? = ops[k + j]?) → Closed md ops listed → listed.size = ops.size →
    Region.lexFrom md ops (l.length + 1) k listed = true → held P ops S (fun a' => ol.wp P a' w (fun a2 w2 => Q .normal a2 w2) Q) l a → wpAnyG P md ops last Q S (l.length + 1) listed a w
  | [], k, listed, a, hk, _, hcl, hsz, hB, h => by
    simp only [List.length_nil, Nat.add_zero] at hk
    subst hk
    simp only [List.length_nil, Region.lexFrom, Bool.and_eq_true] at hB
    obtain ⟨⟨hr, hf⟩, hB'⟩ := hB
    have hr' : k ∈ Region.ready md ops listed := by simpa using hr
    refine ⟨fun h0 => (by rw [h0] at hr'; cases hr'), fun j hj => ?_⟩
    have hjk : j = k := by
      by_cases e : j = k
      · exact e
      · have h1 := ready_mono hj e
        have h2 : Region.ready md ops (listed.setIfInBounds k true) = [] := by simpa using hB'
        rw [h2] at h1; cases h1
    subst hjk
    unfold wpOp
    simp only [hol]
    have hw : Region.wanted ol (yielded ops a.tmps) = true := by simp [Region.wanted, hg]
    simp only [hw, if_true]
    refine .inl (Oper.wp_mono (fun a2 w2 h2 => ⟨fun hne => absurd rfl hne, by simpa using hB', h2⟩) h)
  | o :: l, k, listed, a, hk, hl, hcl, hsz, hB, h => by
    have h0 : ops[k]? = some o := by simpa using (hl 0 (by simp)).symm
    simp only [List.length_cons] at hk
    rw [List.length_cons, Region.lexFrom] at hB
    simp only [Bool.and_eq_true] at hB
    obtain ⟨⟨hr, hf⟩, hB'⟩ := hB
    have hr' : k ∈ Region.ready md ops listed := by simpa using hr
    obtain ⟨v, hy, hK⟩ := h
    exact wpAnyG_first hc hls h0 (by omega) (Region.noSelect_spec hs) (fun c a w hq => absurd hq (hQ c _ w)) (l.length + 1) listed a w hcl hsz (Region.free_spec h0 hf) hr' hy hS
      (anyG_lex hc hls hs hQ hS hol hg l (k + 1) _ _ (by omega) (fun j hj => by have := hl (j + 1) (by simpa using hj); simpa [Nat.add_assoc, Nat.add_comm 1 j] using this) (hcl.step hr') (by simpa using hsz) hB' hK)
theorem wp_region_one {id : Nat} {a : Act} {w : World} {l : List Oper} {ol : Oper} (hm : P.follows .mixedOrders = true) (hB : Region.lexB .any (l ++ [ol]).toArray = true) (hc : chained .any (l ++ [ol]).toArray l.length = true) (hg : ol.guard = none)
    (hQ : ∀ c a w, ¬ Q (.panic c) a w)
    (h : held P (l ++ [ol]).toArray (fun w' => w' = { w with drawn := w.drawn + 1 }) (fun a' => ol.wp P a' { w with drawn := w.drawn + 1 } (fun a2 w2 => Q .normal a2 w2) Q) l a) : (Code.region id (l ++ [ol]).toArray true).wp P Q a w := by
  simp only [Region.lexB, Bool.and_eq_true] at hB
  refine wp_region_any hm ?_
  have hz : (l ++ [ol]).toArray.size = l.length + 1 := by simp
  rw [hz]
  refine wpAny_of_G (ops := (l ++ [ol]).toArray) (last := l.length) (S := fun w' => w' = { w with drawn := w.drawn + 1 }) _ _ _ _ (anyG_lex (S := fun w' => w' = { w with drawn := w.drawn + 1 }) (w := { w with drawn := w.drawn + 1 }) hc hz.symm hB.1 hQ rfl (by simp) hg l 0 (Array.replicate (l.length + 1) false) a (by simp) (fun j hj => by simp [List.getElem?_append_left hj]) ?_ (by simp) ?_ h)
  · intro x ox hx hl e he hb
    have hx' := (Array.getElem?_eq_some_iff.1 hx).1
    rw [hz] at hx'
    simp [hx'] at hl
  · have := hB.2
    rw [hz] at this
    exact this
end
end Go.PL

namespace Go.PL
open Go.RowKit
set_option linter.unusedVariables false
/-! RAW STEPS: what an operation comes to, told of values -/
section
variable {P : Program} {ev : Operand → Value} {w : World} {dst : Option Nat} {ty : TypeId} {pos : String} {af : Array Edge} {g : Option (Nat × Bool)}
theorem rx_move {x : Operand} : (execOp ev ⟨dst, .move x, ty, pos, af, g⟩).run P w = .ok (.value (ev x)) w := by simp [execOp]
theorem rx_assign {x : Operand} : (execOp ev ⟨dst, .assign x, ty, pos, af, g⟩).run P w = .ok (.value (ev x)) w := by simp [execOp]
theorem rx_lss {t yt : TypeId} {x y : Operand} {m n : Int} (hx : ev x = .int .i64 m) (hy : ev y = .int .i64 n) : (execOp ev ⟨dst, .binOp .lss t x y yt, ty, pos, af, g⟩).run P w = .ok (.value (.bool (decide (m < n)))) w := by
  simp [execOp, hx, hy, eqGuard, binOp, Op.intCmp]
theorem rx_add {t yt : TypeId} {x y : Operand} {m n : Int} (hx : ev x = .int .i64 m) (hy : ev y = .int .i64 n) : (execOp ev ⟨dst, .binOp .add t x y yt, ty, pos, af, g⟩).run P w = .ok (.value (.int .i64 (IntKind.i64.wrap (m + n)))) w := by
  simp [execOp, hx, hy, eqGuard, binOp, Op.intArith]
def xorV (m n : Int) : Int := IntKind.i64.wrap ↑((m % 2 ^ IntKind.i64.bits).toNat ^^^ (n % 2 ^ IntKind.i64.bits).toNat)
theorem rx_xor_eq {t yt : TypeId} {x y : Operand} {m n : Int} (hx : ev x = .int .i64 m) (hy : ev y = .int .i64 n) : (execOp ev ⟨dst, .binOp .xor t x y yt, ty, pos, af, g⟩).run P w = .ok (.value (.int .i64 (xorV m n))) w := by
  simp [execOp, hx, hy, eqGuard, binOp, Op.intBits, xorV]
theorem rx_len {x : Operand} {t : TypeId} {A : Option Addr} {n c : Nat} (ht : tlen P t = .slc) (hx : ev x = .slice A n c) : (execOp ev ⟨dst, .call ⟨.builtin .len, #[x], #[t]⟩, ty, pos, af, g⟩).run P w = .ok (.value (.int .i64 n)) w := by
  obtain ⟨e, h1⟩ : ∃ e, P.underlying t = some (.slice e) := by
    unfold tlen at ht
    split at ht
    · cases ht
    · rename_i h1; exact ⟨_, h1⟩
    · cases ht
    · split at ht <;> cases ht
    · cases ht
  simp [execOp, hx, resolve, invoke, builtin, Builtin.len_, run_und h1, goInt]
theorem rx_index {t : TypeId} {x i : Operand} {sz : Nat} {ag : Bool} {b o n c : Nat} {k : Nat} (ht : tix P t = .slc sz ag) (hx : ev x = .slice (some ⟨b, o, none⟩) n c) (hi : ev i = .int .i64 k) (hk : k < n) :
    (execOp ev ⟨dst, .indexAddr t x i, ty, pos, af, g⟩).run P w = .ok (.value (.pointer (some ⟨b, o + k * sz, none⟩))) w := by
  obtain ⟨e, d, ti, h1, rfl, rfl, h2, h3⟩ := tix_slc ht
  have g1 : (0 : Int) ≤ (k : Int) := by omega
  simp [execOp, hx, hi, Instr.indexAt, asIntOf, run_und h1, run_szo h3, g1, add_none, hk]
theorem rx_field {t : TypeId} {x : Operand} {f off sz : Nat} {ag : Bool} {b o : Nat} (ht : tfld P t f = some (off, sz, ag)) (h0 : sz ≠ 0) (hx : ev x = .pointer (some ⟨b, o, none⟩)) :
    (execOp ev ⟨dst, .fieldAddr t x f, ty, pos, af, g⟩).run P w = .ok (.value (.pointer (some ⟨b, o + off, none⟩))) w := by
  obtain ⟨fs, fd, h1, h2, rfl, rfl, rfl, ⟨d, hd⟩, i, h3⟩ := tfld_spec ht
  have add0 : ∀ b o n : Nat, (⟨b, o, none⟩ : Addr).add n = ⟨b, o + n, none⟩ := fun b o n => by
    unfold Addr.add; split <;> simp_all
  simp [execOp, hx, Instr.fieldAt, Sem.run_bind, run_und h1, Result.andThen_ok, h2, Instr.sureAddr, Sem.run_pure, fieldPlace, run_szo h3, add0, h0]
theorem rx_load {t : TypeId} {x : Operand} {b o : Nat} {v : Value} (hk : tkn P t = true) (hg : tagg P t = false) (hx : ev x = .pointer (some ⟨b, o, none⟩)) (hc : w.cell? ⟨b, o, none⟩ = some v) :
    (execOp ev ⟨dst, .load t x, ty, pos, af, g⟩).run P w = .ok (.value v) w := by
  obtain ⟨d, hd⟩ : ∃ d, P.underlying t = some d := by
    unfold tkn at hk
    cases e : P.underlying t with
    | none => rw [e] at hk; cases hk
    | some d => exact ⟨d, rfl⟩
  simp [execOp, hx, Instr.loadAt, Instr.sureAddr, loadVar, run_isAgg hd, hg, hc]
/-- one cell stored -/
theorem rx_store {t tt : TypeId} {x y : Operand} {b o : Nat} {v : Value} {vs : List Value} (hk : tkn P t = true) (hz : tsz P t = 1) (hx : ev x = .pointer (some ⟨b, o, none⟩)) (hy : ev y = v) (hv : v.oneCell' = true) (hcs : v.cells = #[v]) (hb : w.heap[b]? = some (.cells ⟨vs⟩ tt (0, 0))) (ho : o < vs.length) :
    (execOp ev ⟨dst, .store t x y, ty, pos, af, g⟩).run P w = .ok .skip (w.setRow b ⟨vs.take o ++ [v] ++ vs.drop (o + 1)⟩) := by
  obtain ⟨d, hd⟩ : ∃ d, P.underlying t = some d := by
    unfold tkn at hk
    cases e : P.underlying t with
    | none => rw [e] at hk; cases hk
    | some d => exact ⟨d, rfl⟩
  obtain ⟨i, hi⟩ := info_of_und hd
  have hrun := run_storeCells_at (P := P) b o tt [v] 0 ⟨vs⟩ w hb (by simp; omega) (by simpa using hv)
  have : (Instr.storeAt t (ev x) (ev y)).run P w = .ok () (w.setRow b ⟨vs.take o ++ [v] ++ vs.drop (o + 1)⟩) := by
    rw [hx, hy]
    simp only [Instr.storeAt, Instr.sureAddr, Sem.run_bind, Sem.run_pure, Result.andThen_ok, storeVar, run_szo hi, hcs, hz]
    simpa using hrun
  simp [execOp, this]
end
/-! the slots as a function -/
structure RS (N : Nat) (a : Act) (f : Nat → Value) : Prop where
  d : a.defers = []
  n : a.tmps.size = N
  f : ∀ i, a.tmps.getD i undef = f i
theorem RS.tmp {N : Nat} {a : Act} {f : Nat → Value} (h : RS N a f) (i : Nat) : a.eval (.tmp i) = f i := by rw [← h.f i]; rfl
theorem RS.put {N d : Nat} {a : Act} {f : Nat → Value} (h : RS N a f) (hd : d < N) (v : Value) : RS N (a.put (some d) v) (upd f d v) :=
  ⟨h.d, by simp [Act.put, h.n], fun i => by
    have := h.f i
    have hn := h.n
    simp only [Act.put, upd, Array.getD_eq_getD_getElem?, Array.getElem?_setIfInBounds] at this ⊢
    by_cases e : d = i
    · subst e; simp [hn, hd]
    · simp [e]; exact this⟩
theorem RS.skip {N : Nat} {a : Act} {f : Nat → Value} (h : RS N a f) (v : Value) : RS N (a.put none v) f := h
def nrm (R : Act → World → Prop) : Exit → Act → World → Prop := fun e a w => e = .normal ∧ R a w
section
variable {P : Program} {N : Nat} {a : Act} {w : World} {f : Nat → Value} {Q : Exit → Act → World → Prop}
theorem wp_seqN {x y : Code} {R : Act → World → Prop} (h1 : x.wp P (nrm R) a w) (h2 : ∀ a w, R a w → y.wp P Q a w) : (Code.seq x y).wp P Q a w :=
  wp_seq (wp_mono h1 fun e a' w' ⟨he, hr⟩ => by subst he; exact h2 a' w' hr)
/-- an operation that looks, in a region that does not draw -/
theorem ops_look {o : Oper} {ops : Array Oper} {i d : Nat} {rest : List Nat} {v : Value} (hR : RS N a f) (ho : ops[i]? = some o) (hg : o.guard = none) (hd : o.dst = some d) (hdN : d < N)
    (hr : (execOp a.eval o).run P w = .ok (.value v) w) (h : ∀ a', RS N a' (upd f d v) → wpOps P ops Q rest a' w) : wpOps P ops Q (i :: rest) a w := by
  refine wpOps_go ho hg ?_
  unfold Oper.wp
  rw [hr]
  show wpOps P ops Q rest (a.put o.dst v) w
  rw [hd]
  exact h _ (hR.put hdN v)
theorem ops_end {ops : Array Oper} (h : Q .normal a w) : wpOps P ops Q [] a w := h
theorem held_look {o : Oper} {ops : Array Oper} {d : Nat} {rest : List Oper} {v : Value} {K : Act → Prop} (hR : RS N a f) (hg : o.guard = none) (hd : o.dst = some d) (hdN : d < N)
    (hr : (execOp a.eval o).run P w = .ok (.value v) w) (h : ∀ a', RS N a' (upd f d v) → held P ops (fun w' => w' = w) K rest a') : held P ops (fun w' => w' = w) K (o :: rest) a := by
  refine ⟨v, .inl ⟨by simp [Region.wanted, hg], fun w' hw => by rw [hw]; exact hr⟩, ?_⟩
  rw [hd]
  exact h _ (hR.put hdN v)
/-- an operation that stores -/
theorem op_store {o : Oper} {w' : World} {K : Act → World → Prop} (hR : RS N a f) (hd : o.dst = none) (hr : (execOp a.eval o).run P w = .ok .skip w') (h : ∀ a', RS N a' f → K a' w') : o.wp P a w K Q := by
  unfold Oper.wp
  rw [hr]
  show K (a.put o.dst undef) w'
  rw [hd]
  exact h _ (hR.skip undef)
/-- a loop, with a number that falls -/
theorem wp_loop_inv {c : Code} (I : Nat → Act → World → Prop) (hQ : ∀ a w, ¬ Q .normal a w) (round : ∀ m a w, I m a w → c.wp P (Exit.then (fun a' w' => ∃ m', m' < m ∧ I m' a' w') Q) a w) {m : Nat} (h : I m a w) : (Code.loop c).wp P Q a w := by
  have key : ∀ (n m : Nat) (a : Act) (w : World), m < n → I m a w → Code.rounds P c Q n a w := by
    intro n
    induction n with
    | zero => intro m a w hm; omega
    | succ n ih =>
      intro m a w hm hI
      rw [rounds_succ]
      refine wp_mono (round m a w hI) fun e a' w' hq => ?_
      cases e with
      | normal => obtain ⟨m', h1, h2⟩ := hq; exact ih m' a' w' (by omega) h2
      | _ => exact hq
  exact wp_loop_rounds (m + 1) (key (m + 1) m a w (Nat.lt_succ_self _) h)
end
/-! young memory that is written by such as may -/
def LikeV (v v' : Value) : Prop := v' = v ∨ (∃ m n, v = .int .i64 m ∧ v' = .int .i64 n) ∨ ∃ m n, v = .string m ∧ v' = .string n
theorem LikeV.refl (v : Value) : LikeV v v := .inl rfl
theorem LikeV.trans {u v x : Value} (h1 : LikeV u v) (h2 : LikeV v x) : LikeV u x := by
  rcases h1 with rfl | ⟨m, n, rfl, rfl⟩ | ⟨m, n, rfl, rfl⟩
  · exact h2
  · rcases h2 with rfl | ⟨m', n', e, rfl⟩ | ⟨m', n', e, rfl⟩
    · exact .inr (.inl ⟨_, _, rfl, rfl⟩)
    · exact .inr (.inl ⟨_, _, rfl, rfl⟩)
    · cases e
  · rcases h2 with rfl | ⟨m', n', e, rfl⟩ | ⟨m', n', e, rfl⟩
    · exact .inr (.inr ⟨_, _, rfl, rfl⟩)
    · cases e
    · exact .inr (.inr ⟨_, _, rfl, rfl⟩)
theorem LikeV.slice {A : Option Addr} {n c : Nat} {v : Value} (h : LikeV (.slice A n c) v) : v = .slice A n c := by
  rcases h with h | ⟨m, n, e, _⟩ | ⟨m, n, e, _⟩
  · exact h
  · cases e
  · cases e
theorem LikeV.int {k : Int} {v : Value} (h : LikeV (.int .i64 k) v) : ∃ n, v = .int .i64 n := by
  rcases h with h | ⟨m, n, e, h⟩ | ⟨m, n, e, _⟩
  · exact ⟨_, h⟩
  · exact ⟨_, h⟩
  · cases e
theorem LikeV.str {k : ByteArray} {v : Value} (h : LikeV (.string k) v) : ∃ n, v = .string n := by
  rcases h with h | ⟨m, n, e, _⟩ | ⟨m, n, e, h⟩
  · exact ⟨_, h⟩
  · cases e
  · exact ⟨_, h⟩
/-- the blocks from lo on are as they were, but for numbers and texts; the others are just as they were -/
structure KeepW (lo : Nat) (w w' : World) : Prop where
  b : BelowF (fun k => k < lo) w w'
  k : ∀ (b : Nat) (vs : List Value) (t : TypeId), w.heap[b]? = some (Obj.cells ⟨vs⟩ t (0, 0)) → ∃ vs' : List Value, w'.heap[b]? = some (Obj.cells ⟨vs'⟩ t (0, 0)) ∧ vs'.length = vs.length ∧ ∀ o, LikeV (vs.getD o undef) (vs'.getD o undef)
theorem KeepW.refl (lo : Nat) (w : World) : KeepW lo w w := ⟨BelowF.refl _ w, fun b vs t h => ⟨vs, h, rfl, fun _ => .refl _⟩⟩
theorem KeepW.trans {lo : Nat} {a b c : World} (h1 : KeepW lo a b) (h2 : KeepW lo b c) : KeepW lo a c :=
  ⟨h1.b.trans h2.b, fun k vs t h => by
    obtain ⟨vs', e1, e2, e3⟩ := h1.k k vs t h
    obtain ⟨vs2, e4, e5, e6⟩ := h2.k k vs' t e1
    exact ⟨vs2, e4, e5.trans e2, fun o => (e3 o).trans (e6 o)⟩⟩
theorem KeepW.drew {lo : Nat} (w : World) : KeepW lo w { w with drawn := w.drawn + 1 } := ⟨(BelowF.refl _ w).drew, fun b vs t h => ⟨vs, h, rfl, fun _ => .refl _⟩⟩
end Go.PL

namespace Go.PL
open Go.RowKit
set_option linter.unusedVariables false
theorem upds_ind {α : Type} {R : Nat → α → Prop} {f : Nat → α} : ∀ {L : List (Nat × α)}, (∀ x ∈ L, R x.1 x.2) → (∀ i, R i (f i)) → ∀ i, R i (upds L f i)
  | [], _, h0, i => h0 i
  | x :: L, h, h0, i => by
    show R i (upd (upds L f) x.1 x.2 i)
    by_cases e : x.1 = i
    · subst e; rw [upd_same]; exact h x (by simp)
    · rw [upd_ne _ _ e]; exact upds_ind (fun y hy => h y (by simp [hy])) h0 i
/-- two tables over one list: the first entry of a key gives both -/
theorem upds_both {α β γ : Type} {F : α → β} {G : α → γ} {f : Nat → β} {g : Nat → γ} {k : α → Nat} : ∀ (H : List α) (i : Nat),
    (∃ x ∈ H, k x = i ∧ upds (H.map fun x => (k x, F x)) f i = F x ∧ upds (H.map fun x => (k x, G x)) g i = G x) ∨ ((∀ x ∈ H, k x ≠ i) ∧ upds (H.map fun x => (k x, F x)) f i = f i ∧ upds (H.map fun x => (k x, G x)) g i = g i)
  | [], i => .inr ⟨by simp, rfl, rfl⟩
  | x :: H, i => by
    by_cases e : k x = i
    · refine .inl ⟨x, by simp, e, ?_, ?_⟩
      · show upd _ (k x) (F x) i = F x; rw [e, upd_same]
      · show upd _ (k x) (G x) i = G x; rw [e, upd_same]
    · have e1 : upds ((x :: H).map fun x => (k x, F x)) f i = upds (H.map fun x => (k x, F x)) f i := upd_ne _ _ e
      have e2 : upds ((x :: H).map fun x => (k x, G x)) g i = upds (H.map fun x => (k x, G x)) g i := upd_ne _ _ e
      rw [e1, e2]
      rcases upds_both (F := F) (G := G) (f := f) (g := g) (k := k) H i with ⟨y, hy, h⟩ | ⟨h1, h⟩
      · exact .inl ⟨y, by simp [hy], h⟩
      · exact .inr ⟨fun y hy => by rcases List.mem_cons.1 hy with rfl | hy; exact e; exact h1 y hy, h⟩
/-- the second phase: slots told, blocks that are read alone and lie where they lay -/
def yst (N : Nat) (L : List (Nat × PV)) (H : List (Nat × List PV)) (φ : Nat → Nat) : St :=
  ⟨upds (H.map fun x => (x.1, PV.ptr x.1 0)) (upds L fun _ => .any), { Hp.empty with h := upds (H.map fun x => (x.1, some x.2)) fun _ => none, z := upds (H.map fun x => (x.1, true)) fun _ => false, ph := upds (H.map fun x => (x.1, some (φ x.1))) fun _ => none }, N⟩
section
variable {P : Program}
/-- A FUNCTION IN THREE PHASES: told; told anew, where all that is made from there on is young; raw. It answers with a truth value. -/
theorem Pure.raw2 {f : FuncId} {fn : Func} {c : Code} {args : List PV} {r : Bool} (k k2 N : Nat) (L : List (Nat × PV)) (H : List (Nat × List PV)) (L3 : List (Nat × PV)) {Q1 : St → Prop} {Q2 : (Nat → Nat) → St → Prop}
    (hf : P.funcs[f]? = some fn) (hname : fn.name ≠ "runtime.NumGoroutine") (hb : fn.body = some c) (hl : args.length ≤ fn.ntmps)
    (h1 : tawp P Q1 k c (St.init args fn.ntmps))
    (hQ : ∀ s, Q1 s → s.n = N ∧ (∀ x ∈ L, Pub (fun _ => False) s.m (s.fr x.1) x.2 ∧ x.2.ids = [] ∧ x.2.nofr = true) ∧ ∀ x ∈ H, s.fr x.1 = .ptr x.1 0 ∧ Pub (fun _ => False) s.m (.ptr x.1 0) (.rptr x.2) ∧ (∀ p ∈ x.2, p.ids = []) ∧ PV.nofrL x.2 = true)
    (h2 : ∀ φ : Nat → Nat, tawp P (Q2 φ) k2 (dropC k c) (yst N L H φ))
    (hQ2 : ∀ φ s, Q2 φ s → s.n = N ∧ (∀ x ∈ L3, Pub (fun _ => False) s.m (s.fr x.1) x.2 ∧ x.2.ids = []) ∧ ∀ x ∈ H, s.fr x.1 = .ptr x.1 0 ∧ s.m.ph x.1 = some (φ x.1))
    (h3 : ∀ (n : Nat) (S2 S3 : Stable) (a : Act) (w : World), (∀ w', BelowF (fun k => k < n) w w' → StabS S2 w') → n ≤ w.heap.size → (∀ b, S2.z b ↔ n ≤ b) → StabS S3 w → (∀ b, S3.z b ↔ n ≤ b) → a.defers = [] → a.tmps.size = N →
      (∀ x ∈ L3, Rep S3 (a.tmps.getD x.1 undef) x.2) → (∀ x ∈ H, Rep S2 (a.tmps.getD x.1 undef) (.rptr x.2)) →
      (dropC k2 (dropC k c)).wp P (fun ex a' w' => (ex = .normal ∨ ex = .ret) ∧ a'.defers = [] ∧ (results fn a'.tmps).run P w' = .ok (.bool r) w' ∧ BelowF (fun k => k < n) w w') a w) : Pure P f args (.bool r) := by
  refine ⟨⟨fn, hf, hname, by rw [hb]; rfl⟩, rfl, fun w S vs hst hyo hlen hrep => ?_⟩
  refine calls_of_wp hf hb ?_
  have hs := sim_init (B := fun k => k < w.heap.size) (w := w) (n := fn.ntmps) (o := fun _ => none) hl hlen hrep (fun k hk => hk) ⟨hst, fun b c hc => by simp at hc, fun b x hx => by simp at hx⟩ (fun k hk => hyo k (Nat.le_of_not_lt hk))
  have hsz : (⟨vs⟩ : Array Value).size = vs.length := by simp
  rw [hsz]
  refine tawp_sound (B := fun k => k < w.heap.size) (S0 := S) (w0 := w) k c _ S _ _ w h1 hs (Ext.refl _ _ _) fun s1 S1 M1 a1 w1 hq hs1 hx => ?_
  obtain ⟨hsn, hL, hH⟩ := hQ s1 hq
  have hsize : w.heap.size ≤ w1.heap.size := hx.2.2.size
  have hn : a1.tmps.size = N := by rw [hs1.hn, hsn]
  -- the second phase's memory
  let S0 := pubS (fun _ => False) S1 M1 s1.m w1
  let S2 : Stable := ⟨S0.c, S0.m, fun b => w1.heap.size ≤ b, S0.y⟩
  have hst0 : StabS S0 w1 := pubS_stab hs1
  have hst2 : StabS S2 w1 := ⟨hst0.c, hst0.m, hst0.y⟩
  have hrL : ∀ x ∈ L, Rep S2 (a1.tmps.getD x.1 undef) x.2 := fun x hx => by
    obtain ⟨p1, p2, p3⟩ := hL x hx
    exact ((p1.rep hs1 _ (hs1.fr x.1)).alone p2).rez (S := S0) (S' := S2) rfl rfl p3
  have hrH : ∀ x ∈ H, ∃ vals : Nat → Value, a1.tmps.getD x.1 undef = .pointer (some ⟨M1.φ x.1, 0, none⟩) ∧ ∀ j, j < x.2.length → S2 (M1.φ x.1) j = some (vals j) ∧ Rep S2 (vals j) (x.2.getD j .any) := fun x hx => by
    obtain ⟨p0, p1, p2, p3⟩ := hH x hx
    have hfr := hs1.fr x.1
    rw [p0] at hfr
    have hv := hfr.ptr_inv
    have hr := ((p1.rep hs1 _ hfr).alone (by simp [PV.ids])).rez (S := S0) (S' := S2) rfl rfl (show (PV.rptr x.2).nofr = true from p3)
    rw [hv] at hr
    cases hr with
    | rptr b o cs vals hS hR => exact ⟨vals, hv, fun j hj => ⟨by have := hS j hj; rw [Nat.zero_add] at this; exact this, hR j hj⟩⟩
  have lt1 : ∀ b o v, S2 b o = some v → b < w1.heap.size := fun b o v h => cell_lt (hst2.c b o v h)
  have hs2 : Sim (fun k => k < w1.heap.size) S2 ⟨M1.φ, id, fun _ => 0⟩ (yst N L H M1.φ) a1 w1 := by
    have hboth := fun i => upds_both (F := fun x : Nat × List PV => some x.2) (G := fun _ => true) (f := fun _ => none) (g := fun _ => false) (k := fun x => x.1) H i
    have zt : ∀ {i cs}, (yst N L H M1.φ).m.h i = some cs → (yst N L H M1.φ).m.z i = true ∧ ∃ x ∈ H, x.1 = i ∧ x.2 = cs := fun {i cs} h => by
      have h : upds (H.map fun x => (x.1, some x.2)) (fun _ => none) i = some cs := h
      rcases hboth i with ⟨x, hx, e1, e2, e3⟩ | ⟨_, e2, _⟩
      · rw [e2] at h; cases h
        exact ⟨e3, x, hx, e1, rfl⟩
      · rw [e2] at h; cases h
    refine ⟨hs1.defers, hn, fun _ h => h, ⟨hst2, fun b c hc => (by cases hc), fun b x hx => (by cases hx)⟩, ?_, ?_, fun id cs h => ?_, fun id r h => (by cases h), fun id id' cs cs' h h' z z' hne => ?_, fun id id' r r' h => (by cases h), fun id id' cs r h z h' => (by cases h'), fun b c hc => (by cases hc), fun id es h => (by cases h), ⟨fun i b hb => ?_, fun i n k b hb => (by cases hb)⟩, fun b hb => Nat.le_of_not_lt hb⟩
    · intro i
      refine upds_ind (R := fun (i : Nat) (p : PV) => RepS S2 ⟨M1.φ, id, fun _ => 0⟩ (yst N L H M1.φ).m.q (a1.tmps.getD i undef) p) (fun x hx => ?_) (fun i => upds_ind (R := fun (i : Nat) (p : PV) => RepS S2 ⟨M1.φ, id, fun _ => 0⟩ (yst N L H M1.φ).m.q (a1.tmps.getD i undef) p) (fun x hx => .clean (hrL x hx)) (fun i => .clean (.any _)) i) i
      obtain ⟨y, hy, rfl⟩ := List.mem_map.1 hx
      obtain ⟨vals, e, _⟩ := hrH y hy
      show RepS _ _ _ (a1.tmps.getD y.1 undef) (.ptr y.1 0)
      rw [e]
      exact .ptr y.1 0
    · intro i
      refine upds_ind (R := fun (i : Nat) (p : PV) => ∀ id : Ref, id ∈ p.ids → Live (yst N L H M1.φ).m id) (fun x hx => ?_) (fun i => upds_ind (R := fun (i : Nat) (p : PV) => ∀ id : Ref, id ∈ p.ids → Live (yst N L H M1.φ).m id) (fun x hx => by rw [(hL x hx).2.1]; simp) (fun i => by simp [PV.ids]) i) i
      obtain ⟨y, hy, rfl⟩ := List.mem_map.1 hx
      intro id hid
      simp only [PV.ids, List.mem_singleton] at hid
      subst hid
      show upds (H.map fun x => (x.1, some x.2)) (fun _ => none) y.1 ≠ none
      rcases hboth y.1 with ⟨x, hx, e1, e2, e3⟩ | ⟨h0, _⟩
      · rw [e2]; simp
      · exact absurd rfl (h0 y hy)
    · obtain ⟨z1, x, hx, e1, e2⟩ := zt h
      rw [z1]
      obtain ⟨vals, _, hv⟩ := hrH x hx
      subst e1; subst e2
      exact ⟨vals, hv⟩
    · obtain ⟨z1, _⟩ := zt h
      rw [z1] at z; cases z
    · have hb : upds (H.map fun x => (x.1, some (M1.φ x.1))) (fun _ => none) i = some b := hb
      rcases upds_both (F := fun x : Nat × List PV => some x.2) (G := fun x => some (M1.φ x.1)) (f := fun _ => none) (g := fun _ => none) (k := fun x => x.1) H i with ⟨x, hx, e1, e2, e3⟩ | ⟨_, _, e3⟩
      · rw [e3] at hb
        refine ⟨?_, by cases hb; rw [e1]⟩
        show upds (H.map fun x => (x.1, some x.2)) (fun _ => none) i ≠ none
        rw [e2]; simp
      · rw [e3] at hb; cases hb
  refine tawp_sound (B := fun k => k < w1.heap.size) (S0 := S2) (w0 := w1) k2 (dropC k c) _ S2 _ _ w1 (h2 M1.φ) hs2 (Ext.refl _ _ _) fun s3 S3 M3 a3 w3 hq3 hs3 hx3 => ?_
  obtain ⟨hsn3, hL3, hH3⟩ := hQ2 _ s3 hq3
  have hb3 : BelowF (fun k => k < w1.heap.size) w1 w3 := hx3.2.2
  have hst23 : ∀ w', BelowF (fun k => k < w1.heap.size) w3 w' → StabS S2 w' := fun w' hw' => by
    have hb3 := hb3.trans hw'
    exact ⟨fun b o u h => by
      have h1 := hst2.c b o u h
      rw [World.cell?_of_block (w := w1) (hb3.block b (cell_lt h1))]; exact h1, fun b es h => by
      have h1 := hst2.m b es h
      rw [hb3.block b (Array.getElem?_eq_some_iff.1 h1).1]; exact h1, fun b h => by
      obtain ⟨vs1, t1, h1⟩ := hst2.y b h
      exact ⟨vs1, t1, by rw [hb3.block b (Array.getElem?_eq_some_iff.1 h1).1]; exact h1⟩⟩
  refine wp_mono (h3 w1.heap.size S2 (pubS (fun _ => False) S3 M3 s3.m w3) a3 w3 hst23 hb3.size (fun b => Iff.rfl) (pubS_stab hs3) (fun b => by show S3.z b ↔ _; rw [hx3.1.z]) hs3.defers (by rw [hs3.hn, hsn3]) (fun x hx => ?_) (fun x hx => ?_)) fun ex a2 w2 ⟨hex, hdf, hv', hbl⟩ => ?_
  · obtain ⟨p1, p2⟩ := hL3 x hx
    exact (p1.rep hs3 _ (hs3.fr x.1)).alone p2
  · obtain ⟨p1, p2⟩ := hH3 x hx
    obtain ⟨vals, _, hv⟩ := hrH x hx
    have h5 := hs3.fr x.1
    rw [p1] at h5
    rw [h5.ptr_inv, (hs3.pn.h x.1 _ p2).2]
    exact .rptr (M1.φ x.1) 0 x.2 vals (fun j hj => by rw [Nat.zero_add]; exact (hv j hj).1) (fun j hj => (hv j hj).2)
  have hbel : BelowF (fun k => k < w.heap.size) w w2 := (hx.2.2.trans (hb3.mono fun k hk => Nat.lt_of_lt_of_le hk hsize)).trans (hbl.mono fun k hk => Nat.lt_of_lt_of_le hk hsize)
  have hold : StabS S w2 := ⟨fun b o u h => by
    have h1 := hst.c b o u h
    have hbl := cell_lt h1
    rw [World.cell?_of_block (w := w) (hbel.block b hbl)]
    exact h1, fun b es h => by
    have h1 := hst.m b es h
    have hbl := (Array.getElem?_eq_some_iff.1 h1).1
    rw [hbel.block b hbl]
    exact h1, fun b h => by
    obtain ⟨vs1, t1, h1⟩ := hst.y b h
    exact ⟨vs1, t1, by rw [hbel.block b (Array.getElem?_eq_some_iff.1 h1).1]; exact h1⟩⟩
  have fin : ∃ v S', Ending.returned (.bool r) = .returned v ∧ Rep S' v (.bool r) ∧ StabS S' w2 ∧ SLe S S' ∧ (∀ b, b < w.heap.size → (∀ o, S' b o = S b o) ∧ S'.m b = S.m b) ∧ Below w.heap.size w w2 :=
    ⟨_, S, rfl, .bool r, hold, SLe.refl S, fun b _ => ⟨fun _ => rfl, rfl⟩, hbel.to⟩
  rcases hex with rfl | rfl
  · exact ⟨hdf, _, hv', fin⟩
  · exact ⟨hdf, _, hv', fin⟩
/-- back into the logic: what is told of the slots -/
theorem sim_enter {S : Stable} {a : Act} {w : World} {N : Nat} {L : List (Nat × PV)} (hst : StabS S w) (hz : ∀ b, w.heap.size ≤ b → S.z b) (hd : a.defers = []) (hn : a.tmps.size = N) (hL : ∀ x ∈ L, Rep S (a.tmps.getD x.1 undef) x.2) (hi : ∀ x ∈ L, x.2.ids = []) :
    Sim (fun k => k < w.heap.size) S ⟨id, id, fun _ => 0⟩ ⟨upds L fun _ => .any, Hp.empty, N⟩ a w := by
  refine ⟨hd, hn, fun _ h => h, ⟨hst, fun b c hc => (by cases hc), fun b x hx => (by cases hx)⟩, ?_, ?_, fun id cs h => (by cases h), fun id r h => (by cases h), fun id id' cs cs' h => (by cases h), fun id id' r r' h => (by cases h), fun id id' cs r h => (by cases h), fun b c hc => (by cases hc), fun id es h => (by cases h), ⟨fun i b hb => (by cases hb), fun i n k b hb => (by cases hb)⟩, fun b hb => hz b (Nat.le_of_not_lt hb)⟩
  · exact upds_ind (R := fun (i : Nat) (p : PV) => RepS S ⟨id, id, fun _ => 0⟩ Hp.empty.q (a.tmps.getD i undef) p) (fun x hx => .clean (hL x hx)) fun i => .clean (.any _)
  · exact upds_ind (R := fun (i : Nat) (p : PV) => ∀ id : Ref, id ∈ p.ids → Live Hp.empty id) (fun x hx => by rw [hi x hx]; simp) fun i => by simp [PV.ids]
/-- the last part, told again -/
theorem wp_last {fn : Func} {c : Code} {rs : List ResultVar} {r : Bool} {S : Stable} {a : Act} {w : World} {N : Nat} {L : List (Nat × PV)} (hrs : fn.results = rs.toArray) (hst : StabS S w) (hz : ∀ b, w.heap.size ≤ b → S.z b) (hd : a.defers = []) (hn : a.tmps.size = N) (hL : ∀ x ∈ L, Rep S (a.tmps.getD x.1 undef) x.2) (hi : ∀ x ∈ L, x.2.ids = [])
    (h : @vC P ⟨c⟩ ⟨vRetQ P rs (.bool r)⟩ ⟨upds L fun _ => .any, Hp.empty, N⟩) : c.wp P (fun ex a' w' => (ex = .normal ∨ ex = .ret) ∧ a'.defers = [] ∧ (results fn a'.tmps).run P w' = .ok (.bool r) w' ∧ BelowF (fun k => k < w.heap.size) w w') a w := by
  refine wp_mono (vc_sound _ _ _ h _ S _ a w (sim_enter hst hz hd hn hL hi)) fun e a' w' ⟨s', S', M', h1, h2, h3⟩ => ?_
  have fin : vRet P (.bool r) s' [] rs → a'.defers = [] ∧ (results fn a'.tmps).run P w' = .ok (.bool r) w' := fun g => by
    obtain ⟨v, hv, hr⟩ := vRet_run h2 hrs g
    cases hr
    exact ⟨h2.defers, hv⟩
  cases e with
  | normal => exact ⟨.inl rfl, (fin h1).1, (fin h1).2, h3.2.2⟩
  | ret => exact ⟨.inr rfl, (fin h1).1, (fin h1).2, h3.2.2⟩
  | _ => exact absurd h1 id
end
/-! tokens forgotten -/
mutual
def PV.dull : PV → PV
  | .sl _ es => .sl .no (PV.dullL es)
  | .rptr cs => .rptr (PV.dullL cs)
  | .agg cs => .agg (PV.dullL cs)
  | .tup cs => .tup (PV.dullL cs)
  | .fn f cs => .fn f (PV.dullL cs)
  | p => p
def PV.dullL : List PV → List PV
  | [] => []
  | c :: cs => PV.dull c :: PV.dullL cs
end
theorem PV.dullL_map : ∀ (cs : List PV), PV.dullL cs = cs.map PV.dull
  | [] => rfl
  | c :: cs => by simp [PV.dullL, PV.dullL_map cs]
theorem PV.dullL_length (cs : List PV) : (PV.dullL cs).length = cs.length := by rw [PV.dullL_map]; simp
theorem PV.dullL_getD (cs : List PV) (i : Nat) : (PV.dullL cs).getD i .any = (cs.getD i .any).dull := by
  rw [PV.dullL_map]
  by_cases h : i < cs.length
  · rw [getD_lt (by simpa using h), getD_lt h, List.getElem_map]
  · rw [getD_ge (by simpa using h), getD_ge (by omega)]; rfl
theorem dull_cells (p : PV) : p.dull.cells = PV.dullL p.cells := by cases p <;> simp [PV.dull, PV.cells, PV.dullL]
theorem Rep.dull {S : Stable} {v : Value} {p : PV} (r : Rep S v p) : Rep S v p.dull := by
  induction r with
  | any v => exact .any v
  | int k n => exact .int k n
  | bool b => exact .bool b
  | str l => exact .str l
  | flt k b => exact .flt k b
  | cpx k a b => exact .cpx k a b
  | agg vs cs hl _ ih => exact .agg vs _ (by rw [PV.dullL_length]; exact hl) (fun i hi => by rw [PV.dullL_length] at hi; rw [PV.dullL_getD]; exact ih i hi)
  | tup vs cs hl _ ih => exact .tup vs _ (by rw [PV.dullL_length]; exact hl) (fun i hi => by rw [PV.dullL_length] at hi; rw [PV.dullL_getD]; exact ih i hi)
  | sl0 a cap => exact .sl0 a cap
  | slnil => exact .sl0 none 0
  | sl b o cap sz es vals hsz hcap hS _ ih =>
    have e : (PV.dullL es).length = es.length := PV.dullL_length es
    have := Rep.sl (S := S) b o cap sz (PV.dullL es) vals (fun i hi => by rw [PV.dullL_getD, dull_cells, PV.dullL_length]; exact hsz i (by omega)) (by omega) (fun i j hi hj => hS i j (by omega) hj) (fun i j hi hj => by rw [PV.dullL_getD, dull_cells, PV.dullL_getD]; exact ih i j (by omega) hj)
    rw [e] at this
    exact this
  | slf v es _ _ ih => exact ih
  | rptr b o cs vals hS _ ih => exact .rptr b o _ vals (fun j hj => by rw [PV.dullL_length] at hj; exact hS j hj) (fun j hj => by rw [PV.dullL_length] at hj; rw [PV.dullL_getD]; exact ih j hj)
  | nilp => exact .nilp
  | nilfn => exact .nilfn
  | nilmap => exact .nilmap
  | mref b => exact .mref b
  | iptr b => exact .iptr b
  | rmap b es ks vs h1 h2 h3 h4 h5 h6 _ _ => exact .rmap b es ks vs h1 h2 h3 h4 h5 h6
  | fn f vs cs hl _ ih => exact .fn f vs _ (by rw [PV.dullL_length]; exact hl) (fun i hi => by rw [PV.dullL_length] at hi; rw [PV.dullL_getD]; exact ih i hi)
/-- a contract of dull arguments serves for such as are told more closely -/
theorem Pure.dull {P : Program} {f : FuncId} {args : List PV} {r : PV} (h : Pure P f (args.map PV.dull) r) : Pure P f args r :=
  h.tell (by simp) fun i hi S v hr => by
    have := hr.dull
    rw [getD_lt hi] at this
    rw [getD_lt (by simpa using hi), List.getElem_map]; exact this
end Go.PL
