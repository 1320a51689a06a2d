/- Contracts of functions and laws of this seat, each for every input that it names: lemmas of the proof. -/
import Derived.Test.YtmnibpgmcgdfpaaXCh
import Derived.Test.YtmnibpgmcgdfpaaPlK
import Derived.RangeFuncBox
import Derived.WalkKit
import Derived.OwnWalkIn
import Derived.TacticsInMore
import Derived.LoopNIn
import Derived.LoopIn
import Derived.Test.YtmnibpgmcgdfpaaPlJ
set_option linter.unusedSimpArgs false
set_option linter.unusedVariables false
set_option linter.unusedSimpArgs false
set_option linter.unusedVariables false
namespace Go.PL
open Go.RowKit
/-- a told list, in its cells -/
theorem Rep.cells_at {S : Stable} {v : Value} {es : List PV} {sz : Nat} (r : Rep S v (.sl .no es)) (hz : ∀ i, i < es.length → (es.getD i .any).cells.length = sz) :
    ∃ (A : Option Addr) (cap : Nat) (vs : Nat → Nat → Value), v = .slice A es.length cap ∧ (0 < es.length → ∃ b o, A = some ⟨b, o, none⟩ ∧
      ∀ i j, i < es.length → j < sz → S b (o + i * sz + j) = some (vs i j)) ∧ (∀ i j, i < es.length → j < sz → Rep S (vs i j) ((es.getD i .any).cells.getD j .any)) := by
  generalize hes : es = es' at r
  cases r with
  | sl0 a cap => subst hes; exact ⟨a, cap, fun _ _ => undef, rfl, fun h => absurd h (by simp), fun i j hi => absurd hi (by simp)⟩
  | sl b o cap sz' es vals hsz hcap hS hR =>
    subst hes
    refine ⟨_, cap, vals, rfl, fun h => ⟨b, o, rfl, fun i j hi hj => ?_⟩, fun i j hi hj => ?_⟩
    · have := (hsz i hi).symm.trans (hz i hi); subst this; exact hS i j hi hj
    · have := (hsz i hi).symm.trans (hz i hi); subst this; exact hR i j hi hj
theorem finRange_snoc {n k : Nat} (h : k < n) : (List.finRange n).take (k + 1) = (List.finRange n).take k ++ [⟨k, h⟩] := by
  rw [List.take_succ_eq_append_getElem (by simpa using h)]; simp
section
variable {P : Program} {n : Nat} {ops : Array Oper} {rest : List Oper} {Q : Exit → Act → World → Prop} {a : Act} {w : World}
theorem wpListIn_ld {dst : Option Nat} {t ty : TypeId} {x : Operand} {pos : String} {after : Array Edge} {A : Addr} {v : Value} (hx : a.eval x = .pointer (some A)) (hl : (loadVar t A).run P w = .ok v w) (h : wpListIn Fence.wide n P ops Q rest (a.put dst v) w) :
    wpListIn Fence.wide n P ops Q (⟨dst, .load t x, ty, pos, after, none⟩ :: rest) a w := by
  refine wpListIn_plain rfl fun K hK' => ?_
  unfold Oper.wpIn
  refine ⟨fun _ _ => trivial, ?_⟩
  rw [Oper.semAt_plain Fence.wide _ _ (by intro c hc'; cases hc')]
  simp [execOp, Instr.loadAt, Instr.sureAddr, hx, hl, Result.andThen, Sem.run_bind]
  exact hK' _ _ h
theorem run_ldAgg {t : TypeId} {d : TypeDesc} (hu : P.underlying t = some d) {b o sz : Nat} {vals : Nat → Value} (hg : tagg P t = true) (hz : tsz P t = sz) (hc : ∀ j, j < sz → w.cell? ⟨b, o + j, none⟩ = some (vals j)) :
    (loadVar t ⟨b, o, none⟩).run P w = .ok (.agg ⟨(List.range sz).map vals⟩) w := by
  subst hz
  obtain ⟨i, hi⟩ := info_of_und hu
  have hl := run_loadCells (P := P) (w := w) (⟨b, o, none⟩ : Addr) (tsz P t) vals (fun j hj => by rw [add_none]; exact hc _ hj)
  unfold loadVar
  simp only [Sem.run_bind, run_isAgg hu, Result.andThen_ok, hg, if_true, run_szo hi, hl, Sem.run_pure]
end
end Go.PL
namespace Go.Proofs.Ytmnibpgmcgdfpaa
open Go.PL Go.RowKit
set_option maxRecDepth 100000 in
set_option maxHeartbeats 4000000 in
theorem back1_gives (cs : List Cg) (hlen : cs.length ≤ 100000) : GivesP Try.prog 83 [.rptr [chgs cs]] cs.reverse (fun c => [chg c]) 1 := by
  refine ⟨⟨_, Try.func83, by decide, rfl⟩, fun m S w lb hst hsz hrep => ?_⟩
  obtain ⟨v, rfl⟩ : ∃ v, lb = #[v] := Array.size_eq_one_iff.1 hsz
  have h0 := hrep 0 (by simp)
  have h0 : Rep S v (.rptr [chgs cs]) := h0
  obtain ⟨b, o, vals, rfl, e2, e3⟩ := (RepS.clean (M := ⟨id, id, id⟩) (q := fun _ => none) h0).rptr_inv
  have e2 := e2 0 (by simp)
  have e3 : Rep S (vals 0) (.sl .no (cs.map chg)) := e3 0 (by simp)
  obtain ⟨A, cap, vs, hv, hA, hR⟩ := e3.cells_at (sz := 13) (fun i hi => by
    have hi' : i < cs.length := by simpa using hi
    rw [getD_chg hi']; rfl)
  simp only [List.length_map] at hv hA hR
  rw [hv] at e2
  refine ⟨fun k => #[.agg ⟨(List.range 13).map fun j => vs (cs.length - 1 - k.val) j⟩], fun k => ⟨rfl, rfl, fun i hi => ?_⟩, ?_⟩
  · obtain rfl : i = 0 := by omega
    have hk : k.val < cs.length := by simpa using k.isLt
    have hk' : cs.length - 1 - k.val < cs.length := by omega
    have hx : cs.reverse[k] = cs.getD (cs.length - 1 - k.val) default := by rw [getD_lt hk']; simp
    rw [hx]
    show Rep S (.agg ⟨(List.range 13).map fun j => vs (cs.length - 1 - k.val) j⟩) (chg _)
    have h1 := fun j hj => hR (cs.length - 1 - k.val) j hk' hj
    rw [getD_chg hk'] at h1
    refine .agg _ _ (by rfl) fun j hj => ?_
    have h13 : j < 13 := hj
    have e : ((List.range 13).map fun j => vs (cs.length - 1 - k.val) j).getD j undef = vs (cs.length - 1 - k.val) j := by
      rw [getD_lt (by simpa using h13)]; simp
    rw [e]; exact h1 j h13
  · intro l J Jx W hW hJ hJx hY hJ0
    have hstW : StabS S W := ⟨fun b o u h => by
      have h1 := hst.c b o u h
      rw [World.cell?_of_block (hW.block _ (cell_lt h1))]; exact h1, fun b es h => by
      have h1 := hst.m b es h
      rw [hW.block _ (Array.getElem?_eq_some_iff.1 h1).1]; exact h1, fun b h => by
      obtain ⟨vs1, t1, h1⟩ := hst.y b h
      exact ⟨vs1, t1, by rw [hW.block _ (Array.getElem?_eq_some_iff.1 h1).1]; exact h1⟩⟩
    refine callsIn_of_wp Try.func83 rfl trivial ?_ rfl
    simp only [Try.ntmps83, List.size_toArray, List.length_cons, List.length_nil, Nat.reduceAdd, Nat.reduceSub, Array.replicate_succ, Array.replicate_zero, List.push_toArray, List.append_toArray, List.nil_append, List.cons_append]
    have hc0 := hstW.c _ _ _ e2
    rw [Nat.add_zero] at hc0 e2
    have u0 : IntKind.i64.wrap ((cs.length : Int) - 1) = (cs.length : Int) - 1 := w64 (by omega)
    gi_wp2
    gi_loopw [3] (fun i wr => ∃ k : Nat, k ≤ cs.length ∧ i = .int .i64 ((cs.length : Int) - 1 - k) ∧ StabS S wr ∧ J ((List.finRange cs.reverse.length).take k) wr)
      (fun i _ => (intOf i + 1).toNat)
    case atStart => exact ⟨0, Nat.zero_le _, by simp, hstW, hJ0⟩
    case round =>
      obtain ⟨k, hk, rfl, hstr, hJs⟩ := hrel
      have hcx := hstr.c _ _ _ e2
      by_cases hlt : k < cs.length
      · obtain ⟨b', o', rfl, hcl⟩ := hA (by omega)
        have hk' : cs.length - 1 - k < cs.length := by omega
        have hkx : k < cs.reverse.length := by simpa using hlt
        have hkk : ((cs.length - 1 - k : Nat) : Int) = (cs.length : Int) - 1 - (k : Int) := by omega
        have i0 : (cs.length : Int) - 1 - (k : Int) ≥ 0 := by omega
        have hto : ((cs.length : Int) - 1 - (k : Int)).toNat = cs.length - 1 - k := by omega
        have hld : (loadVar 30 ⟨b', o' + (cs.length - 1 - k) * 13, none⟩).run Try.prog wr = .ok (.agg ⟨(List.range 13).map fun j => vs (cs.length - 1 - k) j⟩) wr :=
          run_ldAgg Try.underlying30 rfl rfl fun j hj => hstr.c _ _ _ (hcl _ j hk' hj)
        obtain ⟨fn, tmps, assign, body, hy, hRR⟩ := hY _ ⟨k, hkx⟩ wr hJs (by simp; omega)
        obtain ⟨val, hval⟩ : ∃ val, val = Value.agg ⟨(List.range 13).map fun j => vs (cs.length - 1 - k) j⟩ := ⟨_, rfl⟩
        have hy : (Instr.yield l #[val]).run Try.prog wr = .ok (.round l fn tmps assign body) wr := by rw [hval]; exact hy
        rw [← hval] at hld
        clear hval
        gi_wp2_with (first | (refine wpListIn_ld rfl hld ?_) | gi_in)
        refine hRR.mono ?_
        rintro e W3 (⟨rfl, hJ3, hk3⟩ | ⟨rfl, hJx3⟩)
        · have u2 : IntKind.i64.wrap ((cs.length : Int) - 1 - (k : Int) - 1) = (cs.length : Int) - 1 - ((k + 1 : Nat) : Int) := by rw [w64 (by omega)]; omega
          gi_wp2
          go_roundw
          case rel => exact ⟨k + 1, by omega, rfl, hk3 hstr, by rw [finRange_snoc hkx]; exact hJ3⟩
          case measure => simp [intOf]; omega
        · gi_wp2
          refine bodyPost_ret (results_none rfl _ _ _) rfl ?_
          exact ⟨⟨_, rfl⟩, .inr ⟨_, by rw [← finRange_snoc hkx]; exact List.take_prefix _ _, hJx3⟩⟩
      · obtain rfl : k = cs.length := by omega
        have i0 : ¬ ((cs.length : Int) - 1 - (cs.length : Int) ≥ 0) := by omega
        gi_wp2
        go_end0
        have e : (List.finRange cs.reverse.length).take cs.length = List.finRange cs.reverse.length := List.take_of_length_le (by simp)
        rw [e] at hJs; exact ⟨⟨_, rfl⟩, .inl hJs⟩
end Go.Proofs.Ytmnibpgmcgdfpaa

set_option linter.unusedSimpArgs false
set_option linter.unusedVariables false
set_option linter.unusedSimpArgs false
set_option linter.unusedVariables false
namespace Go.Proofs.Ytmnibpgmcgdfpaa
open Go.PL
set_option maxHeartbeats 4000000 in
theorem DBackw_pure (cs : List Cg) : PL.Pure Try.prog 40 [chgs cs] (.fn 83 [.rptr [chgs cs]]) := by
  have hd : (PV.fn 83 [.rptr [chgs cs]]).dids = [] := by simp only [PV.dids, PV.didsL, chgs, didsL_chg, List.append_nil]
  refine PL.Pure.of_v Try.func40 (by decide) rfl Try.ntmps40 Try.results40 (by simp) (hd) ?_
  simp only [go_sem, chgs]
theorem chg_ids (c : Cg) : (chg c).ids = [] := List.eq_nil_iff_forall_not_mem.2 fun i hi => by have := ids_dids _ hi; rw [chg_dids] at this; cases this
/-- what has been gathered -/
def mB : List Cg → MemT
  | [] => ⟨[(3, [.sl .nil []], false)], [], []⟩
  | x :: l => ⟨[(3, [.sl (.row 39) (((x :: l).map flipC).map chg)], false)], [(39, .live (x :: l).length 13 30)], []⟩
theorem whole_mB (pre : List Cg) (φ : Nat → Nat) : WholeT [(3, .ptr 3 0)] (mB pre) (pinL [3] φ) := by
  cases pre with
  | nil => exact ⟨⟨forall_cons rfl forall_nil, forall_cons rfl forall_nil⟩, forall_nil, forall_nil, forall_nil, forall_cons rfl forall_nil, forall_nil⟩
  | cons x l =>
    exact ⟨⟨forall_cons rfl forall_nil, forall_cons (by simp [mB, PV.ids, PV.idsL, refInM]) forall_nil⟩, forall_nil, forall_nil, forall_nil, forall_cons rfl forall_nil, forall_nil⟩
structure FineB (c : Cg) : Prop where
  w : c.was.l.length ≤ 1000000
  n : c.now.l.length ≤ 1000000
  l : c.l.length ≤ 100000
  e : ∀ e ∈ c.l, e.l.length ≤ 1000000
theorem flip_cases (x : Cg) : ((x.kind == 1) = true ∧ flipC x = ⟨x.kind, x.item, x.now, x.was, x.l⟩) ∨ ((x.kind == 1) = false ∧ (x.kind == 2) = true ∧ flipC x = ⟨3, x.item, x.was, x.now, x.l⟩) ∨
    ((x.kind == 1) = false ∧ (x.kind == 2) = false ∧ (x.kind == 3) = true ∧ flipC x = ⟨2, x.item, x.was, x.now, x.l⟩) ∨ ((x.kind == 1) = false ∧ (x.kind == 2) = false ∧ (x.kind == 3) = false ∧ flipC x = x) := by
  simp only [beq_iff_eq, beq_eq_false_iff_ne]
  unfold flipC
  by_cases h1 : x.kind = 1
  · exact .inl ⟨h1, by rw [if_pos h1]⟩
  · by_cases h2 : x.kind = 2
    · exact .inr (.inl ⟨h1, h2, by rw [if_neg h1, if_pos (.inl h2), h2]; rfl⟩)
    · by_cases h3 : x.kind = 3
      · exact .inr (.inr (.inl ⟨h1, h2, h3, by rw [if_neg h1, if_pos (.inr h3), h3]; rfl⟩))
      · exact .inr (.inr (.inr ⟨h1, h2, h3, by rw [if_neg h1, if_neg (fun h => h.elim h2 h3)]⟩))
set_option maxRecDepth 20000 in
set_option maxHeartbeats 16000000 in
theorem DBack_pure (cs : List Cg) (hl : cs.length ≤ 100000) (hx : ∀ c ∈ cs, FineB c) : PL.Pure Try.prog 11 [chgs cs] (chgs (backC cs)) := by
  have hbw := DBackw_pure cs
  refine Pure.range (A := Cg) 2 (Q1 := fun s => s.eval (.tmp 6) = .fn 83 [.rptr [chgs cs]] ∧ HasT 41 [(3, .ptr 3 0)] (mB []) [] s) (pin := [3]) (mt := mB) (mx := mB) (Y := fun _ => True) (X := fun _ => False)
    Try.func11 (by decide) rfl Try.ntmps11 Try.results11 (by simp) (chgs_dids _) ?_ rfl (fun s hs => ⟨hs.1, hs.2, fun i hi => ?_⟩) (by simp [PV.ids, PV.idsL, chgs]) (back1_gives cs hl) ?_ ?_ ?_ trivial whole_mB whole_mB ?_ ?_ ?_
  · refine tawp_seq ?_
    simp only [go_sem]
    refine tawp_seq ?_
    simp only [go_sem]
    refine tawp_end (vc_sound _ _ _ (show @vC _ ⟨_⟩ ⟨_⟩ _ from ?_))
    simp only [go_sem, chgs]
    refine vCall_of (hbw) ?_ ?_ ?_; (focus simp only [go_sem, chgs]); (focus simp only [go_sem, chgs])
    simp only [go_sem]
    exact ⟨rfl, ⟨⟨rfl, forall_cons rfl forall_nil, forall_cons ⟨rfl, rfl⟩ forall_nil, forall_nil⟩, forall_nil, forall_nil, forall_nil, forall_nil, forall_nil, forall_nil⟩⟩
  · obtain rfl : i = 3 := by simpa using hi
    have h := hs.2.b.h (3, [.sl .nil []], false) (by simp [mB])
    rw [h.1]; simp
  · intro x hxx p hp
    rw [List.mem_singleton.1 hp]; exact chg_ids x
  · intro t ht
    have : t = 7 := by simpa using ht
    subst this; decide
  · intro x hxx r hr
    rw [List.mem_singleton.1 hxx] at hr
    exact ⟨3, by simp, by simpa [PV.ids] using hr⟩
  · intro l φ pre x hxc hpl _
    have hfx := hx x (List.mem_reverse.1 hxc)
    have hpl : pre.length < 100000 := by simp at hpl; omega
    refine awpR_of_v ?_
    change @vR l 0 Try.prog ⟨_⟩ ⟨_⟩ ((mkT 41 [(3, .ptr 3 0)] (mB pre) (pinL [3] φ)).put (some 7) (chg x))
    have hO1 := DOwnE_pure x.was hfx.w
    have hO2 := DOwnE_pure x.now hfx.n
    have hO3 := Owns_pure x.l hfx.l hfx.e
    have hk := flip_cases x
    have hr0 := room1 (show 1 ≤ 1000000 by omega) (show 192 ≤ 1000 by omega)
    have hsx : Sized 13 [chg (flipC x)] := sized_chg [flipC x]
    have hax : Atoms [chg (flipC x)] := atoms_chg [flipC x]
    cases pre with
    | nil =>
      rcases hk with ⟨e1, hf⟩ | ⟨e1, e2, hf⟩ | ⟨e1, e2, e3, hf⟩ | ⟨e1, e2, e3, hf⟩
      all_goals
        simp only [go_sem, mB, chg]
        refine awpR_of_v ?_
        simp only [go_sem]
        refine vDrawRT (by kernel_rfl) (by kernel_rfl) ?_
        simp only [go_sem]
        refine vCall_of (hO1) ?_ ?_ ?_; (focus simp only [go_sem, ent]); (focus simp only [go_sem, ent])
        simp only [go_sem, ent]
        refine vCall_of (hO2) ?_ ?_ ?_; (focus simp only [go_sem, ent]); (focus simp only [go_sem, ent])
        simp only [go_sem, ent]
        refine vCall_of (hO3) ?_ ?_ ?_; (focus simp only [go_sem, ents]); (focus simp only [go_sem, ents])
        simp only [go_sem, ents, e1]
        try simp only [go_sem, e2]
        try simp only [go_sem, e3]
      all_goals
        refine ⟨hr0, trivial, ⟨⟨rfl, forall_nil, forall_cons ⟨?_, rfl⟩ forall_nil, forall_cons rfl forall_nil⟩, forall_nil, forall_nil, forall_nil, forall_nil, forall_cons rfl forall_nil, forall_nil⟩⟩
        show some [PV.sl (.row 39) _] = some [PV.sl (.row 39) [chg (flipC x)]]
        rw [hf]; rfl
    | cons y q =>
      have hlq : (y :: q).length < 100000 := hpl
      have hml : (((y :: q).map flipC).map chg).length = (y :: q).length := by simp
      have hsz := sized_chg ((y :: q).map flipC)
      have hrm := room1 (show (y :: q).length + 1 ≤ 1000000 by omega) (show 192 ≤ 1000 by omega)
      have hsn : (((y :: (q ++ [x])).map flipC).map chg) = ((y :: q).map flipC).map chg ++ [chg (flipC x)] := by simp
      rcases hk with ⟨e1, hf⟩ | ⟨e1, e2, hf⟩ | ⟨e1, e2, e3, hf⟩ | ⟨e1, e2, e3, hf⟩
      all_goals
        simp only [go_sem, mB, chg]
        refine awpR_of_v ?_
        simp only [go_sem]
        refine vDrawRT (by kernel_rfl) (by kernel_rfl) ?_
        simp only [go_sem]
        refine vCall_of (hO1) ?_ ?_ ?_; (focus simp only [go_sem, ent]); (focus simp only [go_sem, ent])
        simp only [go_sem, ent]
        refine vCall_of (hO2) ?_ ?_ ?_; (focus simp only [go_sem, ent]); (focus simp only [go_sem, ent])
        simp only [go_sem, ent]
        refine vCall_of (hO3) ?_ ?_ ?_; (focus simp only [go_sem, ents]); (focus simp only [go_sem, ents])
        simp only [go_sem, ents, e1]
        try simp only [go_sem, e2]
        try simp only [go_sem, e3]
      all_goals
        refine ⟨⟨sized_chg (q.map flipC), hrm⟩, trivial, ⟨⟨rfl, forall_nil, forall_cons ⟨?_, rfl⟩ forall_nil, forall_cons ?_ forall_nil⟩, forall_nil, forall_nil, forall_nil, forall_nil, forall_cons rfl forall_nil, forall_nil⟩⟩
        · show some [PV.sl (.row 39) _] = some [PV.sl (.row 39) (((y :: (q ++ [x])).map flipC).map chg)]
          rw [hsn, hf]; rfl
        · show some (Row.live _ 13 _) = some (Row.live (y :: (q ++ [x])).length 13 _)
          rw [show (y :: (q ++ [x])).length = q.length + 1 + 1 by simp]
  · intro _ φ
    refine vcD_of_v ?_
    unfold chgs backC
    generalize cs.reverse = q
    cases q with
    | nil => 
      simp only [go_sem, mB]
    | cons y q =>
      simp only [go_sem, mB]
  · intro pre _ h; exact h.elim
end Go.Proofs.Ytmnibpgmcgdfpaa

set_option linter.unusedSimpArgs false
set_option linter.unusedVariables false
set_option linter.unusedSimpArgs false
set_option linter.unusedVariables false
namespace Go.Proofs.Ytmnibpgmcgdfpaa
open Go.PL
structure OkDd (d : Dc) : Prop where
  h : d.head.length ≤ 100000
  r : d.rows.length ≤ 100000
  e : ∀ e ∈ d.head, e.l.length ≤ 1000000
  s : ∀ r ∈ d.rows, r.l.length ≤ 100000 ∧ ∀ e ∈ r.l, e.l.length ≤ 1000000
theorem OkDd.fine {d : Dc} (h : OkDd d) : Fine d := by
  have e := maxLen_eq
  refine ⟨by have := h.h; omega, by have := h.r; omega, fun x hx => by have := h.e x hx; omega, fun r hr => ⟨by have := (h.s r hr).1; omega, fun x hx => by have := (h.s r hr).2 x hx; omega⟩⟩
theorem entB_len {L : List Fd} {es : List En} (h : entriesB L es = true) : es.length = L.length := by
  simp only [entriesB, Bool.and_eq_true, decide_eq_true_eq] at h
  exact h.1.symm
theorem rightD_len {m : List Fd} {d : Dc} (h : rightD m d = true) : d.head.length = (scopeM m 0).length ∧ d.rows.length ≤ 400 ∧ (∀ r ∈ d.rows, r.l.length = (scopeM m 1).length) ∧ (scopeM m 0).length ≤ 16 ∧ (scopeM m 1).length ≤ 16 := by
  simp only [rightD, headOk, Bool.and_eq_true, Bool.not_eq_true', decide_eq_false_iff_not, List.all_eq_true, List.mem_range] at h
  obtain ⟨⟨h1, h2, h3⟩, h4⟩ := h
  have h16 := rightL_len h1
  have hs : ∀ sc, (scopeM m sc).length ≤ 16 := fun sc => Nat.le_trans (List.length_filter_le _ _) h16
  refine ⟨entB_len h3, by omega, fun r hr => ?_, hs 0, hs 1⟩
  obtain ⟨i, hi, rfl⟩ := List.getElem_of_mem hr
  have := h4 i hi
  simp only [rowOk, Bool.and_eq_true] at this
  have e1 := entB_len this.2
  rw [getD_lt hi] at e1
  exact e1
theorem othersL_len (it : Str) (a b : List En) : (othersL it a b).length ≤ a.length := othersK_len it a b a.length
theorem cut1_row (x : PV) (l : List Rw) : PL.cut (x :: l.map row) 1 ((l.length + 1 : Nat) : Int) = l.map row := by
  have e : ((l.length + 1 : Nat) : Int).toNat = l.length + 1 := by omega
  simp [PL.cut, e, List.take_of_length_le]
/-- how far the merging has come, and what has been told -/
structure DiX (p q : List Rw) (h0 : List Cg) where
  P : List Rw
  Q : List Rw
  acc : List Cg
  id : Nat
  hP : ∀ r ∈ P, r ∈ p
  hQ : ∀ r ∈ Q, r ∈ q
  hl : acc.length + 16 * (P.length + Q.length) ≤ 16 + 16 * (p.length + q.length)
  h : acc ++ diffR P Q = h0 ++ diffR p q
  hid : id = 25 ∨ id = 91 ∨ id = 121 ∨ id = 44
def chgsc (x : List Cg) (c : Int) : PV := .tup [chgs x, .int .i64 c]
theorem chgsc_dids (x : List Cg) (c : Int) : (chgsc x c).dids = [] := by simp only [chgsc, PV.dids, PV.didsL, chgs_dids, List.append_nil]
set_option maxRecDepth 20000 in
set_option maxHeartbeats 64000000 in
theorem DDiff_pure (l : List Fd) (a b : Dc) (hl : l.length ≤ maxLen) (hl' : ∀ f ∈ l, f.cases'.length ≤ 1000000) (ha : OkDd a) (hb : OkDd b) :
    PL.Pure Try.prog 19 [flds l, doc a, doc b] (chgsc (diffM l a b).1 (diffM l a b).2) := by
  have hRa := DRight_pure l a hl hl' ha.fine
  have hRb := DRight_pure l b hl hl' hb.fine
  unfold diffM
  cases hra : rightD l a
  · rw [hra] at hRa
    rw [if_pos (.inl rfl)]
    refine PL.Pure.of_v Try.func19 (by decide) rfl Try.ntmps19 Try.results19 (by simp) (chgsc_dids _ _) ?_
    simp only [go_sem, flds, doc]
    refine vScope0 ?_
    simp only [go_sem]
    refine vCall_of (hRa) ?_ ?_ ?_; (focus simp only [go_sem, flds, doc]); (focus simp only [go_sem, flds, doc])
    simp only [go_sem, chgsc, chgs]
  · cases hrb : rightD l b
    · rw [hra] at hRa; rw [hrb] at hRb
      rw [if_pos (.inr rfl)]
      refine PL.Pure.of_v Try.func19 (by decide) rfl Try.ntmps19 Try.results19 (by simp) (chgsc_dids _ _) ?_
      simp only [go_sem, flds, doc]
      refine vScope0 ?_
      simp only [go_sem]
      refine vCall_of (hRa) ?_ ?_ ?_; (focus simp only [go_sem, flds, doc]); (focus simp only [go_sem, flds, doc])
      simp only [go_sem, chgsc, chgs]
      refine vCall_of (hRb) ?_ ?_ ?_; (focus simp only [go_sem, flds, doc]); (focus simp only [go_sem, flds, doc])
      simp only [go_sem, chgsc, chgs]
    · rw [hra] at hRa; rw [hrb] at hRb
      rw [if_neg (by simp)]
      obtain ⟨a1, a2, a3, a4, a5⟩ := rightD_len hra
      obtain ⟨b1, b2, b3, _, _⟩ := rightD_len hrb
      have hO := others_eff [] a.head b.head ha.h (by omega) ha.e hb.e
      refine PL.Pure.of_v Try.func19 (by decide) rfl Try.ntmps19 Try.results19 (by simp) (chgsc_dids _ _) ?_
      simp only [go_sem, flds, doc]
      refine vScopeM (ι := DiX a.rows b.rows (othersL [] a.head b.head)) 124 (fun x => [(8, .sl (.row x.id) (x.acc.map chg)), (9, .sl .no (x.P.map row)), (10, .sl .no (x.Q.map row))]) (fun x => []) (fun x => [(x.id, .live x.acc.length 13 30)]) (fun x => x.P.length + x.Q.length) 0 _ (by exact rfl) (fun x => ⟨forall_cons (by simp [PV.ids, refInM]) (forall_cons rfl (forall_cons rfl forall_nil)), forall_nil⟩) (fun x => ?_) (fun cut => ?_)
      · obtain ⟨P, Q, acc, id, hP, hQ, hl, h, hid⟩ := x
        simp only
        cases P with
        | nil =>
          cases Q with
          | nil =>
            rw [diffR, List.append_nil] at h
            rw [← h]
            simp only [go_sem, List.map_nil, List.length_nil, chgsc, chgs]
          | cons q qs =>
            have r0 : (0 : Int) ≤ 0 := by omega
            have hml : (acc.map chg).length = acc.length := List.length_map _
            have hsz := sized_chg acc
            have hrm := room1 (show acc.length + 1 ≤ 1000000 by have := Nat.zero_le; simp only [List.length_cons, List.length_nil] at hl; omega) (show 192 ≤ 1000 by omega)
            have hl0 : True := trivial
            have hg0 : True := trivial
            have kl0 : (((qs.length + 1 : Nat) : Int) == 0) = false := by simp; omega
            have kg0 : (0 : Int) < ((qs.length + 1 : Nat) : Int) := by omega
            have ks1 : (1 : Int) ≤ ((qs.length + 1 : Nat) : Int) := by omega
            have ksr := sized_row qs
            have hO2 := Owns_pure q.l (hb.s q (hQ q (by simp))).1 (hb.s q (hQ q (by simp))).2
            simp only [go_sem, List.map_nil, List.length_nil, List.map_cons, List.length_cons, List.length_map, row, hl0, hg0, kl0, kg0, r0]
            refine vDrawQ (by kernel_rfl) (by kernel_rfl) ?_
            simp only [go_sem, List.map_nil, List.length_nil, List.map_cons, List.length_cons, List.length_map, row, hl0, hg0, kl0, kg0, r0]
            refine vDrawQ (by kernel_rfl) (by kernel_rfl) ?_
            simp only [go_sem, List.map_nil, List.length_nil, List.map_cons, List.length_cons, List.length_map, row, hl0, hg0, kl0, kg0, r0]
            refine vDrawQ (by kernel_rfl) (by kernel_rfl) ?_
            simp only [go_sem, List.map_nil, List.length_nil, List.map_cons, List.length_cons, List.length_map, row, hl0, hg0, kl0, kg0, r0]
            refine vCall_of (hO2) ?_ ?_ ?_; (focus simp only [go_sem, ents]); (focus simp only [go_sem, ents])
            rcases hid with rfl | rfl | rfl | rfl
            all_goals
              simp only [go_sem, List.map_nil, List.length_nil, List.map_cons, List.length_cons, List.length_map, row, hl0, hg0, kl0, kg0, r0, ents, hml, hsz, hrm, sized_str, atoms_str, Int.le_refl, cut1_row, ks1, ksr]
              exact ⟨⟨[], qs, acc ++ [cameC q], 121, hP, fun x hx => hQ x (by simp [hx]), by simp only [List.length_append, List.length_cons, List.length_nil] at hl ⊢; omega, by rw [← h, diffR, List.append_assoc]; rfl, .inr (.inr (.inl rfl))⟩, by show _ + qs.length < _ + (q :: qs).length; simp only [List.length_cons]; omega, ⟨rfl, forall_cons (by show PV.sl _ _ = PV.sl _ _; rw [List.map_append]; rfl) (forall_cons rfl (forall_cons rfl forall_nil)), forall_nil, forall_cons (by show some (Row.live _ 13 _) = some (Row.live _ 13 _); rw [List.length_append]; rfl) forall_nil⟩⟩
        | cons r ps =>
          cases Q with
          | nil =>
            have r0 : (0 : Int) ≤ 0 := by omega
            have hml : (acc.map chg).length = acc.length := List.length_map _
            have hsz := sized_chg acc
            have hrm := room1 (show acc.length + 1 ≤ 1000000 by have := Nat.zero_le; simp only [List.length_cons, List.length_nil] at hl; omega) (show 192 ≤ 1000 by omega)
            have hl0 : (((ps.length + 1 : Nat) : Int) == 0) = false := by simp; omega
            have hg0 : (0 : Int) < ((ps.length + 1 : Nat) : Int) := by omega
            have hs1 : (1 : Int) ≤ ((ps.length + 1 : Nat) : Int) := by omega
            have hsr := sized_row ps
            have kl0 : True := trivial
            have kg0 : True := trivial
            have hO1 := Owns_pure r.l (ha.s r (hP r (by simp))).1 (ha.s r (hP r (by simp))).2
            simp only [go_sem, List.map_nil, List.length_nil, List.map_cons, List.length_cons, List.length_map, row, hl0, hg0, kl0, kg0, r0]
            refine vDrawQ (by kernel_rfl) (by kernel_rfl) ?_
            simp only [go_sem, List.map_nil, List.length_nil, List.map_cons, List.length_cons, List.length_map, row, hl0, hg0, kl0, kg0, r0]
            refine vDrawQ (by kernel_rfl) (by kernel_rfl) ?_
            simp only [go_sem, List.map_nil, List.length_nil, List.map_cons, List.length_cons, List.length_map, row, hl0, hg0, kl0, kg0, r0]
            refine vCall_of (hO1) ?_ ?_ ?_; (focus simp only [go_sem, ents]); (focus simp only [go_sem, ents])
            rcases hid with rfl | rfl | rfl | rfl
            all_goals
              simp only [go_sem, List.map_nil, List.length_nil, List.map_cons, List.length_cons, List.length_map, row, hl0, hg0, kl0, kg0, r0, ents, hml, hsz, hrm, sized_str, atoms_str, Int.le_refl, cut1_row, hs1, hsr]
              exact ⟨⟨ps, [], acc ++ [wentC r], 91, fun x hx => hP x (by simp [hx]), hQ, by simp only [List.length_append, List.length_cons, List.length_nil] at hl ⊢; omega, by rw [← h, diffR, List.append_assoc]; rfl, .inr (.inl rfl)⟩, by show ps.length + _ < (r :: ps).length + _; simp only [List.length_cons]; omega, ⟨rfl, forall_cons (by show PV.sl _ _ = PV.sl _ _; rw [List.map_append]; rfl) (forall_cons rfl (forall_cons rfl forall_nil)), forall_nil, forall_cons (by show some (Row.live _ 13 _) = some (Row.live _ 13 _); rw [List.length_append]; rfl) forall_nil⟩⟩
          | cons q qs =>
            have r0 : (0 : Int) ≤ 0 := by omega
            have hml : (acc.map chg).length = acc.length := List.length_map _
            have hsz := sized_chg acc
            have hrm := room1 (show acc.length + 1 ≤ 1000000 by have := Nat.zero_le; simp only [List.length_cons, List.length_nil] at hl; omega) (show 192 ≤ 1000 by omega)
            have hl0 : (((ps.length + 1 : Nat) : Int) == 0) = false := by simp; omega
            have hg0 : (0 : Int) < ((ps.length + 1 : Nat) : Int) := by omega
            have hs1 : (1 : Int) ≤ ((ps.length + 1 : Nat) : Int) := by omega
            have hsr := sized_row ps
            have kl0 : (((qs.length + 1 : Nat) : Int) == 0) = false := by simp; omega
            have kg0 : (0 : Int) < ((qs.length + 1 : Nat) : Int) := by omega
            have ks1 : (1 : Int) ≤ ((qs.length + 1 : Nat) : Int) := by omega
            have ksr := sized_row qs
            have hO1 := Owns_pure r.l (ha.s r (hP r (by simp))).1 (ha.s r (hP r (by simp))).2
            have hO2 := Owns_pure q.l (hb.s q (hQ q (by simp))).1 (hb.s q (hQ q (by simp))).2
            cases c1 : bytesLt r.item q.item
            · cases c2 : bytesLt q.item r.item
              · have hO3 := others_pure q.item r.l q.l (ha.s r (hP r (by simp))).1 (by rw [a3 r (hP r (by simp)), b3 q (hQ q (by simp))]; exact Nat.le_refl _) (ha.s r (hP r (by simp))).2 (hb.s q (hQ q (by simp))).2
                have hol := othersL_len q.item r.l q.l
                have ha3 := a3 r (hP r (by simp))
                rw [diffR, if_neg (by rw [c1]; simp), if_neg (by rw [c2]; simp)] at h
                have hos := sized_chg (othersL q.item r.l q.l)
                have hoa := atoms_chg (othersL q.item r.l q.l)
                have hom : ((othersL q.item r.l q.l).map chg).length = (othersL q.item r.l q.l).length := List.length_map _
                have hro := room1 (show acc.length + (othersL q.item r.l q.l).length ≤ 1000000 by simp only [List.length_cons, List.length_nil] at hl; omega) (show 192 ≤ 1000 by omega)
                simp only [go_sem, List.map_nil, List.length_nil, List.map_cons, List.length_cons, List.length_map, row, hl0, hg0, kl0, kg0, r0, c1, c2]
                refine vDrawQ (by kernel_rfl) (by kernel_rfl) ?_
                simp only [go_sem, List.map_nil, List.length_nil, List.map_cons, List.length_cons, List.length_map, row, hl0, hg0, kl0, kg0, r0, c1, c2]
                refine vDrawQ (by kernel_rfl) (by kernel_rfl) ?_
                simp only [go_sem, List.map_nil, List.length_nil, List.map_cons, List.length_cons, List.length_map, row, hl0, hg0, kl0, kg0, r0, c1, c2]
                refine vDrawQ (by kernel_rfl) (by kernel_rfl) ?_
                simp only [go_sem, List.map_nil, List.length_nil, List.map_cons, List.length_cons, List.length_map, row, hl0, hg0, kl0, kg0, r0, c1, c2]
                refine vCall_of (hO3) ?_ ?_ ?_; (focus simp only [go_sem, ents]); (focus simp only [go_sem, ents])
                rcases hid with rfl | rfl | rfl | rfl
                all_goals
                  simp only [go_sem, List.map_nil, List.length_nil, List.map_cons, List.length_cons, List.length_map, row, hl0, hg0, kl0, kg0, r0, c1, c2, chgs, hml, hsz, hos, hoa, hom, hro, sized_str, atoms_str]
                  refine vDrawQ (by kernel_rfl) (by kernel_rfl) ?_
                  simp only [go_sem, List.map_nil, List.length_nil, List.map_cons, List.length_cons, List.length_map, row, hl0, hg0, kl0, kg0, r0, c1, c2, Int.le_refl, cut1_row, hs1, hsr, ks1, ksr]
                  exact ⟨⟨ps, qs, acc ++ othersL q.item r.l q.l, 44, fun x hx => hP x (by simp [hx]), fun x hx => hQ x (by simp [hx]), by simp only [List.length_append, List.length_cons, List.length_nil] at hl ⊢; omega, by rw [← h, List.append_assoc], .inr (.inr (.inr rfl))⟩, by show ps.length + qs.length < (r :: ps).length + (q :: qs).length; simp only [List.length_cons]; omega, ⟨rfl, forall_cons (by show PV.sl _ _ = PV.sl _ _; rw [List.map_append]) (forall_cons rfl (forall_cons rfl forall_nil)), forall_nil, forall_cons (by show some (Row.live _ 13 _) = some (Row.live _ 13 _); rw [List.length_append]) forall_nil⟩⟩
              · rw [diffR, if_neg (by rw [c1]; simp), if_pos c2] at h
                simp only [go_sem, List.map_nil, List.length_nil, List.map_cons, List.length_cons, List.length_map, row, hl0, hg0, kl0, kg0, r0, c1, c2]
                refine vDrawQ (by kernel_rfl) (by kernel_rfl) ?_
                simp only [go_sem, List.map_nil, List.length_nil, List.map_cons, List.length_cons, List.length_map, row, hl0, hg0, kl0, kg0, r0, c1, c2]
                refine vDrawQ (by kernel_rfl) (by kernel_rfl) ?_
                simp only [go_sem, List.map_nil, List.length_nil, List.map_cons, List.length_cons, List.length_map, row, hl0, hg0, kl0, kg0, r0, c1, c2]
                refine vDrawQ (by kernel_rfl) (by kernel_rfl) ?_
                simp only [go_sem, List.map_nil, List.length_nil, List.map_cons, List.length_cons, List.length_map, row, hl0, hg0, kl0, kg0, r0, c1, c2]
                refine vCall_of (hO2) ?_ ?_ ?_; (focus simp only [go_sem, ents]); (focus simp only [go_sem, ents])
                rcases hid with rfl | rfl | rfl | rfl
                all_goals
                  simp only [go_sem, List.map_nil, List.length_nil, List.map_cons, List.length_cons, List.length_map, row, hl0, hg0, kl0, kg0, r0, c1, c2, ents, hml, hsz, hrm, sized_str, atoms_str, Int.le_refl, cut1_row, hs1, hsr, ks1, ksr]
                  exact ⟨⟨r :: ps, qs, acc ++ [cameC q], 121, hP, fun x hx => hQ x (by simp [hx]), by simp only [List.length_append, List.length_cons, List.length_nil] at hl ⊢; omega, by rw [← h, List.append_assoc]; rfl, .inr (.inr (.inl rfl))⟩, by show _ + qs.length < _ + (q :: qs).length; simp only [List.length_cons]; omega, ⟨rfl, forall_cons (by show PV.sl _ _ = PV.sl _ _; rw [List.map_append]; rfl) (forall_cons rfl (forall_cons rfl forall_nil)), forall_nil, forall_cons (by show some (Row.live _ 13 _) = some (Row.live _ 13 _); rw [List.length_append]; rfl) forall_nil⟩⟩
            · rw [diffR, if_pos c1] at h
              simp only [go_sem, List.map_nil, List.length_nil, List.map_cons, List.length_cons, List.length_map, row, hl0, hg0, kl0, kg0, r0, c1]
              refine vDrawQ (by kernel_rfl) (by kernel_rfl) ?_
              simp only [go_sem, List.map_nil, List.length_nil, List.map_cons, List.length_cons, List.length_map, row, hl0, hg0, kl0, kg0, r0, c1]
              refine vDrawQ (by kernel_rfl) (by kernel_rfl) ?_
              simp only [go_sem, List.map_nil, List.length_nil, List.map_cons, List.length_cons, List.length_map, row, hl0, hg0, kl0, kg0, r0, c1]
              refine vCall_of (hO1) ?_ ?_ ?_; (focus simp only [go_sem, ents]); (focus simp only [go_sem, ents])
              rcases hid with rfl | rfl | rfl | rfl
              all_goals
                simp only [go_sem, List.map_nil, List.length_nil, List.map_cons, List.length_cons, List.length_map, row, hl0, hg0, kl0, kg0, r0, c1, ents, hml, hsz, hrm, sized_str, atoms_str, Int.le_refl, cut1_row, hs1, hsr, ks1, ksr]
                exact ⟨⟨ps, q :: qs, acc ++ [wentC r], 91, fun x hx => hP x (by simp [hx]), hQ, by simp only [List.length_append, List.length_cons, List.length_nil] at hl ⊢; omega, by rw [← h, List.append_assoc]; rfl, .inr (.inl rfl)⟩, by show ps.length + _ < (r :: ps).length + _; simp only [List.length_cons]; omega, ⟨rfl, forall_cons (by show PV.sl _ _ = PV.sl _ _; rw [List.map_append]; rfl) (forall_cons rfl (forall_cons rfl forall_nil)), forall_nil, forall_cons (by show some (Row.live _ 13 _) = some (Row.live _ 13 _); rw [List.length_append]; rfl) forall_nil⟩⟩
      · simp only [go_sem]
        refine vCall_of (hRa) ?_ ?_ ?_; (focus simp only [go_sem, flds, doc]); (focus simp only [go_sem, flds, doc])
        simp only [go_sem]
        refine vCall_of (hRb) ?_ ?_ ?_; (focus simp only [go_sem, flds, doc]); (focus simp only [go_sem, flds, doc])
        simp only [go_sem]
        refine vCall_rn 25 hO (by simp [PV.ids, ents]) rfl ?_ ?_
        · simp only [go_sem, ents]
        · simp only [go_sem]
          refine vDrawQ (by kernel_rfl) (by kernel_rfl) ?_
          simp only [go_sem]
          refine awp_label_seq (cut ⟨a.rows, b.rows, othersL [] a.head b.head, 25, fun _ h => h, fun _ h => h, ?_, rfl, .inl rfl⟩ _ ⟨rfl, forall_cons rfl (forall_cons rfl (forall_cons rfl forall_nil)), forall_nil, forall_cons rfl forall_nil⟩)
          have := othersL_len [] a.head b.head
          omega
end Go.Proofs.Ytmnibpgmcgdfpaa

set_option linter.unusedSimpArgs false
set_option linter.unusedVariables false
set_option linter.unusedSimpArgs false
set_option linter.unusedVariables false
namespace Go.Proofs.Ytmnibpgmcgdfpaa
open Go.PL
theorem heavyEs_len37 {l : List En} (h : heavyEs l = false) : l.length ≤ 40 ∧ ∀ e ∈ l, e.l.length ≤ 410 := by
  simp only [heavyEs, Bool.or_eq_false_iff, decide_eq_false_iff_not, List.any_eq_false] at h
  refine ⟨by omega, fun e he => ?_⟩
  have := h.2 e he
  simp [entH] at this
  omega
theorem FineB.fine {c : Cg} (h : FineB c) : FineC c := by
  have e := maxLen_eq
  exact ⟨by have := h.w; omega, by have := h.n; omega, by have := h.l; omega, fun e he => by have := h.e e he; omega⟩
theorem FineB.flip {c : Cg} (h : FineB c) : FineB (flipC c) := by
  unfold flipC
  split
  · exact ⟨h.n, h.w, h.l, h.e⟩
  · split
    · exact ⟨h.w, h.n, h.l, h.e⟩
    · exact h
theorem fineB_back {l : List Cg} (h : ∀ c ∈ l, FineB c) : ∀ c ∈ backC l, FineB c := fun c hc => by
  obtain ⟨x, hx, rfl⟩ := List.mem_map.1 hc
  exact (h x (List.mem_reverse.1 hx)).flip
set_option maxRecDepth 100000 in
set_option maxHeartbeats 16000000 in
theorem awake37_pure : PL.Pure Try.prog 9 [] (.bool true) := by
  have e := maxLen_eq
  have hl : rootL.length ≤ 16 := by decide
  have hc : ∀ f ∈ rootL, f.cases'.length ≤ 1000 := by decide
  have hR := Root_pure
  have hB := RBlank_pure rootL (by omega)
  have k1 : rightD rootL ⟨(scopeM rootL 0).map valueM, []⟩ = true := by decide +kernel
  have k2 : rightD rootL ⟨(scopeM rootL 0).map valueM, [⟨[112, 101, 97, 114], (scopeM rootL 1).map valueM⟩]⟩ = true := by decide +kernel
  have k3 : othersL [] ((scopeM rootL 0).map valueM) ((scopeM rootL 0).map valueM) = [] := by decide +kernel
  have k4 : ((scopeM rootL 1).map valueM).length = 4 := by decide +kernel
  have k5 : ((scopeM rootL 0).map valueM).length ≤ 100 ∧ (∀ e ∈ (scopeM rootL 0).map valueM, e.l.length ≤ 100) ∧ ∀ e ∈ (scopeM rootL 1).map valueM, e.l.length ≤ 100 := by decide +kernel
  generalize hA : (scopeM rootL 0).map valueM = A at *
  have hW := RRow0_pure rootL A [112, 101, 97, 114] (by omega) (fun f hf => by have := hc f hf; omega) ⟨by simp; omega, by simp, fun x hx => by have := k5.2.1 x hx; omega, fun r hr => by cases hr⟩ k1 (by decide)
  generalize hL : (scopeM rootL 1).map valueM = L at *
  have hD := DDiff_pure rootL ⟨A, []⟩ ⟨A, [⟨[112, 101, 97, 114], L⟩]⟩ (by omega) (fun f hf => by have := hc f hf; omega)
    ⟨by simp; omega, by simp, fun x hx => by have := k5.2.1 x hx; omega, fun r hr => by cases hr⟩
    ⟨by simp; omega, by simp, fun x hx => by have := k5.2.1 x hx; omega, fun r hr => by
      rw [List.mem_singleton.1 hr]
      exact ⟨by simp; omega, fun x hx => by have := k5.2.2 x hx; omega⟩⟩
  have hM : diffM rootL ⟨A, []⟩ ⟨A, [⟨[112, 101, 97, 114], L⟩]⟩ = ([cameC ⟨[112, 101, 97, 114], L⟩], 0) := by
    unfold diffM
    rw [k1, k2, if_neg (by simp)]
    simp only [k3, List.nil_append]
    rw [diffR, diffR]
  rw [hM] at hD
  clear k1 k2 k3 hM hA hL
  refine PL.Pure.of_v Try.func9 (by decide) rfl Try.ntmps9 Try.results9 (by simp) rfl ?_
  simp only [go_sem]
  refine vCall_of (hR) ?_ ?_ ?_; (focus simp only [go_sem]); (focus simp only [go_sem])
  simp only [go_sem, flds]
  refine vCall_of (hB) ?_ ?_ ?_; (focus simp only [go_sem, flds]); (focus simp only [go_sem, flds])
  simp only [go_sem, doc]
  refine vCall_of (hW) ?_ ?_ ?_; (focus simp only [go_sem, flds, doc]); (focus simp only [go_sem, flds, doc])
  simp only [go_sem, doc]
  refine vCall_of (hD) ?_ ?_ ?_; (focus simp only [go_sem, flds, doc, row, List.map_cons, List.map_nil]); (focus simp only [go_sem, flds, doc, row, List.map_cons, List.map_nil])
  simp only [go_sem, chgsc, chgs, List.map_cons, List.map_nil, List.length_cons, List.length_nil, chg, cameC, List.length_map, k4]
end Go.Proofs.Ytmnibpgmcgdfpaa
