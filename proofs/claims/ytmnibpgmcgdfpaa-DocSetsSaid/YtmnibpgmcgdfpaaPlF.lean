/- A logic of values for functions that only read and build, over the model (part 6): no statement of the seat is proved here. -/
import Derived.Test.YtmnibpgmcgdfpaaPlE
import Derived.ScopeJumps
set_option linter.unusedSimpArgs false
set_option linter.unusedVariables false
namespace Go.PL
open Go.RowKit
set_option linter.unusedVariables false
section
variable {P : Program} {B : Frm} {S : Stable} {M : Maps} {s : St} {a : Act} {w : World}

theorem RepS.iptr_inv {v : Value} {qq : Rows} {b : Nat} (r : RepS S M qq v (.iptr b)) : v = .pointer (some ⟨b, 0, none⟩) := by
  cases r with | clean r => cases r; rfl
theorem Sim.growX (hs : Sim B S M s a w) {b : Nat} (hb : ∀ vs t f, w.heap[b]? ≠ some (.cells vs t f)) {S' : Stable} {w' : World} (hle : SLe S S') (hag : ∀ k, k < w.heap.size → k ≠ b → ∀ o, S' k o = S k o)
    (hw : ∀ k, k < w.heap.size → k ≠ b → w'.heap[k]? = w.heap[k]?) (hsz : w.heap.size ≤ w'.heap.size) {o' : Nat → Option MapC} {it' : Nat → Option IterC} (hst : Stab B S' w' o' it') (hom : ∀ k d, s.m.om k = some d → k ≠ b ∧ o' k = none ∧ S'.m k = none) : Sim B S' M (s.with { s.m with o := o', it := it' }) a w' := by
  have rep : ∀ {v p}, RepS S M s.m.q v p → RepS S' M s.m.q v p := fun r => r.heap hle (fun _ _ => rfl) (fun _ _ => .refl _ _ _)
  have live : ∀ i, Live s.m i → Live { s.m with o := o', it := it' } i := fun i h => by cases i <;> exact h
  refine ⟨hs.defers, hs.hn, fun k hk => Nat.lt_of_lt_of_le (hs.hB k hk) hsz, hst, fun i => rep (hs.fr i), fun i k hk => live k (hs.ids i k hk), fun id cs hc => ?_, fun id r hr => ?_, hs.inj, hs.injq, hs.injx, fun k d hk => ?_, fun i es he => ?_, ⟨hs.pn.h, hs.pn.q⟩, hs.zle hle⟩
  · have hb' := hs.blk id cs hc
    show BlkOk _ _ _ _ _ _ _ (s.m.z id)
    cases hz : s.m.z id with
    | false =>
      rw [hz] at hb'
      have hlt := hs.blk_lt hc hz
      obtain ⟨h1, h2, ⟨vs, t, h3, h4, h5⟩, h6⟩ := hb'
      have hne : M.φ id ≠ b := fun e => hb _ _ _ (e ▸ h3)
      exact ⟨h1, fun o => by rw [hag _ hlt hne]; exact h2 o, ⟨vs, t, by rw [hw _ hlt hne]; exact h3, h4, fun j hj => rep (h5 j hj)⟩, fun c hc k hk => live k (h6 c hc k hk)⟩
    | true =>
      rw [hz] at hb'
      obtain ⟨vals, hv⟩ := hb'; exact ⟨vals, fun j hj => ⟨hle _ _ _ (hv j hj).1, (hv j hj).2.mono hle⟩⟩
  · have hr' := hs.row id r hr
    cases r with
    | live n sz e =>
      obtain ⟨h1, h2⟩ := hr'
      refine ⟨h1, fun c hk => ?_⟩
      have hlt := hs.row_lt hr rfl (by omega)
      obtain ⟨g0, g0', g1, ⟨vs, g2, g3⟩, g4⟩ := h2 c hk
      have hne : M.ψ id ≠ b := fun e => hb _ _ _ (e ▸ g2)
      exact ⟨g0, g0', g1, ⟨vs, by rw [hw _ hlt hne]; exact g2, g3⟩, fun o ho => by rw [hag _ hlt hne]; exact g4 o ho⟩
    | vec n sz e =>
      obtain ⟨h1, h2⟩ := hr'
      refine ⟨h1, fun c hk => ?_⟩
      have hlt := hs.row_lt hr rfl (by omega)
      obtain ⟨g0, g0', g1, ⟨vs, g2, g3⟩, g4⟩ := h2 c hk
      have hne : M.ψ id ≠ b := fun e => hb _ _ _ (e ▸ g2)
      exact ⟨g0, g0', g1, ⟨vs, by rw [hw _ hlt hne]; exact g2, g3⟩, fun o => by rw [hag _ hlt hne]; exact g4 o⟩
    | dead => trivial
  · obtain ⟨g1, g2, g3, g4⟩ := hs.rm k d hk
    obtain ⟨e1, e2, e3⟩ := hom k d hk
    exact ⟨g1, e3, e2, g4.move hle (hw k g4.lt e1) (fun v p r _ => rep r) live⟩
  · refine (hs.vc i es he).move (fun _ _ _ h => h) rfl rfl (fun hk => hw _ (hs.vec_lt he hk) fun ee => ?_) (fun v p r _ => rep r) live
    obtain ⟨sz, e, q1⟩ := hs.vec_q he
    obtain ⟨_, h2⟩ := hs.row i _ q1
    obtain ⟨_, _, _, ⟨vs, k5, _⟩, _⟩ := h2 (M.κ i - 1) (by omega)
    exact hb _ _ _ (ee ▸ k5)

theorem calls_args (hs : Sim B S M s a w) {f : Operand} {cargs : List Operand} {ts : Array TypeId} {g : FuncId} {args : List PV} (hc : calleeOf s.eval ⟨.value f, ⟨cargs⟩, ts⟩ = some (g, args)) (hg : PV.givableL s.m args) (hcal : Callable P g)
    {dst : Option Tmp} {ty : TypeId} {pos : String} {after : Array Edge} {guard : Option (Nat × Bool)} :
    ∃ vs : List Value, vs.length = args.length ∧ (∀ i, i < args.length → Rep S (vs.getD i undef) ((PV.giveL s.m args).getD i .any)) ∧ (execOp a.eval ⟨dst, .call ⟨.value f, ⟨cargs⟩, ts⟩, ty, pos, after, guard⟩).run P w = .ok (.enter g ⟨vs⟩) w := by
  unfold calleeOf at hc
  simp only at hc
  split at hc
  · rename_i g' caps hf
    simp only [Option.some.injEq, Prod.mk.injEq] at hc
    obtain ⟨rfl, rfl⟩ := hc
    have ef := hs.eval f
    rw [hf] at ef
    obtain ⟨vs, hv, hl, hr⟩ := ef.fn_inv
    obtain ⟨fn, c1, c2, c3⟩ := hcal
    have hargs : ∀ i, i < (cargs.map s.eval ++ caps).length → RepS S M s.m.q ((cargs.map a.eval ++ vs).getD i undef) ((cargs.map s.eval ++ caps).getD i .any) := by
      intro i hi
      by_cases h1 : i < cargs.length
      · rw [getD_append_left (by simpa using h1), getD_append_left (by simpa using h1)]
        exact map_getD (s := s) hs.eval i (by simpa using h1)
      · rw [getD_append_right (by simp; omega), getD_append_right (by simp; omega)]
        simp only [List.length_map]
        exact hr _ (by simp at hi; omega)
    refine ⟨cargs.map a.eval ++ vs, by simp [hl], fun i hi => ?_, ?_⟩
    · rw [PV.giveL_getD _ _ i hi]
      exact (hargs i hi).give hs (PV.givableL_getD hg i hi)
    · have hb : ¬ fn.body = none := by intro h; simp [h] at c3
      simp [execOp, resolve, Deferred.ofValue, hv, invoke, callFunc, program, Sem.run, c1, hb, c2]
  · cases hc

/-- rows told as plain slices, blocks that are handed out by what they hold; all else as it is -/
theorem RepS.giveE (hs : Sim B S M s a w) {v : Value} {p : PV} (r : RepS S M s.m.q v p) : RepS S M s.m.q v (p.give s.m) := by
  induction r with
  | clean r => exact .clean (r.give s.m)
  | ptr id off =>
    cases hz : s.m.z id with
    | false => simp only [PV.give, hz]; exact .ptr id off
    | true =>
      cases hh : s.m.h id with
      | none => simp only [PV.give, hz, hh]; exact .ptr id off
      | some cs => exact .clean ((RepS.ptr (S := S) (M := M) (q := s.m.q) id off).give hs ⟨hz, by rw [hh]; simp⟩)
  | osl id off len cap sz hc => exact .osl id off len cap sz hc
  | row id v es r _ => exact .clean r
  | vsl id len sz v hv t => exact .vsl id len sz v hv t
  | vptr id n sz i off v hv hi t => exact .vptr id n sz i off v hv hi t
  | agg vs cs hl _ ih => exact .agg vs _ (by rw [PV.giveL_length]; exact hl) (fun i hi => by rw [PV.giveL_length] at hi; rw [PV.giveL_getD s.m cs i hi]; exact ih i hi)
  | tup vs cs hl _ ih => exact .tup vs _ (by rw [PV.giveL_length]; exact hl) (fun i hi => by rw [PV.giveL_length] at hi; rw [PV.giveL_getD s.m cs i hi]; exact ih i hi)
  | fn f vs cs hl _ ih => exact .fn f vs _ (by rw [PV.giveL_length]; exact hl) (fun i hi => by rw [PV.giveL_length] at hi; rw [PV.giveL_getD s.m cs i hi]; exact ih i hi)
theorem calls_argsE (hs : Sim B S M s a w) {f : Operand} {cargs : List Operand} {ts : Array TypeId} {g : FuncId} {args : List PV} (hc : calleeOf s.eval ⟨.value f, ⟨cargs⟩, ts⟩ = some (g, args)) (hcal : Callable P g)
    {dst : Option Tmp} {ty : TypeId} {pos : String} {after : Array Edge} {guard : Option (Nat × Bool)} :
    ∃ vs : List Value, vs.length = args.length ∧ (∀ i, i < args.length → RepS S M s.m.q (vs.getD i undef) ((PV.giveL s.m args).getD i .any)) ∧ (∀ i, i < args.length → RepS S M s.m.q (vs.getD i undef) (args.getD i .any)) ∧ (execOp a.eval ⟨dst, .call ⟨.value f, ⟨cargs⟩, ts⟩, ty, pos, after, guard⟩).run P w = .ok (.enter g ⟨vs⟩) w := by
  unfold calleeOf at hc
  simp only at hc
  split at hc
  · rename_i g' caps hf
    simp only [Option.some.injEq, Prod.mk.injEq] at hc
    obtain ⟨rfl, rfl⟩ := hc
    have ef := hs.eval f
    rw [hf] at ef
    obtain ⟨vs, hv, hl, hr⟩ := ef.fn_inv
    obtain ⟨fn, c1, c2, c3⟩ := hcal
    have hargs : ∀ i, i < (cargs.map s.eval ++ caps).length → RepS S M s.m.q ((cargs.map a.eval ++ vs).getD i undef) ((cargs.map s.eval ++ caps).getD i .any) := by
      intro i hi
      by_cases h1 : i < cargs.length
      · rw [getD_append_left (by simpa using h1), getD_append_left (by simpa using h1)]
        exact map_getD (s := s) hs.eval i (by simpa using h1)
      · rw [getD_append_right (by simp; omega), getD_append_right (by simp; omega)]
        simp only [List.length_map]
        exact hr _ (by simp at hi; omega)
    refine ⟨cargs.map a.eval ++ vs, by simp [hl], fun i hi => ?_, hargs, ?_⟩
    · rw [PV.giveL_getD _ _ i hi]
      exact (hargs i hi).giveE hs
    · have hb : ¬ fn.body = none := by intro h; simp [h] at c3
      simp [execOp, resolve, Deferred.ofValue, hv, invoke, callFunc, program, Sem.run, c1, hb, c2]
  · cases hc
/-- the maps of a state, behind a step that turns one of them -/
theorem Stab.turn {S' : Stable} {w' : World} {o : Nat → Option MapC} {it : Nat → Option IterC} (hs : Stab B S w o it) {b : Nat} {c : MapC} (hle : SLe S S') (hst : StabS S' w') (hm : ∀ k, k < w.heap.size → k ≠ b → S'.m k = S.m k)
    (hw : ∀ k, k < w.heap.size → k ≠ b → w'.heap[k]? = w.heap[k]?) (hB : ¬ B b) (hb : S'.m b = none) (hc : MapAt S' w' b c) (hit : ∀ x, it b ≠ some x) : Stab B S' w' (upd o b (some c)) it := by
  refine ⟨hst, fun k d hd => ?_, fun k x hx => ?_⟩
  · by_cases e : b = k
    · subst e
      rw [upd_same] at hd
      cases hd
      exact ⟨hB, hb, hc⟩
    · rw [upd_ne _ _ e] at hd
      obtain ⟨q1, q2, q3⟩ := hs.o k d hd
      exact ⟨q1, by rw [hm k q3.lt (Ne.symm e)]; exact q2, q3.move hle (hw k q3.lt (Ne.symm e))⟩
  · obtain ⟨q1, q2, q3⟩ := hs.i k x hx
    refine ⟨q1, ?_, q3.mono hle⟩
    have hlt := q2.lt
    unfold IterAt at q2 ⊢
    rw [hw k hlt (fun e => by subst e; exact hit x hx)]
    exact q2

theorem ext_args (hs : Sim B S M s a w) {f : Operand} {cargs : List Operand} {ts : Array TypeId} {g : FuncId} {args : List PV} (hc : calleeOf s.eval ⟨.value f, ⟨cargs⟩, ts⟩ = some (g, args)) (hg : PV.givableL s.m args)
    {dst : Option Tmp} {ty : TypeId} {pos : String} {after : Array Edge} {guard : Option (Nat × Bool)} :
    ∃ vs : List Value, vs.length = args.length ∧ (∀ i, i < args.length → Rep S (vs.getD i undef) ((PV.giveL s.m args).getD i .any)) ∧ (execOp a.eval ⟨dst, .call ⟨.value f, ⟨cargs⟩, ts⟩, ty, pos, after, guard⟩).run P w = (callFunc g ⟨vs⟩).run P w := by
  unfold calleeOf at hc
  simp only at hc
  split at hc
  · rename_i g' caps hf
    simp only [Option.some.injEq, Prod.mk.injEq] at hc
    obtain ⟨rfl, rfl⟩ := hc
    have ef := hs.eval f
    rw [hf] at ef
    obtain ⟨vs, hv, hl, hr⟩ := ef.fn_inv
    have hargs : ∀ i, i < (cargs.map s.eval ++ caps).length → RepS S M s.m.q ((cargs.map a.eval ++ vs).getD i undef) ((cargs.map s.eval ++ caps).getD i .any) := by
      intro i hi
      by_cases h1 : i < cargs.length
      · rw [getD_append_left (by simpa using h1), getD_append_left (by simpa using h1)]
        exact map_getD (s := s) hs.eval i (by simpa using h1)
      · rw [getD_append_right (by simp; omega), getD_append_right (by simp; omega)]
        simp only [List.length_map]
        exact hr _ (by simp at hi; omega)
    refine ⟨cargs.map a.eval ++ vs, by simp [hl], fun i hi => ?_, ?_⟩
    · rw [PV.giveL_getD _ _ i hi]
      exact (hargs i hi).give hs (PV.givableL_getD hg i hi)
    · simp [execOp, resolve, Deferred.ofValue, hv, invoke]
  · cases hc

/-- a row more, in a block that nobody else has -/
theorem Sim.addRow (hs : Sim B S M s a w) {d κ ψ n sz : Nat} {e : TypeId} (hd : s.m.q d = none) (hrow : RowOk B S ⟨id, fun _ => ψ, fun _ => κ⟩ w 0 (.live n sz e))
    (hnq : ∀ i r, s.m.q i = some r → r.own = true → 0 < M.κ i → 0 < κ → M.ψ i ≠ ψ) (hnh : ∀ i cs, s.m.h i = some cs → s.m.z i = false → 0 < κ → M.φ i ≠ ψ) :
    Sim B S { M with ψ := upd M.ψ d ψ, κ := upd M.κ d κ } (s.with (s.m.setq d (.live n sz e))) a w :=
  hs.layRow (.inl hd) (by simpa only [RowOk, upd_same] using hrow) (hs.v_none fun _ _ _ h => by rw [hd] at h; cases h) (fun i r _ hi oi ki _ k => hnq i r hi oi ki k) (fun i cs hi zi _ k => hnh i cs hi zi k)

/-- the maps whose values lean on rows are none that is new -/
theorem Sim.om_new (hs : Sim B S M s a w) {b : Nat} (hb : w.heap.size ≤ b) {S' : Stable} (hS : ∀ k, k < w.heap.size → S'.m k = S.m k) {o' : Nat → Option MapC} (ho : ∀ k, k ≠ b → o' k = s.m.o k) (k : Nat) (d : MapC) (h : s.m.om k = some d) : k ≠ b ∧ o' k = none ∧ S'.m k = none := by
  obtain ⟨g1, g2, g3, g4⟩ := hs.rm k d h
  have hlt := g4.lt
  have hne : k ≠ b := by omega
  exact ⟨hne, by rw [ho k hne]; exact g3, by rw [hS k hlt]; exact g2⟩
theorem spec_sound (hs : Sim B S M s a w) {o : Oper} {K : St → Prop} (hd : ∀ x, o.dst = some x → x < s.n) (h : spec P o s K) (next : Act → World → Prop) (Q : Exit → Act → World → Prop)
    (hn : ∀ s' v w' S' M', K s' → Sim B S' M' s' (a.put o.dst v) w' → Ext B S S' w w' → next (a.put o.dst v) w') : o.wp P a w next Q := by
  obtain ⟨dst, op, ty, pos, after, guard⟩ := o
  unfold spec at h
  simp only at h hd hn ⊢
  cases op with
  | call c =>
    obtain ⟨callee, cargs, ts⟩ := c
    obtain ⟨cargs⟩ := cargs
    cases callee with
    | value f =>
      simp only at h
      cases hc : calleeOf s.eval ⟨.value f, ⟨cargs⟩, ts⟩ with
      | none => rw [hc] at h; exact h.elim
      | some ga =>
        obtain ⟨g, args⟩ := ga
        rw [hc] at h
        unfold Oper.wp
        rcases h with ⟨hg, hx⟩ | ⟨args0, m0, r, m1, f', g', heff, hfit, hargs, hk⟩
        rotate_left
        · obtain ⟨vs, hl, hrep, hrep2, hrun⟩ := calls_argsE (dst := dst) (ty := ty) (pos := pos) (after := after) (guard := guard) hs hc heff.cal
          rw [hrun]
          show Calls P g ⟨vs⟩ w _
          have hlen : args.length = args0.length := by
            rcases hargs with hargs | hargs
            · rw [← PV.giveL_length s.m args, hargs]; simp
            · rw [hargs]; simp
          refine (heff.call hs hfit (vs := vs) (by omega) (fun i hi => ?_)).mono fun en w' hq => ?_
          · rcases hargs with hargs | hargs
            · have := hrep i (by omega)
              rw [hargs, getD_lt (l := args0.map _) (by simpa using hi), List.getElem_map] at this
              rw [getD_lt hi]; exact this
            · have := hrep2 i (by omega)
              rw [hargs, getD_lt (l := args0.map _) (by simpa using hi), List.getElem_map] at this
              rw [getD_lt hi]; exact this
          · obtain ⟨v, S', M', rfl, h2, h3, h4, h5⟩ := hq
            exact hn _ v w' S' M' hk (h2.put hd h3 h4) h5
        rcases hx with ⟨r, ⟨hcal, _, hcalls⟩, hno, hk⟩ | ⟨b, c, A, r, c', hob, hA, ⟨hcal, _, hcalls⟩, hk⟩ | ⟨r, c, ⟨hcal, _, hcalls⟩, hk⟩ | ⟨r, hxt, hk⟩ | ⟨r, n, sz, e, d, ⟨hcal, hri, hcalls⟩, hqd, hk⟩
        · obtain ⟨vs, hl, hrep, hrun⟩ := calls_args (dst := dst) (ty := ty) (pos := pos) (after := after) (guard := guard) hs hc hg hcal
          rw [hrun]
          show Calls P g ⟨vs⟩ w _
          refine (hcalls w (sealS S w s.m.o) vs (sealS_stab hs.stable) hs.young (by rw [sealL_length, PV.giveL_length]; exact hl) (fun i hi => ?_)).mono fun e w' hq => ?_
          · rw [sealL_length, PV.giveL_length] at hi
            rw [sealL_getD _ _ i (by rw [PV.giveL_length]; exact hi)]
            exact (hrep i hi).shut hs.stable
          · obtain ⟨v, S1, rfl, h2, h3, h4, h5, h6⟩ := hq
            let S' : Stable := ⟨S1.c, fun k => match s.m.o k with | some _ => none | none => S1.m k, S1.z, S1.y⟩
            have m1 : ∀ k c, s.m.o k = some c → S'.m k = none := fun k c hc => by simp [S', hc]
            have m2 : ∀ k, s.m.o k = none → S'.m k = S1.m k := fun k hc => by simp [S', hc]
            have m3 : ∀ k, s.m.o k = none → (sealS S w s.m.o).m k = S.m k := fun k hc => by simp [sealS, hc]
            have l1 : SLe S S' := ⟨fun k o v hv => h4.c k o v hv, fun k es he => by
              cases ho : s.m.o k with
              | some c => rw [(hs.stable.o k c ho).2.1] at he; cases he
              | none => rw [m2 k ho]; exact h4.m k es (by rw [m3 k ho]; exact he), h4.z, h4.y⟩
            have l2 : ∀ k, k < w.heap.size → (∀ o, S' k o = S k o) ∧ S'.m k = S.m k := fun k hk => by
              obtain ⟨a1, a2⟩ := h5 k hk
              refine ⟨a1, ?_⟩
              cases ho : s.m.o k with
              | some c => rw [m1 k c ho, (hs.stable.o k c ho).2.1]
              | none => rw [m2 k ho, a2, m3 k ho]
            have l3 : StabS S' w' := ⟨h3.c, fun k es he => by
              cases ho : s.m.o k with
              | some c => rw [m1 k c ho] at he; cases he
              | none => rw [m2 k ho] at he; exact h3.m k es he, h3.y⟩
            have hs' := hs.grow l1 l2 l3 h6.block h6.size
            have hr' : Rep S' v r := Rep.cells_only (S := S1) (S' := S') rfl rfl (fun _ h => h) h2 hno
            exact hn _ v w' S' M hk (hs'.put hd (.clean hr') (fun i hi => absurd hi (hr'.clean_ids i))) ⟨l1, fun k hk => l2 k (hs.hB k hk), (BelowF.of h6).mono hs.hB⟩
        · obtain ⟨vs, hl, hrep, hrun⟩ := calls_args (dst := dst) (ty := ty) (pos := pos) (after := after) (guard := guard) hs hc hg hcal
          rw [hrun]
          show Calls P g ⟨vs⟩ w _
          obtain ⟨q1, q2, q3⟩ := hs.stable.o b c hob
          rw [hA] at hrep
          refine (hcalls b w S vs hs.stable.s hs.young (hs.hz b q1) q2 q3 (by rw [← hA, PV.giveL_length]; exact hl) (fun i hi => hrep i (by rw [← hA, PV.giveL_length] at hi; exact hi))).mono fun e w' hq => ?_
          obtain ⟨v, S', rfl, h2, h3, h4, h5, h5', h6, h7⟩ := hq
          have hnc : ∀ vs t f, w.heap[b]? ≠ some (.cells vs t f) := fun vs t f hh => by obtain ⟨es, e1, _⟩ := q3; rw [e1] at hh; cases hh
          have hit : ∀ x, s.m.it b ≠ some x := fun x hx => by
            have h1 := (hs.stable.i b x hx).2.1
            obtain ⟨es, e1, _⟩ := q3
            unfold IterAt at h1
            rw [e1] at h1; cases h1
          have hst : Stab B S' w' (upd s.m.o b (some c')) s.m.it := hs.stable.turn h4 h3 (fun k hk hkb => (h5 k hk hkb).2) (fun k hk hkb => h7.block k ⟨hk, hkb⟩) q1 h5' h6 hit
          have hs' := hs.growX hnc h4 (fun k hk hkb => (h5 k hk hkb).1) (fun k hk hkb => h7.block k ⟨hk, hkb⟩) h7.size hst (fun k d hk => ⟨(hs.om_ne hk hob (x := none)).1, (hs.om_ne hk hob).2, by rw [(h5 k (hs.rm k d hk).2.2.2.lt (hs.om_ne hk hob (x := none)).1).2]; exact (hs.rm k d hk).2.1⟩)
          exact hn _ v w' S' M hk (hs'.put hd (.clean h2) (fun i hi => absurd hi (h2.clean_ids i))) ⟨h4, fun k hk => h5 k (hs.hB k hk) (fun e => q1 (e ▸ hk)), h7.mono (fun k hk => ⟨hs.hB k hk, fun e => q1 (e ▸ hk)⟩)⟩
        · obtain ⟨vs, hl, hrep, hrun⟩ := calls_args (dst := dst) (ty := ty) (pos := pos) (after := after) (guard := guard) hs hc hg hcal
          rw [hrun]
          show Calls P g ⟨vs⟩ w _
          refine (hcalls w S vs hs.stable.s hs.young (by rw [PV.giveL_length]; exact hl) (fun i hi => hrep i (by rw [PV.giveL_length] at hi; exact hi))).mono fun e w' hq => ?_
          obtain ⟨v, S', b, rfl, hbl, h2, h3, h4, h5, h5', h6, h7⟩ := hq
          have hnb : s.m.o b = none := by
            cases ho : s.m.o b with
            | none => rfl
            | some d => have := (hs.stable.o b d ho).2.2.lt; omega
          have hBb : ¬ B b := fun hh => by have := hs.hB b hh; omega
          have hnc : ∀ vs t f, w.heap[b]? ≠ some (.cells vs t f) := fun vs t f hh => by have := (Array.getElem?_eq_some_iff.1 hh).1; omega
          have hit : ∀ x, s.m.it b ≠ some x := fun x hx => by have := (hs.stable.i b x hx).2.1.lt; omega
          have hst : Stab B S' w' (upd s.m.o b (some c)) s.m.it := hs.stable.turn h4 h3 (fun k hk _ => (h5 k hk).2) (fun k hk _ => h7.block k hk) hBb h5' h6 hit
          have hs' := hs.growX hnc h4 (fun k hk _ => (h5 k hk).1) (fun k hk _ => h7.block k hk) h7.size hst (hs.om_new hbl (fun k hk => (h5 k hk).2) fun k hk => upd_ne _ _ (Ne.symm hk))
          exact hn _ v w' S' M (hk b hnb) (hs'.put hd (.clean h2) (fun i hi => absurd hi (h2.clean_ids i))) ⟨h4, fun k hk => h5 k (hs.hB k hk), (BelowF.of h7).mono hs.hB⟩
        · obtain ⟨vs, hl, hrep, hrun⟩ := ext_args (dst := dst) (ty := ty) (pos := pos) (after := after) (guard := guard) hs hc hg
          obtain ⟨v, hv, hrun2⟩ := hxt w S vs (by rw [PV.giveL_length]; exact hl) (fun i hi => hrep i (by rw [PV.giveL_length] at hi; exact hi))
          rw [hrun, hrun2]
          exact hn _ v w S M hk (hs.put hd (.clean hv) (fun i hi => absurd hi (hv.clean_ids i))) (Ext.refl _ _ _)
        · obtain ⟨vs, hl, hrep, hrun⟩ := calls_args (dst := dst) (ty := ty) (pos := pos) (after := after) (guard := guard) hs hc hg hcal
          rw [hrun]
          show Calls P g ⟨vs⟩ w _
          refine (hcalls w S vs hs.stable.s hs.young (by rw [PV.giveL_length]; exact hl) (fun i hi => hrep i (by rw [PV.giveL_length] at hi; exact hi))).mono fun en w' hq => ?_
          obtain ⟨v, S', κ, ψ, rfl, h1, h2, h3, h4, h5, h6⟩ := hq
          have hs1 := hs.grow h4 h5 h3 h6.block h6.size
          have hψ : 0 < κ → w.heap.size ≤ ψ := fun h0 => by
            obtain ⟨_, g2⟩ := h2
            obtain ⟨_, _, g3, _⟩ := g2 (κ - 1) (by show κ = _; omega)
            exact Nat.not_lt.1 g3
          have hs2 := hs1.addRow (d := d) (κ := κ) (ψ := ψ) (n := n) (sz := sz) (e := e) hqd
            (by
              obtain ⟨g1, g2⟩ := h2
              refine ⟨g1, fun c hc => ?_⟩
              obtain ⟨k1, k2, k3, k4, k5⟩ := g2 c hc
              exact ⟨k1, k2, fun hB => k3 (hs.hB _ hB), k4, k5⟩)
            (fun i r1 hi oi ki k0 => by have := hs.row_lt hi oi ki; have := hψ k0; omega)
            (fun i cs hi zi k0 => by have := hs.blk_lt hi zi; have := hψ k0; omega)
          have hrv := h1 d { M with ψ := upd M.ψ d ψ, κ := upd M.κ d κ } (s.m.setq d (.live n sz e)).q (upd_same _ _ _) (upd_same _ _ _) (upd_same _ _ _)
          exact hn _ v w' S' _ hk (hs2.put hd hrv (fun i hi => by
            rw [hri d i hi]
            show upd s.m.q d _ d ≠ none
            rw [upd_same]; simp)) ⟨h4, fun k hk => h5 k (hs.hB k hk), (BelowF.of h6).mono hs.hB⟩
    | builtin b =>
      cases b with
      | append =>
        simp only [calleeOf] at h
        unfold vApp at h
        split at h
        · rename_i d t tx x y hts hxs
          split at h
          · rename_i ei ys h1 h2
            obtain ⟨g4, h⟩ := h
            obtain ⟨x1, x2, rfl, e1, e2⟩ : ∃ x1 x2, cargs = [x1, x2] ∧ s.eval x1 = x ∧ s.eval x2 = y := by
              have hxs : cargs.map s.eval = [x, y] := hxs
              clear hts
              rcases cargs with _ | ⟨x1, _ | ⟨x2, _ | ⟨x3, l⟩⟩⟩
              · simp at hxs
              · simp at hxs
              · simp at hxs; exact ⟨x1, x2, rfl, hxs.1, hxs.2⟩
              · simp at hxs
            obtain ⟨tys⟩ := ts
            have hts' : tys = [t, tx] := hts
            subst hts'
            unfold Oper.wp
            have hrun : ∀ {rr w'}, (Builtin.append_ #[t, tx] ty #[a.eval x1, a.eval x2]).run P w = .ok rr w' → (execOp a.eval ⟨some d, .call ⟨.builtin .append, ⟨[x1, x2]⟩, ⟨[t, tx]⟩⟩, ty, pos, after, guard⟩).run P w = .ok (.value rr) w' := fun k1 => by
              simp [execOp, resolve, invoke, builtin, k1]
            unfold vApp1 at h
            split at h
            · rename_i id n sz
              split at h
              · rename_i es h3
                obtain ⟨g0, g1, g2, g3, g5, g6, g7, hk⟩ := h
                subst g0
                subst g1
                have r1 := hs.eval x1
                rw [e1] at r1
                have r2 := hs.eval x2
                rw [e2] at r2
                obtain ⟨rr, w', S', M', k1, k2, k3, k4⟩ := vec_appendTo hs (d := d) (ty := ty) h1 r1 h3 g2 r2 h2 g5 g3 g4 g6 g7
                rw [hrun k1]
                refine hn _ rr w' S' M' hk (k2.put hd k3 fun i hi => ?_) k4
                simp only [PV.ids, List.mem_singleton] at hi
                subst hi
                show (appM _ _ _ _ _ _ _).q d ≠ none
                unfold appM
                split <;> simp [Hp.setq, upd_same]
              · exact h.elim
            · obtain ⟨g0, g5, g6, g7, hk⟩ := h
              have hs1 := hs.nilVec (sz := ei.size) (e := ei.e) g0
              have r1 := hs.eval x1
              rw [e1] at r1
              have hu : a.eval x1 = .slice none 0 0 := r1.slnil_inv
              have r1' : RepS S { M with κ := upd M.κ d 0 } (upd s.m.q d (some (.vec 0 ei.size ei.e))) (a.eval x1) (.vsl d ([] : List PV).length ei.size) := by
                rw [hu]
                refine .vsl d 0 ei.size _ ⟨none, 0, rfl, Nat.le_refl _, fun h => absurd h (Nat.lt_irrefl _)⟩ fun n' sz' e' hq => ?_
                rw [upd_same] at hq
                cases hq
                exact ⟨Nat.le_refl _, fun _ => ⟨rfl, fun _ => rfl, fun c hc => by simp [upd_same] at hc⟩⟩
              have r2 := hs1.eval x2
              have r2' : RepS S { M with κ := upd M.κ d 0 } (upd s.m.q d (some (.vec 0 ei.size ei.e))) (a.eval x2) y := by rw [← e2]; exact r2
              have hav : appendedV P tx y { s.m.setq d (.vec 0 ei.size ei.e) with v := upd s.m.v d (some []) } = some ys := by
                cases y <;> first | exact h2 | skip
                rename_i id n sz
                have hne : d ≠ id := fun e => g5.2.2.2 (by simp [e])
                simp only [appendedV] at h2 ⊢
                split at h2
                · rw [upd_ne _ _ hne]; exact h2
                · cases h2
              have hso : vsrcOk y { s.m.setq d (.vec 0 ei.size ei.e) with v := upd s.m.v d (some []) } ys ei.size [d, d] := by
                cases y <;> first | exact g5 | skip
                rename_i id n sz
                obtain ⟨q1, q2, ⟨e, q3⟩, q4⟩ := g5
                have hne : d ≠ id := fun e => q4 (by simp [e])
                refine ⟨q1, q2, ⟨e, ?_⟩, by simpa using q4⟩
                show upd s.m.q d _ id = _
                rw [upd_ne _ _ hne]; exact q3
              obtain ⟨rr, w', S', M', k1, k2, k3, k4⟩ := vec_appendTo hs1 (id := d) (d := d) (ty := ty) (es := []) h1 r1' (upd_same _ _ _) (upd_same _ _ _) r2' hav hso (.inl rfl) g4 (by simpa using g6) (by simpa using g7)
              rw [hrun k1]
              simp only [appM, if_true, St.with, Hp.setq, upd_upd, List.length_nil, Nat.zero_add, List.nil_append] at k2 k3
              refine hn _ rr w' S' M' hk (k2.put hd k3 fun i hi => ?_) k4
              simp only [PV.ids, List.mem_singleton] at hi
              subst hi
              simp [Live, upd_same]
            · exact h.elim
          · exact h.elim
        · exact h.elim
      | _ => simp [calleeOf] at h
    | _ => simp [calleeOf] at h
  | buildSlice t len parts =>
    obtain ⟨parts⟩ := parts
    simp only at h
    unfold vBld at h
    split at h
    · rename_i d ei hx
      obtain ⟨g1, g2, g3, g4, hk⟩ := h
      obtain ⟨p1, p2, p3⟩ := parts_ok hs parts
      subst g2
      obtain ⟨v, w', M', k1, k2, k3, k4⟩ := vec_build hs (d := d) hx p1 p2 p3 g1 g3 g4
      unfold Oper.wp
      have hrun : (execOp a.eval ⟨some d, .buildSlice t (parts.map fun x => (x.1, s.eval x.2)).length ⟨parts⟩, ty, pos, after, guard⟩).run P w = .ok (.value v) w' := by
        simp only [List.length_map] at k1
        simp only [execOp, List.length_map]
        have e : (Array.map (fun x : Nat × Operand => (x.fst, a.eval x.snd)) ⟨parts⟩) = ⟨parts.map fun x => (x.fst, a.eval x.snd)⟩ := by simp
        first | rw [e] | skip
        simp [k1]
      rw [hrun]
      refine hn _ v w' S M' hk (k2.put hd k3 fun i hi => ?_) k4
      simp only [PV.ids, List.mem_singleton] at hi
      subst hi
      show upd s.m.q d _ d ≠ none
      rw [upd_same]; simp
    · exact h.elim
  | makeMap t r =>
    cases r with
    | some _ => exact h.elim
    | none =>
      simp only at h
      unfold Oper.wp
      have hrun : (execOp a.eval ⟨dst, .makeMap t none, ty, pos, after, guard⟩).run P w = .ok (.value (.map (some w.heap.size))) (w.alloc (.map #[] 0)) := by
        simp [execOp, Instr.makeMap, newObj, Sem.run]
      rw [hrun]
      have hnb : s.m.o w.heap.size = none := by
        cases ho : s.m.o w.heap.size with
        | none => rfl
        | some d => have := (hs.stable.o _ d ho).2.2.lt; omega
      have hold : ∀ k, k < w.heap.size → (w.alloc (.map #[] 0)).heap[k]? = w.heap[k]? := fun k hk => alloc_heap_old w _ hk
      have hnew : (w.alloc (.map #[] 0)).heap[w.heap.size]? = some (.map #[] 0) := alloc_heap_new w _
      have hst : Stab B S (w.alloc (.map #[] 0)) (upd s.m.o w.heap.size (some ⟨[], []⟩)) s.m.it :=
        hs.stable.turn (SLe.refl _) (hs.stable.s.old hold) (fun _ _ _ => rfl) (fun k hk _ => hold k hk) hs.new_ok (hs.S_m (Nat.le_refl _)) ⟨[], hnew, rfl, rfl, fun i hi => by simp at hi, fun i hi => by simp at hi, fun i hi => by simp at hi⟩
          (fun x hx => by have := (hs.stable.i _ x hx).2.1.lt; omega)
      have hs' := hs.growX (b := w.heap.size) (fun vs t f hh => by have := (Array.getElem?_eq_some_iff.1 hh).1; omega) (SLe.refl _) (fun _ _ _ _ => rfl) (fun k hk _ => hold k hk) (by rw [alloc_size]; omega) hst (hs.om_new (Nat.le_refl _) (fun _ _ => rfl) fun k hk => by first | rfl | exact upd_ne _ _ (Ne.symm hk))
      exact hn _ _ _ S M (h w.heap.size hnb) (hs'.put hd (.clean (.mref _)) (by simp [PV.ids])) (hs.ext_alloc _)
  | mapEntry t x k =>
    simp only at h
    unfold entryX at h
    split at h
    · rename_i b ls z cs hxb htm hkc
      split at h
      · rename_i c hob
        split at h
        · rename_i r hf
          obtain ⟨g1, g2, hk⟩ := h
          have ex := hs.eval x
          rw [hxb] at ex
          have ek := hs.eval k
          rw [hkc] at ek
          obtain ⟨u, w', k1, k2, k3, k4, k5⟩ := om_entry hs hob htm ek hf g1 g2
          unfold Oper.wp
          have hrun : (execOp a.eval ⟨dst, .mapEntry t x k, ty, pos, after, guard⟩).run P w = .ok (.value u) w' := by
            simp [execOp, ex.mref_inv, k1]
          rw [hrun]
          exact hn _ _ _ S M hk (k2.put hd k3 fun i hi => by have := k5 i hi; cases i <;> exact this) k4
        · exact h.elim
      · exact h.elim
    · exact h.elim
  | entryStore t x st v =>
    simp only at h
    obtain ⟨hdn, h⟩ := h
    subst hdn
    unfold storeX at h
    split at h
    · rename_i b k hxb hst
      split at h
      · rename_i c hob
        obtain ⟨g1, g2, hk⟩ := h
        have ex := hs.eval x
        rw [hxb] at ex
        have es := hs.eval st
        rw [hst] at es
        obtain ⟨w', k1, k2, k3⟩ := om_store (P := P) (t := t) hs hob (hs.eval v) (hs.eval_ids v) g2
        unfold Oper.wp
        have hrun : (execOp a.eval ⟨none, .entryStore t x st v, ty, pos, after, guard⟩).run P w = .ok .skip w' := by
          rw [Int.toNat_of_nonneg g1] at k1
          simp [execOp, ex.mref_inv, es.int_inv, k1]
        rw [hrun]
        exact hn _ (.tuple #[]) w' S M hk (k2.put hd (.clean (.tup [] [] rfl fun i hi => by cases hi)) (by simp [PV.ids, PV.idsL])) k3
      · exact h.elim
    · exact h.elim
  | range t x =>
    simp only at h
    obtain ⟨htm, h⟩ := h
    have ex := hs.eval x
    unfold rangeX at h
    split at h
    · rename_i b hxb
      split at h
      · rename_i c hob
        rw [hxb] at ex
        obtain ⟨q1, q2, es, e1, e2, e3, e4, e5, e6⟩ := hs.stable.o b c hob
        unfold tmapB at htm
        split at htm
        · rename_i kt et hu
          unfold Oper.wp
          have hg := MapKept.run_getObj_map (P := P) e1
          have hrun : (execOp a.eval ⟨dst, .range t x, ty, pos, after, guard⟩).run P w = .ok (.value (.pointer (some ⟨w.heap.size, 0, none⟩))) (w.alloc (.mapIter (some b) es.length #[] es.length)) := by
            simp [execOp, Instr.range, run_underlying hu, ex.mref_inv, hg, newObj, Sem.run]
          rw [hrun]
          have hold : ∀ k, k < w.heap.size → (w.alloc (.mapIter (some b) es.length #[] es.length)).heap[k]? = w.heap[k]? := fun k hk => alloc_heap_old w _ hk
          have hnew := alloc_heap_new w (.mapIter (some b) es.length #[] es.length)
          have hni : s.m.it w.heap.size = none := by
            cases ho : s.m.it w.heap.size with
            | none => rfl
            | some d => have := (hs.stable.i _ d ho).2.1.lt; omega
          have hst : Stab B S (w.alloc (.mapIter (some b) es.length #[] es.length)) s.m.o (upd s.m.it w.heap.size (some ⟨b, c.ks.length, [], none⟩)) := by
            refine ⟨hs.stable.s.old hold, fun k d hd => ?_, fun k y hy => ?_⟩
            · obtain ⟨g1, g2, g3⟩ := hs.stable.o k d hd
              exact ⟨g1, g2, g3.move (SLe.refl _) (hold k g3.lt)⟩
            · by_cases e : w.heap.size = k
              · subst e
                rw [upd_same] at hy
                cases hy
                refine ⟨hs.new_ok, ?_, fun c hc => by cases hc⟩
                unfold IterAt
                rw [hnew, e2]
              · rw [upd_ne _ _ e] at hy
                obtain ⟨g1, g2⟩ := hs.stable.i k y hy
                refine ⟨g1, ?_⟩
                have := g2.1.lt
                unfold IterAt at g2 ⊢
                rw [hold k this]; exact g2
          have hs' := hs.growX (b := w.heap.size) (fun vs t f hh => by have := (Array.getElem?_eq_some_iff.1 hh).1; omega) (SLe.refl _) (fun _ _ _ _ => rfl) (fun k hk _ => hold k hk) (by rw [alloc_size]; omega) hst (hs.om_new (Nat.le_refl _) (fun _ _ => rfl) fun k hk => by first | rfl | exact upd_ne _ _ (Ne.symm hk))
          exact hn _ _ _ S M (h w.heap.size hni) (hs'.put hd (.clean (.iptr _)) (by simp [PV.ids])) (hs.ext_alloc _)
        · cases htm
      · exact h.elim
    · rename_i ks vs hxb
      rw [hxb] at ex
      generalize hval : a.eval x = u at ex
      obtain ⟨b, es, hu2, hS, e2, e3, e4, e5, e6⟩ : ∃ b es, u = .map (some b) ∧ S.m b = some es ∧ es.length = ks.length ∧ vs.length = ks.length ∧ (∀ i, i < ks.length → (es.getD i default).born = i) ∧
          (∀ i, i < ks.length → Rep S (es.getD i default).key (ks.getD i .any)) ∧ (∀ i, i < ks.length → Rep S (es.getD i default).val (vs.getD i .any)) := by
        cases ex with
        | clean r => cases r with
          | rmap b es _ _ hS hk hv hb hK hV => exact ⟨b, es, rfl, hS, hk, hv, hb, hK, hV⟩
      subst hu2
      have e1 := hs.stable.s.m b es hS
      unfold tmapB at htm
      split at htm
      · rename_i kt et hu
        unfold Oper.wp
        have hg := MapKept.run_getObj_map (P := P) e1
        have hrun : (execOp a.eval ⟨dst, .range t x, ty, pos, after, guard⟩).run P w = .ok (.value (.pointer (some ⟨w.heap.size, 0, none⟩))) (w.alloc (.mapIter (some b) es.length #[] es.length)) := by
          simp [execOp, Instr.range, run_underlying hu, hval, hg, newObj, Sem.run]
        rw [hrun]
        have hold : ∀ k, k < w.heap.size → (w.alloc (.mapIter (some b) es.length #[] es.length)).heap[k]? = w.heap[k]? := fun k hk => alloc_heap_old w _ hk
        have hnew := alloc_heap_new w (.mapIter (some b) es.length #[] es.length)
        have hni : s.m.it w.heap.size = none := by
          cases ho : s.m.it w.heap.size with
          | none => rfl
          | some d => have := (hs.stable.i _ d ho).2.1.lt; omega
        have hst : Stab B S (w.alloc (.mapIter (some b) es.length #[] es.length)) s.m.o (upd s.m.it w.heap.size (some ⟨b, ks.length, [], some ⟨ks, vs⟩⟩)) := by
          refine ⟨hs.stable.s.old hold, fun k d hd => ?_, fun k y hy => ?_⟩
          · obtain ⟨g1, g2, g3⟩ := hs.stable.o k d hd
            exact ⟨g1, g2, g3.move (SLe.refl _) (hold k g3.lt)⟩
          · by_cases e : w.heap.size = k
            · subst e
              rw [upd_same] at hy
              cases hy
              refine ⟨hs.new_ok, ?_, fun c hc => by cases hc; exact ⟨es, hS, e2, e3, e4, e5, e6⟩⟩
              unfold IterAt
              rw [hnew, e2]
            · rw [upd_ne _ _ e] at hy
              obtain ⟨g1, g2⟩ := hs.stable.i k y hy
              refine ⟨g1, ?_⟩
              have := g2.1.lt
              unfold IterAt at g2 ⊢
              rw [hold k this]; exact g2
        have hs' := hs.growX (b := w.heap.size) (fun vs t f hh => by have := (Array.getElem?_eq_some_iff.1 hh).1; omega) (SLe.refl _) (fun _ _ _ _ => rfl) (fun k hk _ => hold k hk) (by rw [alloc_size]; omega) hst (hs.om_new (Nat.le_refl _) (fun _ _ => rfl) fun k hk => by first | rfl | exact upd_ne _ _ (Ne.symm hk))
        exact hn _ _ _ S M (h w.heap.size b hni) (hs'.put hd (.clean (.iptr _)) (by simp [PV.ids])) (hs.ext_alloc _)
      · cases htm
    · exact h.elim
  | next x isS =>
    cases isS with
    | true => exact h.elim
    | false =>
      simp only at h
      have ex := hs.eval x
      unfold nextX at h
      split at h
      · rename_i ib hxb
        split at h
        · rename_i itc hib
          split at h
          · rename_i c hob
            obtain ⟨hlen, hover, hgo⟩ := h
            rw [hxb] at ex
            have hxv : a.eval x = .pointer (some ⟨ib, 0, none⟩) := ex.iptr_inv
            obtain ⟨i1, i2, i3⟩ := hs.stable.i ib itc hib
            obtain ⟨es, e1, e2, e3, e4, e5, e6⟩ := hs.mapIt hib hob
            unfold IterAt at i2
            have hborn : ∀ y ∈ es, y.born < itc.n := fun y hy => by
              obtain ⟨j, hj, rfl⟩ := List.getElem_of_mem hy
              have := e4 j (by omega)
              rw [getD_lt hj] at this
              omega
            unfold Oper.wp
            have he : ∀ v w', (Instr.next (.pointer (some ⟨ib, 0, none⟩)) false ty).run P w = .ok v w' → (execOp a.eval ⟨dst, .next x false, ty, pos, after, guard⟩).run P w = .ok (.value v) w' := fun v w' hh => by
              simp [execOp, hxv, hh]
            rcases run_next_at (P := P) w ty ib itc.b itc.n itc.n ⟨itc.seen⟩ ⟨es⟩ es.length i2 e1 (by simpa using hborn) (Nat.le_refl _) with ⟨hz, hrun⟩ | ⟨e, he1, w1, hw1, hrun⟩
            · rw [he _ _ hrun]
              refine hn _ _ _ S M (hover fun i hi => ?_) (hs.put hd (.clean (.tup [.bool false] [.bool false] rfl (fun i hi => by
                match i, hi with
                | 0, _ => exact .bool _))) (by simp [PV.ids, PV.idsL])) (Ext.refl _ _ _)
              have hil : i < es.length := by omega
              refine Decidable.byContradiction fun hno => ?_
              have hmem : es[i] ∈ (leftOf ⟨es⟩ ⟨itc.seen⟩).toList := by
                unfold leftOf
                simp only [Array.toList_filter, List.mem_filter]
                have hb := e4 i (by omega)
                rw [getD_lt hil] at hb
                refine ⟨List.getElem_mem hil, ?_⟩
                rw [hb]
                simpa using hno
              have h0 : (leftOf ⟨es⟩ ⟨itc.seen⟩).toList = [] := by
                apply List.eq_nil_of_length_eq_zero
                simpa using hz
              rw [h0] at hmem
              cases hmem
            · rw [he _ _ hrun]
              unfold leftOf at he1
              simp only [Array.toList_filter, List.mem_filter] at he1
              obtain ⟨hm, hns⟩ := he1
              obtain ⟨j, hj, rfl⟩ := List.getElem_of_mem hm
              have hb := e4 j (by omega)
              have k5 := e5 j (by omega)
              have k6 := e6 j (by omega)
              rw [getD_lt hj] at hb k5 k6
              rw [hb] at hns ⊢
              have hns' : j ∉ itc.seen := by simpa using hns
              have hw1' : w1.heap = w.heap := by rcases hw1 with rfl | rfl <;> rfl
              have hw2 : ∀ k, k ≠ ib → (ChangeMaps.setBlock w1 ib (.mapIter (some itc.b) itc.n ((⟨itc.seen⟩ : Array Nat).push j) es.length)).heap[k]? = w.heap[k]? := fun k hk => by
                show (w1.heap.setIfInBounds ib _)[k]? = _
                rw [hw1', Array.getElem?_setIfInBounds_ne (Ne.symm hk)]
              have hlt : ib < w.heap.size := (Array.getElem?_eq_some_iff.1 i2).1
              have hw3 : (ChangeMaps.setBlock w1 ib (.mapIter (some itc.b) itc.n ((⟨itc.seen⟩ : Array Nat).push j) es.length)).heap[ib]? = some (.mapIter (some itc.b) itc.n ⟨itc.seen ++ [j]⟩ itc.n) := by
                show (w1.heap.setIfInBounds ib _)[ib]? = _
                rw [hw1', Array.getElem?_setIfInBounds_self_of_lt hlt]
                have : es.length = itc.n := by omega
                rw [this]
                simp
              have hnc : ∀ vs t f, w.heap[ib]? ≠ some (.cells vs t f) := fun vs t f hh => by rw [i2] at hh; cases hh
              have hSm : S.m ib = none := by
                cases hm : S.m ib with
                | none => rfl
                | some l => have := hs.stable.s.m ib l hm; rw [i2] at this; cases this
              have hsz : (ChangeMaps.setBlock w1 ib (.mapIter (some itc.b) itc.n ((⟨itc.seen⟩ : Array Nat).push j) es.length)).heap.size = w.heap.size := by
                show (w1.heap.setIfInBounds ib _).size = _
                rw [hw1']; simp
              have hst : Stab B S (ChangeMaps.setBlock w1 ib (.mapIter (some itc.b) itc.n ((⟨itc.seen⟩ : Array Nat).push j) es.length)) s.m.o (upd s.m.it ib (some ⟨itc.b, itc.n, itc.seen ++ [j], itc.c⟩)) := by
                refine ⟨stabS_special hs.stable.s hnc hSm hw2, fun k d hd => ?_, fun k y hy => ?_⟩
                · obtain ⟨g1, g2, g3⟩ := hs.stable.o k d hd
                  refine ⟨g1, g2, g3.move (SLe.refl _) (hw2 k (fun e => ?_))⟩
                  subst e
                  obtain ⟨es', f1, _⟩ := g3
                  rw [i2] at f1; cases f1
                · by_cases e : ib = k
                  · subst e
                    rw [upd_same] at hy
                    cases hy
                    exact ⟨i1, hw3, i3⟩
                  · rw [upd_ne _ _ e] at hy
                    obtain ⟨g1, g2⟩ := hs.stable.i k y hy
                    refine ⟨g1, ?_⟩
                    unfold IterAt at g2 ⊢
                    rw [hw2 k (Ne.symm e)]; exact g2
              have hs' := hs.special hnc hw2 hsz hst (fun k d hk => ⟨fun e => (by subst e; obtain ⟨⟨es, k1, _⟩, _⟩ := (hs.rm _ d hk).2.2.2; rw [i2] at k1; cases k1), (hs.rm k d hk).2.2.1⟩)
              have ht : w1.os = w.os ∧ w1.tape = w.tape ∧ w1.output = w.output := by rcases hw1 with rfl | rfl <;> exact ⟨rfl, rfl, rfl⟩
              refine hn _ _ _ S M (hgo j (by omega) hns') (hs'.put hd (.clean (.tup [.bool true, _, _] [.bool true, _, _] rfl (fun i hi => by
                match i, hi with
                | 0, _ => exact .bool _
                | 1, _ => exact k5
                | 2, _ => exact k6))) (fun i hi => ?_)) ⟨SLe.refl _, fun _ _ => ⟨fun _ => rfl, rfl⟩, ⟨ht.1, ht.2.1, ht.2.2, by rw [hsz]; exact Nat.le_refl _, fun k hk => hw2 k (fun e => i1 (e ▸ hk))⟩⟩
              simp only [PV.ids, PV.idsL, List.nil_append, List.append_nil, List.mem_append] at hi
              rcases hi with hi | hi
              · exact absurd hi (k5.clean_ids i)
              · exact absurd hi (k6.clean_ids i)
          · exact h.elim
        · exact h.elim
      · exact h.elim
  | binOp bop t x y yt =>
    split at h <;> try (exact h.elim)
    all_goals rename_i heq
    all_goals cases heq
    obtain ⟨⟨hk, hask⟩, h⟩ := h
    have hE := hs.eval x
    have hp : s.eval x = .sl .no [] := by
      revert hask
      unfold askNil
      split
      · rename_i es he
        intro hem
        rw [he, List.isEmpty_iff.1 hem]
      · intro hf; cases hf
    rw [hp] at hE
    obtain ⟨ad, cap, e, _⟩ := hE.sl_inv.sl_len
    obtain ⟨e', he⟩ := teqk_slc hk
    have hrun : (Op.equal t (.slice ad 0 cap) (.slice none 0 0)).run P w = .ok ad.isNone w := by
      have r2 : ∀ d : Nat, (Op.equalIn (d + 1) t (.slice none 0 cap) (.slice none 0 0)).run P w = .ok true w := fun d => by simp [Op.equalIn, run_und he]
      cases ad with
      | none => exact r2 _
      | some b => exact run_equalIn_sl_nil_right _ t e' b 0 cap he
    have hS : Snd P B S s a w (do eqGuard .eql t x (.const (.slice none 0 0)) (a.eval x) (a.eval (.const (.slice none 0 0))); binOp .eql t (a.eval x) (a.eval (.const (.slice none 0 0)))) ⟨True, .bool ad.isNone, s.m⟩ := by
      rw [show a.eval x = .slice ad 0 cap from e, show a.eval (.const (.slice none 0 0)) = .slice none 0 0 from rfl]
      refine Snd.pure hs (v := .bool ad.isNone) ?_ (.clean (.bool _)) (by simp [PV.ids])
      have hg : (eqGuard .eql t x (.const (.slice none 0 0)) (.slice ad 0 cap) (.slice none 0 0)).run P w = .ok () w := run_eqGuard_flat (by simp) (by simp)
      simp only [Sem.run_bind, hg, Result.andThen_ok]
      have := binOp_eql_other (op := .eql) (.inl rfl) (by simp) (by simp) (by simp) (by simp) hrun
      simpa using this
    exact Done.of_snd run_v hd hS next Q fun v w' S' M' hs' he' => hn _ v w' S' M' (h _) hs' he'
  | _ => exact h.elim
end
end Go.PL

namespace Go.PL
open Go.RowKit
set_option linter.unusedVariables false

/-- a guard: both ways, each under what it says -/
def vcGuard (want : Bool) (p : PV) (A B : Prop) : Prop :=
  match p with
  | .bool b => (b = want → A) ∧ (b = !want → B)
  | .tup _ => B
  | _ => False

/-- a call: some contract of the callee -/
def vcCall (P : Program) (x : Bool) (m : Hp) (c : Option (FuncId × List PV)) (K : PV → Hp → Prop) : Prop :=
  match c with
  | some (g, args) => (PV.givableL m args ∧ ((∃ r, Pure P g (PV.giveL m args) r ∧ K r m) ∨ (x = true ∧ callX P g (PV.giveL m args) m K))) ∨ (x = true ∧ callE P g args m K) ∨ (∃ r, Lent P m g args r ∧ K r m)
  | none => False

/-- an operation's outcome: its condition, and what goes on behind it -/
def vcRes (r : ARes) (K : PV → Hp → Prop) : Prop := r.ok ∧ K r.v r.m

def vcOp (P : Program) (x : Bool) (o : Oper) (s : St) (K : St → Prop) : Prop :=
  match o.op with
  | .call { callee := .value f, args, argTypes } => vcCall P x s.m (calleeOf s.eval { callee := .value f, args, argTypes }) fun r m => K ((s.with m).put o.dst r)
  | .call { callee := .builtin .append, args, argTypes } => if isVecs (args.toList.map s.eval) || vmB o.dst s.m then x = true ∧ vApp P o.dst argTypes.toList (args.toList.map s.eval) s.m fun r m => K ((s.with m).put o.dst r) else vcRes (aop P o s.eval s.m) fun v m => K ((s.with m).put o.dst v)
  | .buildSlice t len parts => if vmB o.dst s.m then x = true ∧ vBld P o.dst t len (parts.toList.map fun y => (y.1, s.eval y.2)) s.m fun r m => K ((s.with m).put o.dst r) else vcRes (aop P o s.eval s.m) fun v m => K ((s.with m).put o.dst v)
  | .makeMap _ none => x = true ∧ makeX s.m fun r m => K ((s.with m).put o.dst r)
  | .mapEntry t y k => x = true ∧ entryX P t (s.eval y) (s.eval k) s.m fun r m => K ((s.with m).put o.dst r)
  | .entryStore t y st v => x = true ∧ o.dst = none ∧ storeX (s.eval y) (s.eval st) (s.eval v) s.m fun r m => K ((s.with m).put o.dst r)
  | .range t y => x = true ∧ tmapB P t = true ∧ rangeX (s.eval y) s.m fun r m => K ((s.with m).put o.dst r)
  | .next y false => x = true ∧ nextX (s.eval y) s.m fun r m => K ((s.with m).put o.dst r)
  | .binOp .eql t y (.const (.slice none 0 0)) _ => if askNil (s.eval y) then x = true ∧ teqk P t = .slc ∧ ∀ b, K ((s.with s.m).put o.dst (.bool b)) else vcRes (aop P o s.eval s.m) fun v m => K ((s.with m).put o.dst v)
  | _ => vcRes (aop P o s.eval s.m) fun v m => K ((s.with m).put o.dst v)

def vcA (P : Program) (x : Bool) (ops : Array Oper) (K : St → Prop) : List Oper → St → Prop
  | [], s => K s
  | o :: rest, s => dstOk s.n o.dst ∧ match o.guard with
    | none => vcOp P x o s (vcA P x ops K rest)
    | some (j, want) => match (ops[j]?).bind (·.dst) with
      | none => vcA P x ops K rest (s.put o.dst (.tup []))
      | some d => d < s.n ∧ vcGuard want (s.fr d) (vcOp P x o s (vcA P x ops K rest)) (vcA P x ops K rest (s.put o.dst (.tup [])))

/-- the operations in the order of the text, those that reach into maps too -/
def lexX (P : Program) (ops : Array Oper) (K : St → Prop) : List Oper → St → Prop
  | [], s => K s
  | o :: rest, s => dstOk s.n o.dst ∧ ((gd ops s o = some true ∧ ((∃ v m', StepM P o s.eval s.m v m' ∧ lexX P ops K rest ((s.with m').put o.dst v)) ∨ spec P o s (lexX P ops K rest))) ∨ (gd ops s o = some false ∧ lexX P ops K rest (s.put o.dst (.tup []))))

/-- a branch: both ways, each under what it says -/
def vcCond (p : PV) (A B : Prop) : Prop :=
  match p with
  | .bool b => (b = true → A) ∧ (b = false → B)
  | _ => False

section
variable {P : Program} {s : St}

theorem spec_mono {o : Oper} {K K' : St → Prop} (hK : ∀ s, K s → K' s) (h : spec P o s K) : spec P o s K' := by
  obtain ⟨dst, op, ty, pos, after, guard⟩ := o
  unfold spec at h ⊢
  simp only at h ⊢
  split at h
  · rename_i c
    split at h
    · rename_i g args hc
      rcases h with ⟨h1, h2⟩ | ⟨args0, m0, r, m1, f', g', a1, a2, a3, a4⟩
      rotate_left
      · exact .inr ⟨args0, m0, r, m1, f', g', a1, a2, a3, hK _ a4⟩
      refine .inl ⟨h1, ?_⟩
      rcases h2 with ⟨r, a1, a2, a3⟩ | ⟨b, c, A, r, c', a1, a2, a3, a4⟩ | ⟨r, c, a1, a2⟩ | ⟨r, a1, a2⟩ | ⟨r, n, sz, e, d, a1, a2, a3⟩
      · exact .inl ⟨r, a1, a2, hK _ a3⟩
      · exact .inr (.inl ⟨b, c, A, r, c', a1, a2, a3, hK _ a4⟩)
      · exact .inr (.inr (.inl ⟨r, c, a1, fun b hb => hK _ (a2 b hb)⟩))
      · exact .inr (.inr (.inr (.inl ⟨r, a1, hK _ a2⟩)))
      · exact .inr (.inr (.inr (.inr ⟨r, n, sz, e, d, a1, a2, hK _ a3⟩)))
    · split at h
      · unfold vApp at h ⊢
        split at h
        · split at h
          · obtain ⟨g, h⟩ := h
            refine ⟨g, ?_⟩
            unfold vApp1 at h ⊢
            split at h
            · split at h
              · obtain ⟨g0, g1, g2, g3, g4, g5, g6, hk⟩ := h
                exact ⟨g0, g1, g2, g3, g4, g5, g6, hK _ hk⟩
              · exact h.elim
            · obtain ⟨g0, g1, g2, g3, hk⟩ := h
              exact ⟨g0, g1, g2, g3, hK _ hk⟩
            · exact h.elim
          · exact h.elim
        · exact h.elim
      · exact h.elim
  · unfold vBld at h ⊢
    split at h
    · obtain ⟨g0, g1, g2, g3, hk⟩ := h
      exact ⟨g0, g1, g2, g3, hK _ hk⟩
    · exact h.elim
  · exact fun b hb => hK _ (h b hb)
  · unfold entryX at h ⊢
    split at h
    · split at h
      · split at h
        · exact ⟨h.1, h.2.1, hK _ h.2.2⟩
        · exact h.elim
      · exact h.elim
    · exact h.elim
  · obtain ⟨hd, h⟩ := h
    refine ⟨hd, ?_⟩
    unfold storeX at h ⊢
    split at h
    · split at h
      · exact ⟨h.1, h.2.1, hK _ h.2.2⟩
      · exact h.elim
    · exact h.elim
  · rename_i t x
    obtain ⟨h1, h2⟩ := h
    refine ⟨h1, ?_⟩
    unfold rangeX at h2 ⊢
    split at h2
    · split at h2
      · exact fun ib hib => hK _ (h2 ib hib)
      · exact h2.elim
    · exact fun ib b hib => hK _ (h2 ib b hib)
    · exact h2.elim
  · rename_i x
    unfold nextX at h ⊢
    split at h
    · split at h
      · split at h
        · exact ⟨h.1, fun hh => hK _ (h.2.1 hh), fun i h1 h2 => hK _ (h.2.2 i h1 h2)⟩
        · exact h.elim
      · exact h.elim
    · exact h.elim
  · exact ⟨h.1, fun b => hK _ (h.2 b)⟩
  · exact h.elim
theorem vcOp_step {x : Bool} {o : Oper} {K : St → Prop} (h : vcOp P x o s K) : (∃ v m', StepM P o s.eval s.m v m' ∧ K ((s.with m').put o.dst v)) ∨ (x = true ∧ spec P o s K) := by
  unfold vcOp at h
  split at h
  · rename_i f args ts heq
    unfold vcCall at h
    split at h
    · rename_i g xs hc
      rcases h with ⟨h1, ⟨r, h2, h3⟩ | ⟨hx, h2⟩⟩ | ⟨hx, h2⟩ | ⟨r, h2, h3⟩
      · exact .inl ⟨r, s.m, .inr ⟨_, g, xs, heq, hc, .inl ⟨h1, h2⟩, rfl⟩, h3⟩
      · refine .inr ⟨hx, ?_⟩
        unfold spec
        rw [heq]
        simp only [hc]
        exact .inl ⟨h1, h2⟩
      · refine .inr ⟨hx, ?_⟩
        unfold spec
        rw [heq]
        simp only [hc]
        exact .inr h2
      · exact .inl ⟨r, s.m, .inr ⟨_, g, xs, heq, hc, .inr h2, rfl⟩, h3⟩
    · exact h.elim
  · rename_i xs ts heq
    split at h
    · obtain ⟨hx, h2⟩ := h
      refine .inr ⟨hx, ?_⟩
      unfold spec
      rw [heq]
      simp only [calleeOf]
      exact h2
    · exact .inl ⟨_, _, .inl ⟨h.1, rfl, rfl⟩, h.2⟩
  · rename_i t len parts heq
    split at h
    · obtain ⟨hx, h2⟩ := h
      refine .inr ⟨hx, ?_⟩
      unfold spec
      rw [heq]
      exact h2
    · exact .inl ⟨_, _, .inl ⟨h.1, rfl, rfl⟩, h.2⟩
  · rename_i heq
    exact .inr ⟨h.1, by unfold spec; rw [heq]; exact h.2⟩
  · rename_i heq
    exact .inr ⟨h.1, by unfold spec; rw [heq]; exact h.2⟩
  · rename_i heq
    exact .inr ⟨h.1, by unfold spec; rw [heq]; exact h.2⟩
  · rename_i heq
    exact .inr ⟨h.1, by unfold spec; rw [heq]; exact h.2⟩
  · rename_i heq
    exact .inr ⟨h.1, by unfold spec; rw [heq]; exact h.2⟩
  · rename_i heq
    split at h
    · rename_i hask
      exact .inr ⟨h.1, by unfold spec; rw [heq]; exact ⟨⟨h.2.1, hask⟩, h.2.2⟩⟩
    · exact .inl ⟨_, _, .inl ⟨h.1, rfl, rfl⟩, h.2⟩
  · exact .inl ⟨_, _, .inl ⟨h.1, rfl, rfl⟩, h.2⟩

theorem vcA_lexX {x : Bool} {ops : Array Oper} {K : St → Prop} : ∀ (l : List Oper) (s : St), vcA P x ops K l s → lexX P ops K l s
  | [], s, h => h
  | o :: rest, s, h => by
    obtain ⟨hd, h⟩ := h
    refine ⟨hd, ?_⟩
    have op : ∀ {s}, vcOp P x o s (vcA P x ops K rest) → (∃ v m', StepM P o s.eval s.m v m' ∧ lexX P ops K rest ((s.with m').put o.dst v)) ∨ spec P o s (lexX P ops K rest) := fun h => by
      rcases vcOp_step h with ⟨v, m', h1, h2⟩ | ⟨_, h1⟩
      · exact .inl ⟨v, m', h1, vcA_lexX rest _ h2⟩
      · exact .inr (spec_mono (fun s' hs' => vcA_lexX rest s' hs') h1)
    unfold gd
    cases hg : o.guard with
    | none =>
      rw [hg] at h
      exact .inl ⟨rfl, op h⟩
    | some jw =>
      obtain ⟨j, want⟩ := jw
      rw [hg] at h
      simp only at h ⊢
      cases hd' : (ops[j]?).bind (·.dst) with
      | none => rw [hd'] at h; exact .inr ⟨rfl, vcA_lexX rest _ h⟩
      | some d =>
        rw [hd'] at h
        simp only at h ⊢
        obtain ⟨hlt, h⟩ := h
        rw [if_pos hlt]
        unfold vcGuard at h
        split at h
        · rename_i b hb
          rw [hb]
          by_cases hbw : b = want
          · left; subst hbw; exact ⟨by simp [gdOf], op (h.1 rfl)⟩
          · right
            refine ⟨by simp [gdOf, hbw], vcA_lexX rest _ (h.2 ?_)⟩
            cases b <;> cases want <;> simp_all
        · rename_i l hb
          rw [hb]
          exact .inr ⟨rfl, vcA_lexX rest _ h⟩
        · exact h.elim

theorem vcA_lex {ops : Array Oper} {K : St → Prop} : ∀ (l : List Oper) (s : St), vcA P false ops K l s → lexA P ops K l s
  | [], s, h => h
  | o :: rest, s, h => by
    obtain ⟨hd, h⟩ := h
    refine ⟨hd, ?_⟩
    have op : ∀ {s}, vcOp P false o s (vcA P false ops K rest) → ∃ v m', StepM P o s.eval s.m v m' ∧ lexA P ops K rest ((s.with m').put o.dst v) := fun h => by
      rcases vcOp_step h with ⟨v, m', h1, h2⟩ | ⟨h1, _⟩
      · exact ⟨v, m', h1, vcA_lex rest _ h2⟩
      · cases h1
    unfold gd
    cases hg : o.guard with
    | none =>
      rw [hg] at h
      exact .inl ⟨rfl, op h⟩
    | some jw =>
      obtain ⟨j, want⟩ := jw
      rw [hg] at h
      simp only at h ⊢
      cases hd' : (ops[j]?).bind (·.dst) with
      | none => rw [hd'] at h; exact .inr ⟨rfl, vcA_lex rest _ h⟩
      | some d =>
        rw [hd'] at h
        simp only at h ⊢
        obtain ⟨hlt, h⟩ := h
        rw [if_pos hlt]
        unfold vcGuard at h
        split at h
        · rename_i b hb
          rw [hb]
          by_cases hbw : b = want
          · left; subst hbw; exact ⟨by simp [gdOf], op (h.1 rfl)⟩
          · right
            refine ⟨by simp [gdOf, hbw], vcA_lex rest _ (h.2 ?_)⟩
            cases b <;> cases want <;> simp_all
        · rename_i l hb
          rw [hb]
          exact .inr ⟨rfl, vcA_lex rest _ h⟩
        · exact h.elim

theorem lexX_sound {B : Frm} {ops : Array Oper} {K : St → Prop} {Qc : Exit → Act → World → Prop} {S0 : Stable} {w0 : World} (hQ : ∀ s' S' M' a' w', K s' → Sim B S' M' s' a' w' → Ext B S0 S' w0 w' → Qc .normal a' w') :
    ∀ (l : List Oper) (k : Nat) (s : St), (∀ j, l[j]? = ops[k + j]?) → lexX P ops K l s → ∀ S M a w, Sim B S M s a w → Ext B S0 S w0 w → wpOps P ops Qc (List.range' k l.length) a w
  | [], k, s, _, h, S, M, a, w, hs, he => hQ s S M a w h hs he
  | o :: rest, k, s, hl, h, S, M, a, w, hs, he => by
    have h0 : ops[k]? = some o := by simpa using (hl 0).symm
    have hl' : ∀ j, rest[j]? = ops[(k + 1) + j]? := fun j => by have := hl (j + 1); simpa [Nat.add_assoc, Nat.add_comm 1 j] using this
    obtain ⟨hd, h⟩ := h
    simp only [List.length_cons, List.range'_succ, wpOps, h0]
    rcases h with ⟨hg, ⟨v, m', hst, hrest⟩ | hsp⟩ | ⟨hg, hrest⟩
    · rw [gd_ok hs hg, if_pos rfl]
      exact .inl (step_sound hs (dstOk_spec hd) hst _ _ fun u w' S' M' hs' he' => lexX_sound hQ rest (k + 1) _ hl' hrest S' M' _ w' hs' (he.trans he'))
    · rw [gd_ok hs hg, if_pos rfl]
      exact .inl (spec_sound hs (dstOk_spec hd) hsp _ _ fun s' u w' S' M' hk hs' he' => lexX_sound hQ rest (k + 1) s' hl' hk S' M' _ w' hs' (he.trans he'))
    · rw [gd_ok hs hg, if_neg (by simp)]
      exact lexX_sound hQ rest (k + 1) _ hl' hrest S M _ w (skip_sim hs hd) he
theorem awp_regionX {id : Nat} {ops : Array Oper} {Q : Exit → St → Prop} (h : lexX P ops (Q .normal) ops.toList s) : awp P (.region id ops false) Q s := fun B S M a w hs => by
  refine wp_region ?_
  have := lexX_sound (B := B) (S0 := S) (w0 := w) (Qc := fun e a' w' => ∃ s' S' M', Q e s' ∧ Sim B S' M' s' a' w' ∧ Ext B S S' w w') (fun s' S' M' a' w' h1 h2 h3 => ⟨s', S', M', h1, h2, h3⟩) ops.toList 0 s (by simp) h S M a w hs (Ext.refl _ _ _)
  rw [← List.range_eq_range'] at this
  simpa using this

/-- the conditions of a piece of code: what must be shown; loops, regions that draw and what has no rule here stand as they are -/
def vc (P : Program) : Code → (Exit → St → Prop) → St → Prop
  | .skip, Q, s => Q .normal s
  | .label _, Q, s => Q .normal s
  | .ret, Q, s => Q .ret s
  | .exit id, Q, s => Q (.exit id) s
  | .goto l, Q, s => Q (.goto l) s
  | .seq (.label l) y, Q, s => awp P (.seq (.label l) y) Q s
  | .seq x y, Q, s => vc P x (thenQ (vc P y Q) Q) s
  | .cond c x y, Q, s => vcCond (s.eval c) (vc P x Q s) (vc P y Q s)
  | .block id c, Q, s => vc P c (blockQ id Q) s
  | .region _ ops false, Q, s => vcA P true ops (Q .normal) ops.toList s
  | c, Q, s => awp P c Q s

theorem awp_seq_vc {x y : Code} {Q : Exit → St → Prop} {s : St} (hx : ∀ Q s, vc P x Q s → awp P x Q s) (hy : ∀ Q s, vc P y Q s → awp P y Q s) (h : vc P x (thenQ (vc P y Q) Q) s) : awp P (.seq x y) Q s :=
  awp_seq (awp_mono (fun e s' h' => by
      cases e with
      | normal => exact hy Q s' h'
      | _ => exact h') (hx _ s h))
theorem vc_sound : ∀ (c : Code) (Q : Exit → St → Prop) (s : St), vc P c Q s → awp P c Q s
  | .skip, Q, s, h => awp_skip h
  | .label _, Q, s, h => awp_label h
  | .ret, Q, s, h => awp_ret h
  | .exit id, Q, s, h => awp_exit h
  | .goto l, Q, s, h => awp_goto h
  | .seq x y, Q, s, h => by
    cases x with
    | label l => exact h
    | _ => exact awp_seq_vc (vc_sound _) (vc_sound y) h
  | .cond c x y, Q, s, h => by
    unfold vc vcCond at h
    split at h
    · rename_i b hb
      refine awp_cond hb ?_
      cases b
      · exact vc_sound y Q s (h.2 rfl)
      · exact vc_sound x Q s (h.1 rfl)
    · exact h.elim
  | .block id c, Q, s, h => awp_block (vc_sound c _ s h)
  | .region _ ops false, Q, s, h => awp_regionX (vcA_lexX _ _ h)
  | .region _ ops true, Q, s, h => h
  | .loop c, Q, s, h => h
  | .rangeFunc .., Q, s, h => h
  | .scope c, Q, s, h => h
  | .refuse _, Q, s, h => h

end

/-! ### The same, with all that is yet to come out of simp's reach (it does not look into instances) -/
class KS where
  k : St → Prop
class LST where
  l : List Oper
class COD where
  c : Code
class QS where
  q : Exit → St → Prop
class PR where
  p : Prop
class KR where
  k : PV → Hp → Prop
class KV where
  k : PV → Prop
class KH where
  m : Hp

def vRes (r : ARes) [K : KR] : Prop := vcRes r K.k
def vGuard (want : Bool) (p : PV) [A : PR] [B : PR] : Prop := vcGuard want p A.p B.p
def vCond (p : PV) [A : PR] [B : PR] : Prop := vcCond p A.p B.p
def vCall (P : Program) (x : Bool) [M : KH] (c : Option (FuncId × List PV)) [K : KR] : Prop := vcCall P x M.m c K.k
def vA (P : Program) (x : Bool) [K : KS] [G : LST] [L : LST] (s : St) : Prop := vcA P x G.l.toArray K.k L.l s
def vOne (P : Program) (x : Bool) [K : KS] [G : LST] [L : LST] (o : Oper) (s : St) : Prop := vcA P x G.l.toArray K.k (o :: L.l) s
def vOp (P : Program) (x : Bool) [K : KS] (o : Oper) (s : St) : Prop := vcOp P x o s K.k
def gSlot [G : LST] (j : Nat) : Option Nat := (G.l[j]?).bind (·.dst)
def vC (P : Program) [C : COD] [Q : QS] (s : St) : Prop := vc P C.c Q.q s
def vQ [Q : QS] (e : Exit) (s : St) : Prop := Q.q e s

section
variable {P : Program} {x : Bool}
theorem vRes_mk (ok : Prop) (v : PV) (m : Hp) (K : KR) : @vRes ⟨ok, v, m⟩ K = (ok ∧ K.k v m) := rfl
theorem vGuard_tt (A B : PR) : @vGuard true (.bool true) A B = A.p := by simp [vGuard, vcGuard]
theorem vGuard_tf (A B : PR) : @vGuard true (.bool false) A B = B.p := by simp [vGuard, vcGuard]
theorem vGuard_ft (A B : PR) : @vGuard false (.bool true) A B = B.p := by simp [vGuard, vcGuard]
theorem vGuard_ff (A B : PR) : @vGuard false (.bool false) A B = A.p := by simp [vGuard, vcGuard]
theorem vGuard_tup (w : Bool) (l : List PV) (A B : PR) : @vGuard w (.tup l) A B = B.p := rfl
theorem vCond_t (A B : PR) : @vCond (.bool true) A B = A.p := by simp [vCond, vcCond]
theorem vCond_f (A B : PR) : @vCond (.bool false) A B = B.p := by simp [vCond, vcCond]
theorem gSlot_zero (o : Oper) (l : List Oper) : @gSlot ⟨o :: l⟩ 0 = o.dst := rfl
theorem gSlot_succ (o : Oper) (l : List Oper) (j : Nat) : @gSlot ⟨o :: l⟩ (j + 1) = @gSlot ⟨l⟩ j := by simp [gSlot]
theorem vA_nil (K : KS) (G : LST) (s : St) : @vA P x K G ⟨[]⟩ s = K.k s := rfl
theorem vA_cons (K : KS) (G : LST) (o : Oper) (l : List Oper) (s : St) : @vA P x K G ⟨o :: l⟩ s = @vOne P x K G ⟨l⟩ o s := rfl
theorem vOne_plain (K : KS) (G L : LST) (d : Option Tmp) (op : Op) (ty : TypeId) (pos : String) (af : Array Edge) (s : St) :
    @vOne P x K G L ⟨d, op, ty, pos, af, none⟩ s = (dstOk s.n d ∧ @vOp P x ⟨@vA P x K G L⟩ ⟨d, op, ty, "", #[], none⟩ s) := by
  have h : vcOp P x ⟨d, op, ty, pos, af, none⟩ s = vcOp P x ⟨d, op, ty, "", #[], none⟩ s := by
    funext K; cases op <;> rfl
  show (dstOk s.n d ∧ vcOp P x ⟨d, op, ty, pos, af, none⟩ s (vcA P x G.l.toArray K.k L.l)) = _
  rw [h]; rfl
theorem vOne_guard (K : KS) (G L : LST) (d : Option Tmp) (op : Op) (ty : TypeId) (pos : String) (af : Array Edge) (j : Nat) (want : Bool) (s : St) (d' : Nat) (h : @gSlot G j = some d') :
    @vOne P x K G L ⟨d, op, ty, pos, af, some (j, want)⟩ s = (dstOk s.n d ∧ d' < s.n ∧ @vGuard want (s.fr d') ⟨@vOp P x ⟨@vA P x K G L⟩ ⟨d, op, ty, "", #[], none⟩ s⟩ ⟨@vA P x K G L (s.put d (.tup []))⟩) := by
  have h' : (G.l.toArray[j]?).bind (·.dst) = some d' := by simpa [gSlot] using h
  have e : vcOp P x ⟨d, op, ty, pos, af, some (j, want)⟩ s = vcOp P x ⟨d, op, ty, "", #[], none⟩ s := by
    funext K; cases op <;> rfl
  show (dstOk s.n d ∧ (match (G.l.toArray[j]?).bind (·.dst) with
      | none => vcA P x G.l.toArray K.k L.l (s.put d (.tup []))
      | some d => d < s.n ∧ vcGuard want (s.fr d) (vcOp P x ⟨_, op, ty, pos, af, some (j, want)⟩ s (vcA P x G.l.toArray K.k L.l)) (vcA P x G.l.toArray K.k L.l (s.put _ (.tup []))))) = _
  rw [h', e]; rfl

theorem vOp_call (K : KS) (d : Option Tmp) (f : Operand) (args : Array Operand) (ts : Array TypeId) (ty : TypeId) (s : St) :
    @vOp P x K ⟨d, .call ⟨.value f, args, ts⟩, ty, "", #[], none⟩ s = @vCall P x ⟨s.m⟩ (calleeOf s.eval ⟨.value f, args, ts⟩) ⟨fun r m => K.k ((s.with m).put d r)⟩ := rfl

theorem vC_skip (Q : QS) (s : St) : @vC P ⟨.skip⟩ Q s = @vQ Q .normal s := rfl
theorem vC_label (l : Nat) (Q : QS) (s : St) : @vC P ⟨.label l⟩ Q s = @vQ Q .normal s := rfl
theorem vC_ret (Q : QS) (s : St) : @vC P ⟨.ret⟩ Q s = @vQ Q .ret s := rfl
theorem vC_exit (id : Nat) (Q : QS) (s : St) : @vC P ⟨.exit id⟩ Q s = @vQ Q (.exit id) s := rfl
theorem vC_goto (l : Nat) (Q : QS) (s : St) : @vC P ⟨.goto l⟩ Q s = @vQ Q (.goto l) s := rfl
theorem vC_seq_skip (y : Code) (Q : QS) (s : St) : @vC P ⟨.seq (.skip) y⟩ Q s = @vC P ⟨.skip⟩ ⟨thenQ (@vC P ⟨y⟩ Q) Q.q⟩ s := rfl
theorem vC_seq_ret (y : Code) (Q : QS) (s : St) : @vC P ⟨.seq (.ret) y⟩ Q s = @vC P ⟨.ret⟩ ⟨thenQ (@vC P ⟨y⟩ Q) Q.q⟩ s := rfl
theorem vC_seq_exit (id : Nat) (y : Code) (Q : QS) (s : St) : @vC P ⟨.seq (.exit id) y⟩ Q s = @vC P ⟨.exit id⟩ ⟨thenQ (@vC P ⟨y⟩ Q) Q.q⟩ s := rfl
theorem vC_seq_goto (l : Nat) (y : Code) (Q : QS) (s : St) : @vC P ⟨.seq (.goto l) y⟩ Q s = @vC P ⟨.goto l⟩ ⟨thenQ (@vC P ⟨y⟩ Q) Q.q⟩ s := rfl
theorem vC_seq_seq (a b : Code) (y : Code) (Q : QS) (s : St) : @vC P ⟨.seq (.seq a b) y⟩ Q s = @vC P ⟨.seq a b⟩ ⟨thenQ (@vC P ⟨y⟩ Q) Q.q⟩ s := rfl
theorem vC_seq_cond (c : Operand) (a b : Code) (y : Code) (Q : QS) (s : St) : @vC P ⟨.seq (.cond c a b) y⟩ Q s = @vC P ⟨.cond c a b⟩ ⟨thenQ (@vC P ⟨y⟩ Q) Q.q⟩ s := rfl
theorem vC_seq_block (id : Nat) (c : Code) (y : Code) (Q : QS) (s : St) : @vC P ⟨.seq (.block id c) y⟩ Q s = @vC P ⟨.block id c⟩ ⟨thenQ (@vC P ⟨y⟩ Q) Q.q⟩ s := rfl
theorem vC_seq_region (id : Nat) (l : Array Oper) (d : Bool) (y : Code) (Q : QS) (s : St) : @vC P ⟨.seq (.region id l d) y⟩ Q s = @vC P ⟨.region id l d⟩ ⟨thenQ (@vC P ⟨y⟩ Q) Q.q⟩ s := rfl
theorem vC_seq_loop (c : Code) (y : Code) (Q : QS) (s : St) : @vC P ⟨.seq (.loop c) y⟩ Q s = @vC P ⟨.loop c⟩ ⟨thenQ (@vC P ⟨y⟩ Q) Q.q⟩ s := rfl
theorem vC_seq_scope (c : Code) (y : Code) (Q : QS) (s : St) : @vC P ⟨.seq (.scope c) y⟩ Q s = @vC P ⟨.scope c⟩ ⟨thenQ (@vC P ⟨y⟩ Q) Q.q⟩ s := rfl
theorem vC_seq_label (l : Nat) (y : Code) (Q : QS) (s : St) : @vC P ⟨.seq (.label l) y⟩ Q s = awp P (.seq (.label l) y) Q.q s := rfl
theorem vC_cond (c : Operand) (x y : Code) (Q : QS) (s : St) : @vC P ⟨.cond c x y⟩ Q s = @vCond (s.eval c) ⟨@vC P ⟨x⟩ Q s⟩ ⟨@vC P ⟨y⟩ Q s⟩ := rfl
theorem vC_block (id : Nat) (c : Code) (Q : QS) (s : St) : @vC P ⟨.block id c⟩ Q s = @vC P ⟨c⟩ ⟨blockQ id Q.q⟩ s := rfl
theorem vC_region (id : Nat) (l : List Oper) (Q : QS) (s : St) : @vC P ⟨.region id l.toArray false⟩ Q s = @vA P true ⟨@vQ Q .normal⟩ ⟨l⟩ ⟨l⟩ s := rfl
theorem vC_scope (c : Code) (Q : QS) (s : St) : @vC P ⟨.scope c⟩ Q s = awp P (.scope c) Q.q s := rfl
theorem vC_loop (c : Code) (Q : QS) (s : St) : @vC P ⟨.loop c⟩ Q s = awp P (.loop c) Q.q s := rfl
theorem vC_draw (id : Nat) (l : Array Oper) (Q : QS) (s : St) : @vC P ⟨.region id l true⟩ Q s = awp P (.region id l true) Q.q s := rfl

theorem vQ_then_normal (K : St → Prop) (Q : Exit → St → Prop) (s : St) : @vQ ⟨thenQ K Q⟩ .normal s = K s := rfl
theorem vQ_then_ret (K : St → Prop) (Q : Exit → St → Prop) (s : St) : @vQ ⟨thenQ K Q⟩ .ret s = @vQ ⟨Q⟩ .ret s := rfl
theorem vQ_then_exit (K : St → Prop) (Q : Exit → St → Prop) (id : Nat) (s : St) : @vQ ⟨thenQ K Q⟩ (.exit id) s = @vQ ⟨Q⟩ (.exit id) s := rfl
theorem vQ_then_goto (K : St → Prop) (Q : Exit → St → Prop) (id : Nat) (s : St) : @vQ ⟨thenQ K Q⟩ (.goto id) s = @vQ ⟨Q⟩ (.goto id) s := rfl
theorem vQ_block_normal (id : Nat) (Q : Exit → St → Prop) (s : St) : @vQ ⟨blockQ id Q⟩ .normal s = @vQ ⟨Q⟩ .normal s := rfl
theorem vQ_block_ret (id : Nat) (Q : Exit → St → Prop) (s : St) : @vQ ⟨blockQ id Q⟩ .ret s = @vQ ⟨Q⟩ .ret s := rfl
theorem vQ_block_goto (id l : Nat) (Q : Exit → St → Prop) (s : St) : @vQ ⟨blockQ id Q⟩ (.goto l) s = @vQ ⟨Q⟩ (.goto l) s := rfl
theorem vQ_block_exit (id j : Nat) (Q : Exit → St → Prop) (s : St) : @vQ ⟨blockQ id Q⟩ (.exit j) s = (if j = id then @vQ ⟨Q⟩ .normal s else @vQ ⟨Q⟩ (.exit j) s) := rfl
theorem vGuard_t {b : Bool} {A B : PR} (h1 : b = true → A.p) (h2 : b = false → B.p) : @vGuard true (.bool b) A B := ⟨h1, h2⟩
theorem vGuard_f {b : Bool} {A B : PR} (h1 : b = true → B.p) (h2 : b = false → A.p) : @vGuard false (.bool b) A B := ⟨h2, h1⟩
theorem vCond_b {b : Bool} {A B : PR} (h1 : b = true → A.p) (h2 : b = false → B.p) : @vCond (.bool b) A B := ⟨h1, h2⟩
theorem vCall_of {M : KH} {g : FuncId} {args args' : List PV} {K : KR} {r : PV} (h1 : Pure P g args' r) (h0 : PV.givableL M.m args) (he : PV.giveL M.m args = args') (h2 : K.k r M.m) : @vCall P x M (some (g, args)) K :=
  .inl ⟨h0, .inl ⟨r, by rw [he]; exact h1, h2⟩⟩
/-- a call that reads, writes or hands on memory of the caller's; f' and g': the names that the contract's rows and blocks bear with the caller -/
theorem vCall_eff {M : KH} {g : FuncId} {args args0 : List PV} {K : KR} {m0 m1 : MemL} {r : PV} (f' g' : Nat → Nat) (h1 : Eff P g args0 m0 r m1) (hf : FitsM m0 m1 f' g' M.m) (he : PV.giveL M.m args = args0.map (PV.ren f' g')) (h2 : K.k (r.ren f' g') (layM m1 f' g' M.m)) : @vCall P true M (some (g, args)) K :=
  .inr (.inl ⟨rfl, args0, m0, r, m1, f', g', h1, hf, .inl he, h2⟩)
/-- the same, its arguments as they are told -/
theorem vCall_effR {M : KH} {g : FuncId} {args args0 : List PV} {K : KR} {m0 m1 : MemL} {r : PV} (f' g' : Nat → Nat) (h1 : Eff P g args0 m0 r m1) (hf : FitsM m0 m1 f' g' M.m) (he : args = args0.map (PV.ren f' g')) (h2 : K.k (r.ren f' g') (layM m1 f' g' M.m)) : @vCall P true M (some (g, args)) K :=
  .inr (.inl ⟨rfl, args0, m0, r, m1, f', g', h1, hf, .inr he, h2⟩)
/-- what is handed back, result by result -/
def vRet (P : Program) (r : PV) (s : St) : List PV → List ResultVar → Prop
  | acc, [] => (pack acc.reverse).givable s.m ∧ r = (pack acc.reverse).give s.m
  | acc, .tmp t :: rs => vRet P r s (s.fr t :: acc) rs
  | acc, .cell t ty :: rs => tkn P ty = true ∧ (aLoad P ty (s.fr t) s.m).ok ∧ vRet P r s ((aLoad P ty (s.fr t) s.m).v :: acc) rs

theorem vRet_retP {fn : Func} {r : PV} {s : St} : ∀ (rs : List ResultVar) (acc : List PV), vRet P r s acc rs →
    allOk (rs.map (resV P s)) ∧ (pack (acc.reverse ++ rs.map fun x => (resV P s x).v)).givable s.m ∧ r = (pack (acc.reverse ++ rs.map fun x => (resV P s x).v)).give s.m
  | [], acc, h => by simpa [vRet, allOk] using h
  | .tmp t :: rs, acc, h => by
    obtain ⟨h1, h2, h3⟩ := vRet_retP (fn := fn) rs _ h
    refine ⟨⟨trivial, h1⟩, ?_, ?_⟩
    · simpa [resV] using h2
    · simpa [resV] using h3
  | .cell t ty :: rs, acc, h => by
    obtain ⟨h0, h0', h⟩ := h
    obtain ⟨h1, h2, h3⟩ := vRet_retP (fn := fn) rs _ h
    refine ⟨⟨?_, h1⟩, ?_, ?_⟩
    · simpa [resV, h0] using h0'
    · simpa [resV, h0] using h2
    · simpa [resV, h0] using h3

def vRetQ (P : Program) (rs : List ResultVar) (r : PV) : Exit → St → Prop
  | .normal, s => vRet P r s [] rs
  | .ret, s => vRet P r s [] rs
  | _, _ => False
theorem vQ_vret_ret (rs : List ResultVar) (r : PV) (s : St) : @vQ ⟨vRetQ P rs r⟩ .ret s = vRet P r s [] rs := rfl
theorem vQ_vret_normal (rs : List ResultVar) (r : PV) (s : St) : @vQ ⟨vRetQ P rs r⟩ .normal s = vRet P r s [] rs := rfl

theorem Pure.of_v {f : FuncId} {fn : Func} {c : Code} {args : List PV} {r : PV} {n : Nat} {rs : List ResultVar} (hf : P.funcs[f]? = some fn) (hname : fn.name ≠ "runtime.NumGoroutine") (hb : fn.body = some c) (hn : fn.ntmps = n) (hrs : fn.results = rs.toArray) (hl : args.length ≤ n) (hi : r.dids = [])
    (h : @vC P ⟨c⟩ ⟨vRetQ P rs r⟩ (St.init args n)) : Pure P f args r := by
  subst hn
  refine Pure.intro hf hname hb hl hi (awp_mono (fun e s hq => ?_) (vc_sound _ _ _ h))
  have key : vRet P r s [] rs → retP P fn r s := fun hv => by
    unfold retP
    rw [hrs]
    simpa using vRet_retP (fn := fn) rs [] hv
  cases e with
  | normal => exact key hq
  | ret => exact key hq
  | _ => exact hq
end
end Go.PL

namespace Go.PL
attribute [go_sem] vC_seq_skip vC_seq_ret vC_seq_exit vC_seq_goto vC_seq_seq vC_seq_cond vC_seq_block vC_seq_region vC_seq_loop vC_seq_scope vC_seq_label vC_scope vC_region vC_ret vC_cond vC_block vC_skip vC_label vC_exit vC_goto vC_loop vC_draw vA_cons vA_nil vOne_plain vOne_guard gSlot_zero gSlot_succ vQ_then_normal vQ_then_ret vQ_then_exit vQ_then_goto
  vQ_block_normal vQ_block_ret vQ_block_goto vQ_block_exit vQ_vret_ret vQ_vret_normal vGuard_tt vGuard_tf vGuard_ft vGuard_ff vGuard_tup vCond_t vCond_f vRes_mk
attribute [go_sem] vOp vcOp vcRes dstOk aop St.eval St.init initFr St.put St.with aField aFieldAddr aIndex aIndexAddr aLoad aStore splice Hp.new Hp.empty Hp.setq Hp.freeze PV.cells aBin aInt aFlt aStr aEql aEq ofVal ofAtom partPV PV.known PV.atom
  aPick aNilCheck aCpx aReal aImag aUn aConv aExtract aLen aMax aMin aBuild fillPV aBuildSlice partsOk aSlice loOf hiOf aMakeRow aMakeFull aBuiltin aAppend appended calleeOf PV.give PV.giveL PV.givable PV.givableL PV.share PV.shareL Tok.sh PV.clean PV.cleanL
  vRet pack frozenBy capsOk PV.ids PV.idsL eqLeaf eqLeaves ptrNil slNil mapNil ARes.fail aLookup aMapUpdate aEntry aMapLen isMapPV mapOf mapIt lookV makeX rangeX nextX PV.shut PV.sealL isVecs vmB askNil List.isEmpty_nil List.isEmpty_cons vApp vApp1 vBld partsV appendedV vsrcOk appM entryX storeX entV entC findP putPV
attribute [go_sem ↓ high] vOp_call
attribute [go_sem] List.append_nil List.nil_append List.cons_append
@[go_sem] theorem upd_lit {α : Type} (f : Nat → α) (i j : Nat) (v : α) : upd f i v j = if i = j then v else f j := rfl
end Go.PL

namespace Go.PL
open Go.RowKit
set_option linter.unusedVariables false

/-- which parts of the call's own memory an operation reads and writes; whether it makes a block, a row of its own -/
structure Fp where
  rh : Bool := false
  rz : Bool := false
  rq : Bool := false
  wh : Bool := false
  wz : Bool := false
  wq : Bool := false
  nb : Bool := false
  nq : Bool := false
  ro : Bool := false
  wo : Bool := false

def fp : Op → Fp
  | .load _ _ => { rh := true }
  | .convert _ _ _ => { rh := true }
  | .store _ _ _ => { rh := true, rz := true, wh := true }
  | .alloc _ => { nb := true }
  | .box _ _ => { nb := true }
  | .makeSlice _ _ _ => { nq := true }
  | .buildSlice _ _ _ => { nq := true }
  | .makeFunc _ _ caps => if caps.isEmpty then {} else { rh := true, wz := true }
  | .lookup _ _ _ _ => { ro := true }
  | .mapUpdate _ _ _ _ => { ro := true, wo := true }
  | .entry _ => { ro := true }
  | .call { callee := .builtin b, .. } => match b with | .append => { rq := true, wq := true } | .len => { ro := true } | _ => {}
  | .call _ => { rh := true, rz := true }
  | _ => {}

/-- what a block, or a vec, of the call's own holds -/
def Hp.hv (m : Hp) : Ref → Option (List PV)
  | .b i => m.h i
  | .r i => m.v i
/-- walks through maps, and the maps whose values lean on rows -/
def Hp.io (m : Hp) : (Nat → Option IterC) × (Nat → Option MapC) × (Nat → Option Nat) × (Nat → Option (Nat × Nat × Nat)) × (Nat → Bool) := (m.it, m.om, m.ph, m.pq, m.vm)
theorem hv_setq (m : Hp) (d : Nat) (r : Row) (x : Ref) : (m.setq d r).hv x = m.hv x := by cases x <;> rfl
theorem hv_congr {a b : Hp} (h1 : a.h = b.h) (h2 : a.v = b.v) (x : Ref) : a.hv x = b.hv x := by cases x <;> simp [Hp.hv, h1, h2]
/-- what the operands lean on -/
def refsOf (o : Oper) (ρ : Operand → PV) : List Ref := o.op.operands.toList.flatMap fun x => (ρ x).ids

def Wh (o : Oper) (ρ : Operand → PV) (r : Ref) : Prop := ((fp o.op).wh = true ∧ r ∈ refsOf o ρ) ∨ ((fp o.op).nb = true ∧ ∃ i, o.dst = some i ∧ r = .b i)
def Wz (o : Oper) (ρ : Operand → PV) (i : Nat) : Prop := ((fp o.op).wz = true ∧ .b i ∈ refsOf o ρ) ∨ ((fp o.op).nb = true ∧ o.dst = some i)
def Wq (o : Oper) (ρ : Operand → PV) (i : Nat) : Prop := ((fp o.op).wq = true ∧ (.r i ∈ refsOf o ρ ∨ o.dst = some i)) ∨ ((fp o.op).nq = true ∧ o.dst = some i)

/-- what the operation does to the memory, and that it does the same wherever what it looks at is the same -/
structure Foot (P : Program) (o : Oper) (ρ : Operand → PV) (m : Hp) (v : PV) (m' : Hp) : Prop where
  h1 : ∀ r, ¬ Wh o ρ r → m'.hv r = m.hv r
  z1 : ∀ i, ¬ Wz o ρ i → m'.z i = m.z i
  q1 : ∀ i, ¬ Wq o ρ i → m'.q i = m.q i
  hn : (fp o.op).nb = true → ∀ i, o.dst = some i → m.h i = none
  qn : (fp o.op).nq = true → ∀ i, o.dst = some i → m.q i = none
  hl : ∀ i, m.h i ≠ none → m'.h i ≠ none
  ql : ∀ i, m.q i ≠ none → m'.q i ≠ none
  o1 : (fp o.op).wo = false → m'.o = m.o
  i1 : m'.io = m.io
  re : ∀ m2 : Hp, ((fp o.op).rh = true → ∀ r, r ∈ refsOf o ρ → m2.hv r = m.hv r) → ((fp o.op).rz = true → ∀ i, .b i ∈ refsOf o ρ → m2.z i = m.z i) →
    ((fp o.op).rq = true → ∀ i, (.r i ∈ refsOf o ρ ∨ o.dst = some i) → m2.q i = m.q i) → ((fp o.op).nb = true → ∀ i, o.dst = some i → m2.h i = none) → ((fp o.op).nq = true → ∀ i, o.dst = some i → m2.q i = none) →
    ((fp o.op).ro = true → m2.o = m.o) → m2.io = m.io →
    ∃ m2', StepM P o ρ m2 v m2' ∧ (∀ r, (Wh o ρ r → m2'.hv r = m'.hv r) ∧ (¬ Wh o ρ r → m2'.hv r = m2.hv r)) ∧ (∀ i, (Wz o ρ i → m2'.z i = m'.z i) ∧ (¬ Wz o ρ i → m2'.z i = m2.z i)) ∧
      (∀ i, (Wq o ρ i → m2'.q i = m'.q i) ∧ (¬ Wq o ρ i → m2'.q i = m2.q i)) ∧ (((fp o.op).wo = true → m2'.o = m'.o) ∧ ((fp o.op).wo = false → m2'.o = m2.o)) ∧ m2'.io = m2.io

/-- the operation looks at no memory of the call's own -/
def NoMem (f : Hp → ARes) : Prop := ∀ m m2, (f m).ok → (f m).m = m ∧ (f m2).ok ∧ (f m2).v = (f m).v ∧ (f m2).m = m2

section
variable {P : Program}

theorem noMem_const {ok : Prop} {v : PV} : NoMem fun m => ⟨ok, v, m⟩ := fun m m2 h => ⟨rfl, h, rfl, rfl⟩
theorem noMem_fail : NoMem fun _ => ARes.fail := fun m m2 h => h.elim

theorem noMem_pick {c x y : PV} : NoMem (aPick c x y) := fun m m2 h => by
  revert h; unfold aPick; split
  · exact noMem_const m m2
  · exact noMem_const m m2
  · exact noMem_fail m m2
theorem noMem_field {t : TypeId} {x : PV} {f : Nat} : NoMem (aField P t x f) := fun m m2 h => by
  revert h; unfold aField; split
  · exact noMem_const m m2
  · exact noMem_fail m m2
theorem noMem_fieldAddr {t : TypeId} {x : PV} {f : Nat} : NoMem (aFieldAddr P t x f) := fun m m2 h => by
  revert h; unfold aFieldAddr; split <;> first | exact noMem_const m m2 | exact noMem_fail m m2
theorem noMem_index {t : TypeId} {x y : PV} : NoMem (aIndex P t x y) := fun m m2 h => by
  revert h; unfold aIndex; split <;> first | exact noMem_const m m2 | exact noMem_fail m m2
theorem noMem_indexAddr {t : TypeId} {x y : PV} : NoMem (aIndexAddr P t x y) := fun m m2 h => by
  revert h; unfold aIndexAddr; split <;> first | exact noMem_const m m2 | exact noMem_fail m m2
theorem noMem_int {op : BinOp} {k k' : IntKind} {x y : Int} : NoMem (aInt op k k' x y) := fun m m2 h => by
  revert h; unfold aInt; split <;> first | exact noMem_const m m2 | exact noMem_fail m m2
theorem noMem_str {op : BinOp} {x y : List UInt8} : NoMem (aStr op x y) := fun m m2 h => by
  revert h; unfold aStr; split <;> first | exact noMem_const m m2 | exact noMem_fail m m2
theorem noMem_flt {op : BinOp} {k k' : FloatKind} {x y : Nat} : NoMem (aFlt op k k' x y) := fun m m2 h => by
  revert h; unfold aFlt; split <;> first | exact noMem_const m m2 | exact noMem_fail m m2
theorem noMem_eq {b : Bool} {r : Option Bool} : NoMem (aEq b r) := fun m m2 h => by
  revert h; unfold aEq; split <;> first | exact noMem_const m m2 | exact noMem_fail m m2
theorem noMem_eql {b : Bool} {t : TypeId} {x y : PV} : NoMem (aEql P b t x y) := fun m m2 h => by
  revert h; unfold aEql
  split
  · split <;> first | exact noMem_eq m m2 | exact noMem_fail m m2
  · split <;> first | exact noMem_eq m m2 | exact noMem_fail m m2
  · split <;> first | exact noMem_eq m m2 | exact noMem_fail m m2
theorem noMem_bin {op : BinOp} {t : TypeId} {x y : PV} : NoMem (aBin P op t x y) := fun m m2 h => by
  revert h; unfold aBin
  split
  · exact noMem_int m m2
  · exact noMem_str m m2
  · exact noMem_flt m m2
  · split <;> first | exact noMem_eql m m2 | exact noMem_fail m m2
theorem noMem_un {op : UnOp} {x : PV} : NoMem (aUn op x) := fun m m2 h => by
  revert h; unfold aUn; split <;> first | exact noMem_const m m2 | exact noMem_fail m m2
theorem noMem_cpx {x y : PV} : NoMem (aCpx x y) := fun m m2 h => by
  revert h; unfold aCpx; split <;> first | exact noMem_const m m2 | exact noMem_fail m m2
theorem noMem_real {x : PV} : NoMem (aReal x) := fun m m2 h => by
  revert h; unfold aReal; split <;> first | exact noMem_const m m2 | exact noMem_fail m m2
theorem noMem_imag {x : PV} : NoMem (aImag x) := fun m m2 h => by
  revert h; unfold aImag; split <;> first | exact noMem_const m m2 | exact noMem_fail m m2
theorem conv_m {a b : TypeId} {x : PV} {m : Hp} (h : (aConv P a b x m).ok) : (aConv P a b x m).m = m := by
  revert h
  unfold aConv
  split
  · exact fun _ => rfl
  · exact fun _ => rfl
  · split
    · exact fun _ => rfl
    · exact fun h => h.elim
  · exact fun _ => rfl
  · split
    · exact fun _ => rfl
    · exact fun h => h.elim
  · split
    · split
      · exact fun _ => rfl
      · exact fun h => h.elim
    · exact fun h => h.elim
  · exact fun h => h.elim
theorem conv_congr {a b : TypeId} {x : PV} {m m2 : Hp} (hm : ∀ i, .b i ∈ x.ids → m2.h i = m.h i) (h : (aConv P a b x m).ok) : (aConv P a b x m2).ok ∧ (aConv P a b x m2).v = (aConv P a b x m).v ∧ (aConv P a b x m2).m = m2 := by
  revert h
  unfold aConv
  split
  · exact fun _ => ⟨trivial, rfl, rfl⟩
  · exact fun _ => ⟨trivial, rfl, rfl⟩
  · split
    · exact fun h => ⟨h, rfl, rfl⟩
    · exact fun h => h.elim
  · exact fun _ => ⟨trivial, rfl, rfl⟩
  · split
    · exact fun _ => ⟨trivial, rfl, rfl⟩
    · exact fun h => h.elim
  · rename_i id off len sz _
    have e := hm id (by simp [PV.ids])
    simp only [e]
    split
    · split
      · exact fun h => ⟨h, rfl, rfl⟩
      · exact fun h => h.elim
    · exact fun h => h.elim
  · exact fun h => h.elim
theorem noMem_extract {x : PV} {i : Nat} : NoMem (aExtract x i) := fun m m2 h => by
  revert h; unfold aExtract; split <;> first | exact noMem_const m m2 | exact noMem_fail m m2
theorem noMem_nilCheck {x : PV} : NoMem (aNilCheck x) := fun m m2 h => by
  revert h; unfold aNilCheck; split <;> first | exact noMem_const m m2 | exact noMem_fail m m2
theorem noMem_len {t : TypeId} {x : PV} : NoMem (aLen P t x) := fun m m2 h => by
  revert h; unfold aLen; split <;> first | exact noMem_const m m2 | exact noMem_fail m m2
theorem noMem_max {x y : PV} : NoMem (aMax x y) := fun m m2 h => by
  revert h; unfold aMax; split <;> first | exact noMem_const m m2 | exact noMem_fail m m2
theorem noMem_min {x y : PV} : NoMem (aMin x y) := fun m m2 h => by
  revert h; unfold aMin; split <;> first | exact noMem_const m m2 | exact noMem_fail m m2
theorem noMem_build {t : TypeId} {l : List (Nat × PV)} : NoMem (aBuild P t l) := fun m m2 h => by
  revert h; unfold aBuild
  split
  · split <;> first | exact noMem_const m m2 | exact noMem_fail m m2
  · split <;> first | exact noMem_const m m2 | exact noMem_fail m m2
  · exact noMem_fail m m2
theorem noMem_slice {t : TypeId} {x : PV} {lo hi : Option PV} : NoMem (aSlice P t x lo hi) := fun m m2 h => by
  revert h; unfold aSlice
  split
  · split <;> first | exact noMem_const m m2 | exact noMem_fail m m2
  · split <;> first | exact noMem_const m m2 | exact noMem_fail m m2
  · split <;> first | exact noMem_const m m2 | exact noMem_fail m m2
  · split <;> first | exact noMem_const m m2 | exact noMem_fail m m2
  · exact noMem_fail m m2

theorem Foot.noMem {o : Oper} {ρ : Operand → PV} {m : Hp} (hn : NoMem (aop P o ρ)) (hf1 : (fp o.op).nb = false) (hf2 : (fp o.op).nq = false) (hf3 : (fp o.op).wh = false) (hf4 : (fp o.op).wz = false) (hf5 : (fp o.op).wq = false) (hf6 : (fp o.op).wo = false) (hok : (aop P o ρ m).ok) :
    Foot P o ρ m (aop P o ρ m).v (aop P o ρ m).m := by
  obtain ⟨e, _⟩ := hn m m hok
  rw [e]
  refine ⟨fun _ _ => rfl, fun _ _ => rfl, fun _ _ => rfl, fun h => (by rw [hf1] at h; cases h), fun h => (by rw [hf2] at h; cases h), fun _ h => h, fun _ h => h, fun _ => rfl, rfl, fun m2 _ _ _ _ _ _ _ => ?_⟩
  obtain ⟨_, g1, g2, g3⟩ := hn m m2 hok
  refine ⟨m2, .inl ⟨g1, g2.symm, g3.symm⟩, fun i => ⟨fun h => ?_, fun _ => rfl⟩, fun i => ⟨fun h => ?_, fun _ => rfl⟩, fun i => ⟨fun h => ?_, fun _ => rfl⟩, ⟨fun h => (by rw [hf6] at h; cases h), fun _ => rfl⟩, rfl⟩
  · simp [Wh, hf1, hf3] at h
  · simp [Wz, hf1, hf4] at h
  · simp [Wq, hf2, hf5] at h

/-- a block, a row of its own -/
theorem Foot.newB {o : Oper} {ρ : Operand → PV} {m : Hp} {d : Nat} {v : PV} {cs : List PV} {ok : Prop} (hd : o.dst = some d) (hop : ∀ m : Hp, aop P o ρ m = ⟨m.h d = none ∧ ok, v, m.new d cs⟩)
    (hf : fp o.op = { nb := true }) (hok : (aop P o ρ m).ok) : Foot P o ρ m (aop P o ρ m).v (aop P o ρ m).m := by
  rw [hop] at hok ⊢
  simp only at hok ⊢
  have W1 : ∀ r, Wh o ρ r ↔ r = .b d := fun r => by simp [Wh, hf, hd]
  have W2 : ∀ i, Wz o ρ i ↔ i = d := fun i => by simp [Wz, hf, hd, eq_comm]
  have W3 : ∀ i, ¬ Wq o ρ i := fun i => by simp [Wq, hf]
  have n0 : ∀ (m : Hp) i, i ≠ d → (m.new d cs).h i = m.h i := fun m i h => upd_ne _ _ (Ne.symm h)
  have n1 : ∀ (m : Hp) r, r ≠ .b d → (m.new d cs).hv r = m.hv r := fun m r h => by cases r with | b i => exact n0 m i (fun e => h (by rw [e])) | r i => rfl
  have n2 : ∀ (m : Hp) i, i ≠ d → (m.new d cs).z i = m.z i := fun m i h => upd_ne _ _ (Ne.symm h)
  have n3' : ∀ (m : Hp), (m.new d cs).h d = some cs := fun m => upd_same _ _ _
  have n3 : ∀ (m : Hp), (m.new d cs).hv (.b d) = some cs := fun m => upd_same _ _ _
  have n4 : ∀ (m : Hp), (m.new d cs).z d = false := fun m => upd_same _ _ _
  refine ⟨fun i h => n1 m i (fun e => h ((W1 i).2 e)), fun i h => n2 m i (fun e => h ((W2 i).2 e)), fun _ _ => rfl, fun _ i hi => ?_, fun h => ?_, fun i h => ?_, fun _ h => h, fun _ => rfl, rfl, fun m2 _ _ _ h4 _ _ _ => ?_⟩
  · rw [hd] at hi; cases hi; exact hok.1
  · rw [hf] at h; cases h
  · by_cases e : i = d
    · subst e; rw [n3']; simp
    · rw [n0 m i e]; exact h
  · refine ⟨m2.new d cs, .inl ?_, fun i => ⟨fun h => ?_, fun h => n1 m2 i (fun e => h ((W1 i).2 e))⟩, fun i => ⟨fun h => ?_, fun h => n2 m2 i (fun e => h ((W2 i).2 e))⟩, fun i => ⟨fun h => absurd h (W3 i), fun _ => rfl⟩, ⟨fun h => (by rw [hf] at h; cases h), fun _ => rfl⟩, rfl⟩
    · rw [hop]; exact ⟨⟨h4 (by rw [hf]) d hd, hok.2⟩, rfl, rfl⟩
    · obtain rfl := (W1 i).1 h; rw [n3, n3]
    · obtain rfl := (W2 i).1 h; rw [n4, n4]
theorem Foot.newQ {o : Oper} {ρ : Operand → PV} {m : Hp} {d : Nat} {v : PV} {r : Row} {ok : Prop} (hd : o.dst = some d) (hop : ∀ m : Hp, aop P o ρ m = ⟨m.q d = none ∧ ok, v, m.setq d r⟩)
    (hf : fp o.op = { nq := true }) (hok : (aop P o ρ m).ok) : Foot P o ρ m (aop P o ρ m).v (aop P o ρ m).m := by
  rw [hop] at hok ⊢
  simp only at hok ⊢
  have W1 : ∀ i, ¬ Wh o ρ i := fun i => by simp [Wh, hf]
  have W2 : ∀ i, ¬ Wz o ρ i := fun i => by simp [Wz, hf]
  have W3 : ∀ i, Wq o ρ i ↔ i = d := fun i => by simp [Wq, hf, hd, eq_comm]
  have n1 : ∀ (m : Hp) i, i ≠ d → (m.setq d r).q i = m.q i := fun m i h => upd_ne _ _ (Ne.symm h)
  have n3 : ∀ (m : Hp), (m.setq d r).q d = some r := fun m => upd_same _ _ _
  refine ⟨fun x _ => hv_setq _ _ _ x, fun _ _ => rfl, fun i h => n1 m i (fun e => h ((W3 i).2 e)), fun h => ?_, fun _ i hi => ?_, fun _ h => h, fun i h => ?_, fun _ => rfl, rfl, fun m2 _ _ _ _ h5 _ _ => ?_⟩
  · rw [hf] at h; cases h
  · rw [hd] at hi; cases hi; exact hok.1
  · by_cases e : i = d
    · subst e; rw [n3]; simp
    · rw [n1 m i e]; exact h
  · refine ⟨m2.setq d r, .inl ?_, fun i => ⟨fun h => absurd h (W1 i), fun _ => hv_setq _ _ _ i⟩, fun i => ⟨fun h => absurd h (W2 i), fun _ => rfl⟩, fun i => ⟨fun h => ?_, fun h => n1 m2 i (fun e => h ((W3 i).2 e))⟩, ⟨fun h => (by rw [hf] at h; cases h), fun _ => rfl⟩, rfl⟩
    · rw [hop]; exact ⟨⟨h5 (by rw [hf]) d hd, hok.2⟩, rfl, rfl⟩
    · obtain rfl := (W3 i).1 h; rw [n3, n3]
end
end Go.PL
