/- A logic of values for functions that only read and build, over the model (part 4): no statement of the seat is proved here. -/
import Derived.Test.YtbojhapdidieoaaPlC
import Derived.ScopeJumps
set_option linter.unusedSimpArgs false
set_option linter.unusedVariables false
namespace Go.PL
open Go.RowKit
set_option linter.unusedVariables false
section
variable {P : Program} {B : Frm} {S : Stable} {M : Maps} {s : St} {a : Act} {w : World}

theorem RepS.iptr_inv {v : Value} {qq : Rows} {b : Nat} (r : RepS S M qq v (.iptr b)) : v = .pointer (some ⟨b, 0, none⟩) := by
  cases r with | clean r => cases r; rfl
theorem Sim.growX (hs : Sim B S M s a w) {b : Nat} (hb : ∀ vs t f, w.heap[b]? ≠ some (.cells vs t f)) {S' : Stable} {w' : World} (hle : SLe S S') (hag : ∀ k, k < w.heap.size → k ≠ b → ∀ o, S' k o = S k o)
    (hw : ∀ k, k < w.heap.size → k ≠ b → w'.heap[k]? = w.heap[k]?) (hsz : w.heap.size ≤ w'.heap.size) {o' : Nat → Option MapC} {it' : Nat → Option IterC} (hst : Stab B S' w' o' it') : Sim B S' M (s.with { s.m with o := o', it := it' }) a w' := by
  have rep : ∀ {v p}, RepS S M s.m.q v p → RepS S' M s.m.q v p := fun r => r.heap hle (fun _ _ => rfl) (fun _ _ n sz e h => .inl ⟨h, rfl, rfl⟩)
  refine ⟨hs.defers, hs.hn, fun k hk => Nat.lt_of_lt_of_le (hs.hB k hk) hsz, hst, fun i => rep (hs.fr i), hs.ids, fun id cs hc => ?_, fun id r hr => ?_, hs.inj, hs.injq, hs.injx⟩
  · have hb' := hs.blk id cs hc
    show BlkOk _ _ _ _ _ _ _ (s.m.z id)
    cases hz : s.m.z id with
    | false =>
      rw [hz] at hb'
      have hlt := hs.blk_lt hc hz
      obtain ⟨h1, h2, ⟨vs, t, h3, h4, h5⟩, h6⟩ := hb'
      have hne : M.φ id ≠ b := fun e => hb _ _ _ (e ▸ h3)
      exact ⟨h1, fun o => by rw [hag _ hlt hne]; exact h2 o, ⟨vs, t, by rw [hw _ hlt hne]; exact h3, h4, fun j hj => rep (h5 j hj)⟩, h6⟩
    | true =>
      rw [hz] at hb'
      obtain ⟨vals, hv⟩ := hb'; exact ⟨vals, fun j hj => ⟨hle _ _ _ (hv j hj).1, (hv j hj).2.mono hle⟩⟩
  · have hr' := hs.row id r hr
    cases r with
    | live n sz e =>
      obtain ⟨h1, h2⟩ := hr'
      refine ⟨h1, fun c hk => ?_⟩
      have hlt := hs.row_lt hr (by omega)
      obtain ⟨g0, g0', g1, ⟨vs, g2, g3⟩, g4⟩ := h2 c hk
      have hne : M.ψ id ≠ b := fun e => hb _ _ _ (e ▸ g2)
      exact ⟨g0, g0', g1, ⟨vs, by rw [hw _ hlt hne]; exact g2, g3⟩, fun o ho => by rw [hag _ hlt hne]; exact g4 o ho⟩
    | dead => trivial

theorem calls_args (hs : Sim B S M s a w) {f : Operand} {cargs : List Operand} {ts : Array TypeId} {g : FuncId} {args : List PV} (hc : calleeOf s.eval ⟨.value f, ⟨cargs⟩, ts⟩ = some (g, args)) (hg : PV.givableL s.m args) (hcal : Callable P g)
    {dst : Option Tmp} {ty : TypeId} {pos : String} {after : Array Edge} {guard : Option (Nat × Bool)} :
    ∃ vs : List Value, vs.length = args.length ∧ (∀ i, i < args.length → Rep S (vs.getD i undef) ((PV.giveL s.m args).getD i .any)) ∧ (execOp a.eval ⟨dst, .call ⟨.value f, ⟨cargs⟩, ts⟩, ty, pos, after, guard⟩).run P w = .ok (.enter g ⟨vs⟩) w := by
  unfold calleeOf at hc
  simp only at hc
  split at hc
  · rename_i g' caps hf
    simp only [Option.some.injEq, Prod.mk.injEq] at hc
    obtain ⟨rfl, rfl⟩ := hc
    have ef := hs.eval f
    rw [hf] at ef
    obtain ⟨vs, hv, hl, hr⟩ := ef.fn_inv
    obtain ⟨fn, c1, c2, c3⟩ := hcal
    have hargs : ∀ i, i < (cargs.map s.eval ++ caps).length → RepS S M s.m.q ((cargs.map a.eval ++ vs).getD i undef) ((cargs.map s.eval ++ caps).getD i .any) := by
      intro i hi
      by_cases h1 : i < cargs.length
      · rw [getD_append_left (by simpa using h1), getD_append_left (by simpa using h1)]
        exact map_getD (s := s) hs.eval i (by simpa using h1)
      · rw [getD_append_right (by simp; omega), getD_append_right (by simp; omega)]
        simp only [List.length_map]
        exact hr _ (by simp at hi; omega)
    refine ⟨cargs.map a.eval ++ vs, by simp [hl], fun i hi => ?_, ?_⟩
    · rw [PV.giveL_getD _ _ i hi]
      exact (hargs i hi).give hs (PV.givableL_getD hg i hi)
    · have hb : ¬ fn.body = none := by intro h; simp [h] at c3
      simp [execOp, resolve, Deferred.ofValue, hv, invoke, callFunc, program, Sem.run, c1, hb, c2]
  · cases hc

/-- the maps of a state, behind a step that turns one of them -/
theorem Stab.turn {S' : Stable} {w' : World} {o : Nat → Option MapC} {it : Nat → Option IterC} (hs : Stab B S w o it) {b : Nat} {c : MapC} (hle : SLe S S') (hst : StabS S' w') (hm : ∀ k, k < w.heap.size → k ≠ b → S'.m k = S.m k)
    (hw : ∀ k, k < w.heap.size → k ≠ b → w'.heap[k]? = w.heap[k]?) (hB : ¬ B b) (hb : S'.m b = none) (hc : MapAt S' w' b c) (hit : ∀ x, it b ≠ some x) : Stab B S' w' (upd o b (some c)) it := by
  refine ⟨hst, fun k d hd => ?_, fun k x hx => ?_⟩
  · by_cases e : b = k
    · subst e
      rw [upd_same] at hd
      cases hd
      exact ⟨hB, hb, hc⟩
    · rw [upd_ne _ _ e] at hd
      obtain ⟨q1, q2, q3⟩ := hs.o k d hd
      exact ⟨q1, by rw [hm k q3.lt (Ne.symm e)]; exact q2, q3.move hle (hw k q3.lt (Ne.symm e))⟩
  · obtain ⟨q1, q2⟩ := hs.i k x hx
    refine ⟨q1, ?_⟩
    have hlt := q2.lt
    unfold IterAt at q2 ⊢
    rw [hw k hlt (fun e => by subst e; exact hit x hx)]
    exact q2

theorem spec_sound (hs : Sim B S M s a w) {o : Oper} {K : St → Prop} (hd : ∀ x, o.dst = some x → x < s.n) (h : spec P o s K) (next : Act → World → Prop) (Q : Exit → Act → World → Prop)
    (hn : ∀ s' v w' S' M', K s' → Sim B S' M' s' (a.put o.dst v) w' → Ext B S S' w w' → next (a.put o.dst v) w') : o.wp P a w next Q := by
  obtain ⟨dst, op, ty, pos, after, guard⟩ := o
  unfold spec at h
  simp only at h hd hn ⊢
  cases op with
  | call c =>
    obtain ⟨callee, cargs, ts⟩ := c
    obtain ⟨cargs⟩ := cargs
    cases callee with
    | value f =>
      simp only at h
      cases hc : calleeOf s.eval ⟨.value f, ⟨cargs⟩, ts⟩ with
      | none => rw [hc] at h; exact h.elim
      | some ga =>
        obtain ⟨g, args⟩ := ga
        rw [hc] at h
        obtain ⟨hg, hx⟩ := h
        unfold Oper.wp
        rcases hx with ⟨r, ⟨hcal, _, hcalls⟩, hno, hk⟩ | ⟨b, c, A, r, c', hob, hA, ⟨hcal, _, hcalls⟩, hk⟩ | ⟨r, c, ⟨hcal, _, hcalls⟩, hk⟩
        · obtain ⟨vs, hl, hrep, hrun⟩ := calls_args (dst := dst) (ty := ty) (pos := pos) (after := after) (guard := guard) hs hc hg hcal
          rw [hrun]
          show Calls P g ⟨vs⟩ w _
          refine (hcalls w (sealS S w s.m.o) vs (sealS_stab hs.stable) (by rw [sealL_length, PV.giveL_length]; exact hl) (fun i hi => ?_)).mono fun e w' hq => ?_
          · rw [sealL_length, PV.giveL_length] at hi
            rw [sealL_getD _ _ i (by rw [PV.giveL_length]; exact hi)]
            exact (hrep i hi).shut hs.stable
          · obtain ⟨v, S1, rfl, h2, h3, h4, h5, h6⟩ := hq
            let S' : Stable := ⟨S1.c, fun k => match s.m.o k with | some _ => none | none => S1.m k⟩
            have m1 : ∀ k c, s.m.o k = some c → S'.m k = none := fun k c hc => by simp [S', hc]
            have m2 : ∀ k, s.m.o k = none → S'.m k = S1.m k := fun k hc => by simp [S', hc]
            have m3 : ∀ k, s.m.o k = none → (sealS S w s.m.o).m k = S.m k := fun k hc => by simp [sealS, hc]
            have l1 : SLe S S' := ⟨fun k o v hv => h4.c k o v hv, fun k es he => by
              cases ho : s.m.o k with
              | some c => rw [(hs.stable.o k c ho).2.1] at he; cases he
              | none => rw [m2 k ho]; exact h4.m k es (by rw [m3 k ho]; exact he)⟩
            have l2 : ∀ k, k < w.heap.size → (∀ o, S' k o = S k o) ∧ S'.m k = S.m k := fun k hk => by
              obtain ⟨a1, a2⟩ := h5 k hk
              refine ⟨a1, ?_⟩
              cases ho : s.m.o k with
              | some c => rw [m1 k c ho, (hs.stable.o k c ho).2.1]
              | none => rw [m2 k ho, a2, m3 k ho]
            have l3 : StabS S' w' := ⟨h3.c, fun k es he => by
              cases ho : s.m.o k with
              | some c => rw [m1 k c ho] at he; cases he
              | none => rw [m2 k ho] at he; exact h3.m k es he⟩
            have hs' := hs.grow l1 l2 l3 h6.block h6.size
            have hr' : Rep S' v r := Rep.cells_only (S := S1) (S' := S') rfl h2 hno
            exact hn _ v w' S' M hk (hs'.put hd (.clean hr') (fun i hi => absurd hi (hr'.clean_ids i))) ⟨l1, fun k hk => l2 k (hs.hB k hk), (BelowF.of h6).mono hs.hB⟩
        · obtain ⟨vs, hl, hrep, hrun⟩ := calls_args (dst := dst) (ty := ty) (pos := pos) (after := after) (guard := guard) hs hc hg hcal
          rw [hrun]
          show Calls P g ⟨vs⟩ w _
          obtain ⟨q1, q2, q3⟩ := hs.stable.o b c hob
          rw [hA] at hrep
          refine (hcalls b w S vs hs.stable.s q2 q3 (by rw [← hA, PV.giveL_length]; exact hl) (fun i hi => hrep i (by rw [← hA, PV.giveL_length] at hi; exact hi))).mono fun e w' hq => ?_
          obtain ⟨v, S', rfl, h2, h3, h4, h5, h5', h6, h7⟩ := hq
          have hnc : ∀ vs t f, w.heap[b]? ≠ some (.cells vs t f) := fun vs t f hh => by obtain ⟨es, e1, _⟩ := q3; rw [e1] at hh; cases hh
          have hit : ∀ x, s.m.it b ≠ some x := fun x hx => by
            have h1 := (hs.stable.i b x hx).2
            obtain ⟨es, e1, _⟩ := q3
            unfold IterAt at h1
            rw [e1] at h1; cases h1
          have hst : Stab B S' w' (upd s.m.o b (some c')) s.m.it := hs.stable.turn h4 h3 (fun k hk hkb => (h5 k hk hkb).2) (fun k hk hkb => h7.block k ⟨hk, hkb⟩) q1 h5' h6 hit
          have hs' := hs.growX hnc h4 (fun k hk hkb => (h5 k hk hkb).1) (fun k hk hkb => h7.block k ⟨hk, hkb⟩) h7.size hst
          exact hn _ v w' S' M hk (hs'.put hd (.clean h2) (fun i hi => absurd hi (h2.clean_ids i))) ⟨h4, fun k hk => h5 k (hs.hB k hk) (fun e => q1 (e ▸ hk)), h7.mono (fun k hk => ⟨hs.hB k hk, fun e => q1 (e ▸ hk)⟩)⟩
        · obtain ⟨vs, hl, hrep, hrun⟩ := calls_args (dst := dst) (ty := ty) (pos := pos) (after := after) (guard := guard) hs hc hg hcal
          rw [hrun]
          show Calls P g ⟨vs⟩ w _
          refine (hcalls w S vs hs.stable.s (by rw [PV.giveL_length]; exact hl) (fun i hi => hrep i (by rw [PV.giveL_length] at hi; exact hi))).mono fun e w' hq => ?_
          obtain ⟨v, S', b, rfl, hbl, h2, h3, h4, h5, h5', h6, h7⟩ := hq
          have hnb : s.m.o b = none := by
            cases ho : s.m.o b with
            | none => rfl
            | some d => have := (hs.stable.o b d ho).2.2.lt; omega
          have hBb : ¬ B b := fun hh => by have := hs.hB b hh; omega
          have hnc : ∀ vs t f, w.heap[b]? ≠ some (.cells vs t f) := fun vs t f hh => by have := (Array.getElem?_eq_some_iff.1 hh).1; omega
          have hit : ∀ x, s.m.it b ≠ some x := fun x hx => by have := (hs.stable.i b x hx).2.lt; omega
          have hst : Stab B S' w' (upd s.m.o b (some c)) s.m.it := hs.stable.turn h4 h3 (fun k hk _ => (h5 k hk).2) (fun k hk _ => h7.block k hk) hBb h5' h6 hit
          have hs' := hs.growX hnc h4 (fun k hk _ => (h5 k hk).1) (fun k hk _ => h7.block k hk) h7.size hst
          exact hn _ v w' S' M (hk b hnb) (hs'.put hd (.clean h2) (fun i hi => absurd hi (h2.clean_ids i))) ⟨h4, fun k hk => h5 k (hs.hB k hk), (BelowF.of h7).mono hs.hB⟩
    | _ => simp [calleeOf] at h
  | makeMap t r =>
    cases r with
    | some _ => exact h.elim
    | none =>
      simp only at h
      unfold Oper.wp
      have hrun : (execOp a.eval ⟨dst, .makeMap t none, ty, pos, after, guard⟩).run P w = .ok (.value (.map (some w.heap.size))) (w.alloc (.map #[] 0)) := by
        simp [execOp, Instr.makeMap, newObj, Sem.run]
      rw [hrun]
      have hnb : s.m.o w.heap.size = none := by
        cases ho : s.m.o w.heap.size with
        | none => rfl
        | some d => have := (hs.stable.o _ d ho).2.2.lt; omega
      have hold : ∀ k, k < w.heap.size → (w.alloc (.map #[] 0)).heap[k]? = w.heap[k]? := fun k hk => alloc_heap_old w _ hk
      have hnew : (w.alloc (.map #[] 0)).heap[w.heap.size]? = some (.map #[] 0) := alloc_heap_new w _
      have hst : Stab B S (w.alloc (.map #[] 0)) (upd s.m.o w.heap.size (some ⟨[], []⟩)) s.m.it :=
        hs.stable.turn (SLe.refl _) (hs.stable.s.old hold) (fun _ _ _ => rfl) (fun k hk _ => hold k hk) hs.new_ok (hs.S_m (Nat.le_refl _)) ⟨[], hnew, rfl, rfl, fun i hi => by simp at hi, fun i hi => by simp at hi, fun i hi => by simp at hi⟩
          (fun x hx => by have := (hs.stable.i _ x hx).2.lt; omega)
      have hs' := hs.growX (b := w.heap.size) (fun vs t f hh => by have := (Array.getElem?_eq_some_iff.1 hh).1; omega) (SLe.refl _) (fun _ _ _ _ => rfl) (fun k hk _ => hold k hk) (by rw [alloc_size]; omega) hst
      exact hn _ _ _ S M (h w.heap.size hnb) (hs'.put hd (.clean (.mref _)) (by simp [PV.ids])) (hs.ext_alloc _)
  | range t x =>
    simp only at h
    obtain ⟨htm, h⟩ := h
    have ex := hs.eval x
    unfold rangeX at h
    split at h
    · rename_i b hxb
      split at h
      · rename_i c hob
        rw [hxb] at ex
        obtain ⟨q1, q2, es, e1, e2, e3, e4, e5, e6⟩ := hs.stable.o b c hob
        unfold tmapB at htm
        split at htm
        · rename_i kt et hu
          unfold Oper.wp
          have hg := MapKept.run_getObj_map (P := P) e1
          have hrun : (execOp a.eval ⟨dst, .range t x, ty, pos, after, guard⟩).run P w = .ok (.value (.pointer (some ⟨w.heap.size, 0, none⟩))) (w.alloc (.mapIter (some b) es.length #[] es.length)) := by
            simp [execOp, Instr.range, run_underlying hu, ex.mref_inv, hg, newObj, Sem.run]
          rw [hrun]
          have hold : ∀ k, k < w.heap.size → (w.alloc (.mapIter (some b) es.length #[] es.length)).heap[k]? = w.heap[k]? := fun k hk => alloc_heap_old w _ hk
          have hnew := alloc_heap_new w (.mapIter (some b) es.length #[] es.length)
          have hni : s.m.it w.heap.size = none := by
            cases ho : s.m.it w.heap.size with
            | none => rfl
            | some d => have := (hs.stable.i _ d ho).2.lt; omega
          have hst : Stab B S (w.alloc (.mapIter (some b) es.length #[] es.length)) s.m.o (upd s.m.it w.heap.size (some ⟨b, c.ks.length, []⟩)) := by
            refine ⟨hs.stable.s.old hold, fun k d hd => ?_, fun k y hy => ?_⟩
            · obtain ⟨g1, g2, g3⟩ := hs.stable.o k d hd
              exact ⟨g1, g2, g3.move (SLe.refl _) (hold k g3.lt)⟩
            · by_cases e : w.heap.size = k
              · subst e
                rw [upd_same] at hy
                cases hy
                refine ⟨hs.new_ok, ?_⟩
                unfold IterAt
                rw [hnew, e2]
              · rw [upd_ne _ _ e] at hy
                obtain ⟨g1, g2⟩ := hs.stable.i k y hy
                refine ⟨g1, ?_⟩
                have := g2.lt
                unfold IterAt at g2 ⊢
                rw [hold k this]; exact g2
          have hs' := hs.growX (b := w.heap.size) (fun vs t f hh => by have := (Array.getElem?_eq_some_iff.1 hh).1; omega) (SLe.refl _) (fun _ _ _ _ => rfl) (fun k hk _ => hold k hk) (by rw [alloc_size]; omega) hst
          exact hn _ _ _ S M (h w.heap.size hni) (hs'.put hd (.clean (.iptr _)) (by simp [PV.ids])) (hs.ext_alloc _)
        · cases htm
      · exact h.elim
    · exact h.elim
  | next x isS =>
    cases isS with
    | true => exact h.elim
    | false =>
      simp only at h
      have ex := hs.eval x
      unfold nextX at h
      split at h
      · rename_i ib hxb
        split at h
        · rename_i itc hib
          split at h
          · rename_i c hob
            obtain ⟨hlen, hover, hgo⟩ := h
            rw [hxb] at ex
            have hxv : a.eval x = .pointer (some ⟨ib, 0, none⟩) := ex.iptr_inv
            obtain ⟨i1, i2⟩ := hs.stable.i ib itc hib
            obtain ⟨q1, q2, es, e1, e2, e3, e4, e5, e6⟩ := hs.stable.o itc.b c hob
            unfold IterAt at i2
            have hborn : ∀ y ∈ es, y.born < itc.n := fun y hy => by
              obtain ⟨j, hj, rfl⟩ := List.getElem_of_mem hy
              have := e4 j (by omega)
              rw [getD_lt hj] at this
              omega
            unfold Oper.wp
            have he : ∀ v w', (Instr.next (.pointer (some ⟨ib, 0, none⟩)) false ty).run P w = .ok v w' → (execOp a.eval ⟨dst, .next x false, ty, pos, after, guard⟩).run P w = .ok (.value v) w' := fun v w' hh => by
              simp [execOp, hxv, hh]
            rcases run_next_at (P := P) w ty ib itc.b itc.n itc.n ⟨itc.seen⟩ ⟨es⟩ es.length i2 e1 (by simpa using hborn) (Nat.le_refl _) with ⟨hz, hrun⟩ | ⟨e, he1, w1, hw1, hrun⟩
            · rw [he _ _ hrun]
              refine hn _ _ _ S M (hover fun i hi => ?_) (hs.put hd (.clean (.tup [.bool false] [.bool false] rfl (fun i hi => by
                match i, hi with
                | 0, _ => exact .bool _))) (by simp [PV.ids, PV.idsL])) (Ext.refl _ _ _)
              have hil : i < es.length := by omega
              refine Decidable.byContradiction fun hno => ?_
              have hmem : es[i] ∈ (leftOf ⟨es⟩ ⟨itc.seen⟩).toList := by
                unfold leftOf
                simp only [Array.toList_filter, List.mem_filter]
                have hb := e4 i (by omega)
                rw [getD_lt hil] at hb
                refine ⟨List.getElem_mem hil, ?_⟩
                rw [hb]
                simpa using hno
              have h0 : (leftOf ⟨es⟩ ⟨itc.seen⟩).toList = [] := by
                apply List.eq_nil_of_length_eq_zero
                simpa using hz
              rw [h0] at hmem
              cases hmem
            · rw [he _ _ hrun]
              unfold leftOf at he1
              simp only [Array.toList_filter, List.mem_filter] at he1
              obtain ⟨hm, hns⟩ := he1
              obtain ⟨j, hj, rfl⟩ := List.getElem_of_mem hm
              have hb := e4 j (by omega)
              have k5 := e5 j (by omega)
              have k6 := e6 j (by omega)
              rw [getD_lt hj] at hb k5 k6
              rw [hb] at hns ⊢
              have hns' : j ∉ itc.seen := by simpa using hns
              have hw1' : w1.heap = w.heap := by rcases hw1 with rfl | rfl <;> rfl
              have hw2 : ∀ k, k ≠ ib → (ChangeMaps.setBlock w1 ib (.mapIter (some itc.b) itc.n ((⟨itc.seen⟩ : Array Nat).push j) es.length)).heap[k]? = w.heap[k]? := fun k hk => by
                show (w1.heap.setIfInBounds ib _)[k]? = _
                rw [hw1', Array.getElem?_setIfInBounds_ne (Ne.symm hk)]
              have hlt : ib < w.heap.size := (Array.getElem?_eq_some_iff.1 i2).1
              have hw3 : (ChangeMaps.setBlock w1 ib (.mapIter (some itc.b) itc.n ((⟨itc.seen⟩ : Array Nat).push j) es.length)).heap[ib]? = some (.mapIter (some itc.b) itc.n ⟨itc.seen ++ [j]⟩ itc.n) := by
                show (w1.heap.setIfInBounds ib _)[ib]? = _
                rw [hw1', Array.getElem?_setIfInBounds_self_of_lt hlt]
                have : es.length = itc.n := by omega
                rw [this]
                simp
              have hnc : ∀ vs t f, w.heap[ib]? ≠ some (.cells vs t f) := fun vs t f hh => by rw [i2] at hh; cases hh
              have hSm : S.m ib = none := by
                cases hm : S.m ib with
                | none => rfl
                | some l => have := hs.stable.s.m ib l hm; rw [i2] at this; cases this
              have hsz : (ChangeMaps.setBlock w1 ib (.mapIter (some itc.b) itc.n ((⟨itc.seen⟩ : Array Nat).push j) es.length)).heap.size = w.heap.size := by
                show (w1.heap.setIfInBounds ib _).size = _
                rw [hw1']; simp
              have hst : Stab B S (ChangeMaps.setBlock w1 ib (.mapIter (some itc.b) itc.n ((⟨itc.seen⟩ : Array Nat).push j) es.length)) s.m.o (upd s.m.it ib (some ⟨itc.b, itc.n, itc.seen ++ [j]⟩)) := by
                refine ⟨stabS_special hs.stable.s hnc hSm hw2, fun k d hd => ?_, fun k y hy => ?_⟩
                · obtain ⟨g1, g2, g3⟩ := hs.stable.o k d hd
                  refine ⟨g1, g2, g3.move (SLe.refl _) (hw2 k (fun e => ?_))⟩
                  subst e
                  obtain ⟨es', f1, _⟩ := g3
                  rw [i2] at f1; cases f1
                · by_cases e : ib = k
                  · subst e
                    rw [upd_same] at hy
                    cases hy
                    exact ⟨i1, hw3⟩
                  · rw [upd_ne _ _ e] at hy
                    obtain ⟨g1, g2⟩ := hs.stable.i k y hy
                    refine ⟨g1, ?_⟩
                    unfold IterAt at g2 ⊢
                    rw [hw2 k (Ne.symm e)]; exact g2
              have hs' := hs.special hnc hw2 hsz hst
              have ht : w1.os = w.os ∧ w1.tape = w.tape ∧ w1.output = w.output := by rcases hw1 with rfl | rfl <;> exact ⟨rfl, rfl, rfl⟩
              refine hn _ _ _ S M (hgo j (by omega) hns') (hs'.put hd (.clean (.tup [.bool true, _, _] [.bool true, _, _] rfl (fun i hi => by
                match i, hi with
                | 0, _ => exact .bool _
                | 1, _ => exact k5
                | 2, _ => exact k6))) (fun i hi => ?_)) ⟨SLe.refl _, fun _ _ => ⟨fun _ => rfl, rfl⟩, ⟨ht.1, ht.2.1, ht.2.2, by rw [hsz]; exact Nat.le_refl _, fun k hk => hw2 k (fun e => i1 (e ▸ hk))⟩⟩
              simp only [PV.ids, PV.idsL, List.nil_append, List.append_nil, List.mem_append] at hi
              rcases hi with hi | hi
              · exact absurd hi (k5.clean_ids i)
              · exact absurd hi (k6.clean_ids i)
          · exact h.elim
        · exact h.elim
      · exact h.elim
  | _ => exact h.elim
end
end Go.PL

namespace Go.PL
open Go.RowKit
set_option linter.unusedVariables false

/-- a guard: both ways, each under what it says -/
def vcGuard (want : Bool) (p : PV) (A B : Prop) : Prop :=
  match p with
  | .bool b => (b = want → A) ∧ (b = !want → B)
  | .tup _ => B
  | _ => False

/-- a call: some contract of the callee -/
def vcCall (P : Program) (x : Bool) (m : Hp) (c : Option (FuncId × List PV)) (K : PV → Hp → Prop) : Prop :=
  match c with
  | some (g, args) => PV.givableL m args ∧ ((∃ r, Pure P g (PV.giveL m args) r ∧ K r m) ∨ (x = true ∧ callX P g (PV.giveL m args) m K))
  | none => False

/-- an operation's outcome: its condition, and what goes on behind it -/
def vcRes (r : ARes) (K : PV → Hp → Prop) : Prop := r.ok ∧ K r.v r.m

def vcOp (P : Program) (x : Bool) (o : Oper) (s : St) (K : St → Prop) : Prop :=
  match o.op with
  | .call { callee := .value f, args, argTypes } => vcCall P x s.m (calleeOf s.eval { callee := .value f, args, argTypes }) fun r m => K ((s.with m).put o.dst r)
  | .makeMap _ none => x = true ∧ makeX s.m fun r m => K ((s.with m).put o.dst r)
  | .range t y => x = true ∧ tmapB P t = true ∧ rangeX (s.eval y) s.m fun r m => K ((s.with m).put o.dst r)
  | .next y false => x = true ∧ nextX (s.eval y) s.m fun r m => K ((s.with m).put o.dst r)
  | _ => vcRes (aop P o s.eval s.m) fun v m => K ((s.with m).put o.dst v)

def vcA (P : Program) (x : Bool) (ops : Array Oper) (K : St → Prop) : List Oper → St → Prop
  | [], s => K s
  | o :: rest, s => dstOk s.n o.dst ∧ match o.guard with
    | none => vcOp P x o s (vcA P x ops K rest)
    | some (j, want) => match (ops[j]?).bind (·.dst) with
      | none => vcA P x ops K rest (s.put o.dst (.tup []))
      | some d => d < s.n ∧ vcGuard want (s.fr d) (vcOp P x o s (vcA P x ops K rest)) (vcA P x ops K rest (s.put o.dst (.tup [])))

/-- the operations in the order of the text, those that reach into maps too -/
def lexX (P : Program) (ops : Array Oper) (K : St → Prop) : List Oper → St → Prop
  | [], s => K s
  | o :: rest, s => dstOk s.n o.dst ∧ ((gd ops s o = some true ∧ ((∃ v m', StepM P o s.eval s.m v m' ∧ lexX P ops K rest ((s.with m').put o.dst v)) ∨ spec P o s (lexX P ops K rest))) ∨ (gd ops s o = some false ∧ lexX P ops K rest (s.put o.dst (.tup []))))

/-- a branch: both ways, each under what it says -/
def vcCond (p : PV) (A B : Prop) : Prop :=
  match p with
  | .bool b => (b = true → A) ∧ (b = false → B)
  | _ => False

section
variable {P : Program} {s : St}

theorem spec_mono {o : Oper} {K K' : St → Prop} (hK : ∀ s, K s → K' s) (h : spec P o s K) : spec P o s K' := by
  obtain ⟨dst, op, ty, pos, after, guard⟩ := o
  unfold spec at h ⊢
  simp only at h ⊢
  split at h
  · rename_i c
    split at h
    · rename_i g args hc
      obtain ⟨h1, h2⟩ := h
      refine ⟨h1, ?_⟩
      rcases h2 with ⟨r, a1, a2, a3⟩ | ⟨b, c, A, r, c', a1, a2, a3, a4⟩ | ⟨r, c, a1, a2⟩
      · exact .inl ⟨r, a1, a2, hK _ a3⟩
      · exact .inr (.inl ⟨b, c, A, r, c', a1, a2, a3, hK _ a4⟩)
      · exact .inr (.inr ⟨r, c, a1, fun b hb => hK _ (a2 b hb)⟩)
    · exact h.elim
  · exact fun b hb => hK _ (h b hb)
  · rename_i t x
    obtain ⟨h1, h2⟩ := h
    refine ⟨h1, ?_⟩
    unfold rangeX at h2 ⊢
    split at h2
    · split at h2
      · exact fun ib hib => hK _ (h2 ib hib)
      · exact h2.elim
    · exact h2.elim
  · rename_i x
    unfold nextX at h ⊢
    split at h
    · split at h
      · split at h
        · exact ⟨h.1, fun hh => hK _ (h.2.1 hh), fun i h1 h2 => hK _ (h.2.2 i h1 h2)⟩
        · exact h.elim
      · exact h.elim
    · exact h.elim
  · exact h.elim
theorem vcOp_step {x : Bool} {o : Oper} {K : St → Prop} (h : vcOp P x o s K) : (∃ v m', StepM P o s.eval s.m v m' ∧ K ((s.with m').put o.dst v)) ∨ (x = true ∧ spec P o s K) := by
  unfold vcOp at h
  split at h
  · rename_i f args ts heq
    unfold vcCall at h
    split at h
    · rename_i g xs hc
      obtain ⟨h1, ⟨r, h2, h3⟩ | ⟨hx, h2⟩⟩ := h
      · exact .inl ⟨r, s.m, .inr ⟨_, g, xs, heq, hc, h1, h2, rfl⟩, h3⟩
      · refine .inr ⟨hx, ?_⟩
        unfold spec
        rw [heq]
        simp only [hc]
        exact ⟨h1, h2⟩
    · exact h.elim
  · rename_i heq
    exact .inr ⟨h.1, by unfold spec; rw [heq]; exact h.2⟩
  · rename_i heq
    exact .inr ⟨h.1, by unfold spec; rw [heq]; exact h.2⟩
  · rename_i heq
    exact .inr ⟨h.1, by unfold spec; rw [heq]; exact h.2⟩
  · exact .inl ⟨_, _, .inl ⟨h.1, rfl, rfl⟩, h.2⟩

theorem vcA_lexX {x : Bool} {ops : Array Oper} {K : St → Prop} : ∀ (l : List Oper) (s : St), vcA P x ops K l s → lexX P ops K l s
  | [], s, h => h
  | o :: rest, s, h => by
    obtain ⟨hd, h⟩ := h
    refine ⟨hd, ?_⟩
    have op : ∀ {s}, vcOp P x o s (vcA P x ops K rest) → (∃ v m', StepM P o s.eval s.m v m' ∧ lexX P ops K rest ((s.with m').put o.dst v)) ∨ spec P o s (lexX P ops K rest) := fun h => by
      rcases vcOp_step h with ⟨v, m', h1, h2⟩ | ⟨_, h1⟩
      · exact .inl ⟨v, m', h1, vcA_lexX rest _ h2⟩
      · exact .inr (spec_mono (fun s' hs' => vcA_lexX rest s' hs') h1)
    unfold gd
    cases hg : o.guard with
    | none =>
      rw [hg] at h
      exact .inl ⟨rfl, op h⟩
    | some jw =>
      obtain ⟨j, want⟩ := jw
      rw [hg] at h
      simp only at h ⊢
      cases hd' : (ops[j]?).bind (·.dst) with
      | none => rw [hd'] at h; exact .inr ⟨rfl, vcA_lexX rest _ h⟩
      | some d =>
        rw [hd'] at h
        simp only at h ⊢
        obtain ⟨hlt, h⟩ := h
        rw [if_pos hlt]
        unfold vcGuard at h
        split at h
        · rename_i b hb
          rw [hb]
          by_cases hbw : b = want
          · left; subst hbw; exact ⟨by simp [gdOf], op (h.1 rfl)⟩
          · right
            refine ⟨by simp [gdOf, hbw], vcA_lexX rest _ (h.2 ?_)⟩
            cases b <;> cases want <;> simp_all
        · rename_i l hb
          rw [hb]
          exact .inr ⟨rfl, vcA_lexX rest _ h⟩
        · exact h.elim

theorem vcA_lex {ops : Array Oper} {K : St → Prop} : ∀ (l : List Oper) (s : St), vcA P false ops K l s → lexA P ops K l s
  | [], s, h => h
  | o :: rest, s, h => by
    obtain ⟨hd, h⟩ := h
    refine ⟨hd, ?_⟩
    have op : ∀ {s}, vcOp P false o s (vcA P false ops K rest) → ∃ v m', StepM P o s.eval s.m v m' ∧ lexA P ops K rest ((s.with m').put o.dst v) := fun h => by
      rcases vcOp_step h with ⟨v, m', h1, h2⟩ | ⟨h1, _⟩
      · exact ⟨v, m', h1, vcA_lex rest _ h2⟩
      · cases h1
    unfold gd
    cases hg : o.guard with
    | none =>
      rw [hg] at h
      exact .inl ⟨rfl, op h⟩
    | some jw =>
      obtain ⟨j, want⟩ := jw
      rw [hg] at h
      simp only at h ⊢
      cases hd' : (ops[j]?).bind (·.dst) with
      | none => rw [hd'] at h; exact .inr ⟨rfl, vcA_lex rest _ h⟩
      | some d =>
        rw [hd'] at h
        simp only at h ⊢
        obtain ⟨hlt, h⟩ := h
        rw [if_pos hlt]
        unfold vcGuard at h
        split at h
        · rename_i b hb
          rw [hb]
          by_cases hbw : b = want
          · left; subst hbw; exact ⟨by simp [gdOf], op (h.1 rfl)⟩
          · right
            refine ⟨by simp [gdOf, hbw], vcA_lex rest _ (h.2 ?_)⟩
            cases b <;> cases want <;> simp_all
        · rename_i l hb
          rw [hb]
          exact .inr ⟨rfl, vcA_lex rest _ h⟩
        · exact h.elim

theorem lexX_sound {B : Frm} {ops : Array Oper} {K : St → Prop} {Qc : Exit → Act → World → Prop} {S0 : Stable} {w0 : World} (hQ : ∀ s' S' M' a' w', K s' → Sim B S' M' s' a' w' → Ext B S0 S' w0 w' → Qc .normal a' w') :
    ∀ (l : List Oper) (k : Nat) (s : St), (∀ j, l[j]? = ops[k + j]?) → lexX P ops K l s → ∀ S M a w, Sim B S M s a w → Ext B S0 S w0 w → wpOps P ops Qc (List.range' k l.length) a w
  | [], k, s, _, h, S, M, a, w, hs, he => hQ s S M a w h hs he
  | o :: rest, k, s, hl, h, S, M, a, w, hs, he => by
    have h0 : ops[k]? = some o := by simpa using (hl 0).symm
    have hl' : ∀ j, rest[j]? = ops[(k + 1) + j]? := fun j => by have := hl (j + 1); simpa [Nat.add_assoc, Nat.add_comm 1 j] using this
    obtain ⟨hd, h⟩ := h
    simp only [List.length_cons, List.range'_succ, wpOps, h0]
    rcases h with ⟨hg, ⟨v, m', hst, hrest⟩ | hsp⟩ | ⟨hg, hrest⟩
    · rw [gd_ok hs hg, if_pos rfl]
      exact .inl (step_sound hs (dstOk_spec hd) hst _ _ fun u w' S' M' hs' he' => lexX_sound hQ rest (k + 1) _ hl' hrest S' M' _ w' hs' (he.trans he'))
    · rw [gd_ok hs hg, if_pos rfl]
      exact .inl (spec_sound hs (dstOk_spec hd) hsp _ _ fun s' u w' S' M' hk hs' he' => lexX_sound hQ rest (k + 1) s' hl' hk S' M' _ w' hs' (he.trans he'))
    · rw [gd_ok hs hg, if_neg (by simp)]
      exact lexX_sound hQ rest (k + 1) _ hl' hrest S M _ w (skip_sim hs hd) he
theorem awp_regionX {id : Nat} {ops : Array Oper} {Q : Exit → St → Prop} (h : lexX P ops (Q .normal) ops.toList s) : awp P (.region id ops false) Q s := fun B S M a w hs => by
  refine wp_region ?_
  have := lexX_sound (B := B) (S0 := S) (w0 := w) (Qc := fun e a' w' => ∃ s' S' M', Q e s' ∧ Sim B S' M' s' a' w' ∧ Ext B S S' w w') (fun s' S' M' a' w' h1 h2 h3 => ⟨s', S', M', h1, h2, h3⟩) ops.toList 0 s (by simp) h S M a w hs (Ext.refl _ _ _)
  rw [← List.range_eq_range'] at this
  simpa using this

/-- the conditions of a piece of code: what must be shown; loops, regions that draw and what has no rule here stand as they are -/
def vc (P : Program) : Code → (Exit → St → Prop) → St → Prop
  | .skip, Q, s => Q .normal s
  | .label _, Q, s => Q .normal s
  | .ret, Q, s => Q .ret s
  | .exit id, Q, s => Q (.exit id) s
  | .goto l, Q, s => Q (.goto l) s
  | .seq (.label l) y, Q, s => awp P (.seq (.label l) y) Q s
  | .seq x y, Q, s => vc P x (thenQ (vc P y Q) Q) s
  | .cond c x y, Q, s => vcCond (s.eval c) (vc P x Q s) (vc P y Q s)
  | .block id c, Q, s => vc P c (blockQ id Q) s
  | .region _ ops false, Q, s => vcA P true ops (Q .normal) ops.toList s
  | c, Q, s => awp P c Q s

theorem awp_seq_vc {x y : Code} {Q : Exit → St → Prop} {s : St} (hx : ∀ Q s, vc P x Q s → awp P x Q s) (hy : ∀ Q s, vc P y Q s → awp P y Q s) (h : vc P x (thenQ (vc P y Q) Q) s) : awp P (.seq x y) Q s :=
  awp_seq (awp_mono (fun e s' h' => by
      cases e with
      | normal => exact hy Q s' h'
      | _ => exact h') (hx _ s h))
theorem vc_sound : ∀ (c : Code) (Q : Exit → St → Prop) (s : St), vc P c Q s → awp P c Q s
  | .skip, Q, s, h => awp_skip h
  | .label _, Q, s, h => awp_label h
  | .ret, Q, s, h => awp_ret h
  | .exit id, Q, s, h => awp_exit h
  | .goto l, Q, s, h => awp_goto h
  | .seq x y, Q, s, h => by
    cases x with
    | label l => exact h
    | _ => exact awp_seq_vc (vc_sound _) (vc_sound y) h
  | .cond c x y, Q, s, h => by
    unfold vc vcCond at h
    split at h
    · rename_i b hb
      refine awp_cond hb ?_
      cases b
      · exact vc_sound y Q s (h.2 rfl)
      · exact vc_sound x Q s (h.1 rfl)
    · exact h.elim
  | .block id c, Q, s, h => awp_block (vc_sound c _ s h)
  | .region _ ops false, Q, s, h => awp_regionX (vcA_lexX _ _ h)
  | .region _ ops true, Q, s, h => h
  | .loop c, Q, s, h => h
  | .rangeFunc .., Q, s, h => h
  | .scope c, Q, s, h => h
  | .refuse _, Q, s, h => h

theorem Pure.of_vc {f : FuncId} {fn : Func} {c : Code} {args : List PV} {r : PV} (hf : P.funcs[f]? = some fn) (hname : fn.name ≠ "runtime.NumGoroutine") (hb : fn.body = some c) (hn : args.length ≤ fn.ntmps) (hi : r.dids = [])
    (h : vc P c (retQ P fn r) (St.init args fn.ntmps)) : Pure P f args r := Pure.intro hf hname hb hn hi (vc_sound _ _ _ h)

end

/-! ### The same, with all that is yet to come out of simp's reach (it does not look into instances) -/
class KS where
  k : St → Prop
class LST where
  l : List Oper
class COD where
  c : Code
class QS where
  q : Exit → St → Prop
class PR where
  p : Prop
class KR where
  k : PV → Hp → Prop
class KV where
  k : PV → Prop
class KH where
  m : Hp

def vRes (r : ARes) [K : KR] : Prop := vcRes r K.k
def vGuard (want : Bool) (p : PV) [A : PR] [B : PR] : Prop := vcGuard want p A.p B.p
def vCond (p : PV) [A : PR] [B : PR] : Prop := vcCond p A.p B.p
def vCall (P : Program) (x : Bool) [M : KH] (c : Option (FuncId × List PV)) [K : KR] : Prop := vcCall P x M.m c K.k
def vA (P : Program) (x : Bool) [K : KS] [G : LST] [L : LST] (s : St) : Prop := vcA P x G.l.toArray K.k L.l s
def vOne (P : Program) (x : Bool) [K : KS] [G : LST] [L : LST] (o : Oper) (s : St) : Prop := vcA P x G.l.toArray K.k (o :: L.l) s
def vOp (P : Program) (x : Bool) [K : KS] (o : Oper) (s : St) : Prop := vcOp P x o s K.k
def gSlot [G : LST] (j : Nat) : Option Nat := (G.l[j]?).bind (·.dst)
def vC (P : Program) [C : COD] [Q : QS] (s : St) : Prop := vc P C.c Q.q s
def vQ [Q : QS] (e : Exit) (s : St) : Prop := Q.q e s

section
variable {P : Program} {x : Bool}
theorem vRes_mk (ok : Prop) (v : PV) (m : Hp) (K : KR) : @vRes ⟨ok, v, m⟩ K = (ok ∧ K.k v m) := rfl
theorem vGuard_tt (A B : PR) : @vGuard true (.bool true) A B = A.p := by simp [vGuard, vcGuard]
theorem vGuard_tf (A B : PR) : @vGuard true (.bool false) A B = B.p := by simp [vGuard, vcGuard]
theorem vGuard_ft (A B : PR) : @vGuard false (.bool true) A B = B.p := by simp [vGuard, vcGuard]
theorem vGuard_ff (A B : PR) : @vGuard false (.bool false) A B = A.p := by simp [vGuard, vcGuard]
theorem vGuard_tup (w : Bool) (l : List PV) (A B : PR) : @vGuard w (.tup l) A B = B.p := rfl
theorem vCond_t (A B : PR) : @vCond (.bool true) A B = A.p := by simp [vCond, vcCond]
theorem vCond_f (A B : PR) : @vCond (.bool false) A B = B.p := by simp [vCond, vcCond]
theorem gSlot_zero (o : Oper) (l : List Oper) : @gSlot ⟨o :: l⟩ 0 = o.dst := rfl
theorem gSlot_succ (o : Oper) (l : List Oper) (j : Nat) : @gSlot ⟨o :: l⟩ (j + 1) = @gSlot ⟨l⟩ j := by simp [gSlot]
theorem vA_nil (K : KS) (G : LST) (s : St) : @vA P x K G ⟨[]⟩ s = K.k s := rfl
theorem vA_cons (K : KS) (G : LST) (o : Oper) (l : List Oper) (s : St) : @vA P x K G ⟨o :: l⟩ s = @vOne P x K G ⟨l⟩ o s := rfl
theorem vOne_plain (K : KS) (G L : LST) (d : Option Tmp) (op : Op) (ty : TypeId) (pos : String) (af : Array Edge) (s : St) :
    @vOne P x K G L ⟨d, op, ty, pos, af, none⟩ s = (dstOk s.n d ∧ @vOp P x ⟨@vA P x K G L⟩ ⟨d, op, ty, "", #[], none⟩ s) := by
  have h : vcOp P x ⟨d, op, ty, pos, af, none⟩ s = vcOp P x ⟨d, op, ty, "", #[], none⟩ s := by
    funext K; cases op <;> rfl
  show (dstOk s.n d ∧ vcOp P x ⟨d, op, ty, pos, af, none⟩ s (vcA P x G.l.toArray K.k L.l)) = _
  rw [h]; rfl
theorem vOne_guard (K : KS) (G L : LST) (d : Option Tmp) (op : Op) (ty : TypeId) (pos : String) (af : Array Edge) (j : Nat) (want : Bool) (s : St) (d' : Nat) (h : @gSlot G j = some d') :
    @vOne P x K G L ⟨d, op, ty, pos, af, some (j, want)⟩ s = (dstOk s.n d ∧ d' < s.n ∧ @vGuard want (s.fr d') ⟨@vOp P x ⟨@vA P x K G L⟩ ⟨d, op, ty, "", #[], none⟩ s⟩ ⟨@vA P x K G L (s.put d (.tup []))⟩) := by
  have h' : (G.l.toArray[j]?).bind (·.dst) = some d' := by simpa [gSlot] using h
  have e : vcOp P x ⟨d, op, ty, pos, af, some (j, want)⟩ s = vcOp P x ⟨d, op, ty, "", #[], none⟩ s := by
    funext K; cases op <;> rfl
  show (dstOk s.n d ∧ (match (G.l.toArray[j]?).bind (·.dst) with
      | none => vcA P x G.l.toArray K.k L.l (s.put d (.tup []))
      | some d => d < s.n ∧ vcGuard want (s.fr d) (vcOp P x ⟨_, op, ty, pos, af, some (j, want)⟩ s (vcA P x G.l.toArray K.k L.l)) (vcA P x G.l.toArray K.k L.l (s.put _ (.tup []))))) = _
  rw [h', e]; rfl

theorem vOp_call (K : KS) (d : Option Tmp) (f : Operand) (args : Array Operand) (ts : Array TypeId) (ty : TypeId) (s : St) :
    @vOp P x K ⟨d, .call ⟨.value f, args, ts⟩, ty, "", #[], none⟩ s = @vCall P x ⟨s.m⟩ (calleeOf s.eval ⟨.value f, args, ts⟩) ⟨fun r m => K.k ((s.with m).put d r)⟩ := rfl

theorem vC_skip (Q : QS) (s : St) : @vC P ⟨.skip⟩ Q s = @vQ Q .normal s := rfl
theorem vC_label (l : Nat) (Q : QS) (s : St) : @vC P ⟨.label l⟩ Q s = @vQ Q .normal s := rfl
theorem vC_ret (Q : QS) (s : St) : @vC P ⟨.ret⟩ Q s = @vQ Q .ret s := rfl
theorem vC_exit (id : Nat) (Q : QS) (s : St) : @vC P ⟨.exit id⟩ Q s = @vQ Q (.exit id) s := rfl
theorem vC_goto (l : Nat) (Q : QS) (s : St) : @vC P ⟨.goto l⟩ Q s = @vQ Q (.goto l) s := rfl
theorem vC_seq_skip (y : Code) (Q : QS) (s : St) : @vC P ⟨.seq (.skip) y⟩ Q s = @vC P ⟨.skip⟩ ⟨thenQ (@vC P ⟨y⟩ Q) Q.q⟩ s := rfl
theorem vC_seq_ret (y : Code) (Q : QS) (s : St) : @vC P ⟨.seq (.ret) y⟩ Q s = @vC P ⟨.ret⟩ ⟨thenQ (@vC P ⟨y⟩ Q) Q.q⟩ s := rfl
theorem vC_seq_exit (id : Nat) (y : Code) (Q : QS) (s : St) : @vC P ⟨.seq (.exit id) y⟩ Q s = @vC P ⟨.exit id⟩ ⟨thenQ (@vC P ⟨y⟩ Q) Q.q⟩ s := rfl
theorem vC_seq_goto (l : Nat) (y : Code) (Q : QS) (s : St) : @vC P ⟨.seq (.goto l) y⟩ Q s = @vC P ⟨.goto l⟩ ⟨thenQ (@vC P ⟨y⟩ Q) Q.q⟩ s := rfl
theorem vC_seq_seq (a b : Code) (y : Code) (Q : QS) (s : St) : @vC P ⟨.seq (.seq a b) y⟩ Q s = @vC P ⟨.seq a b⟩ ⟨thenQ (@vC P ⟨y⟩ Q) Q.q⟩ s := rfl
theorem vC_seq_cond (c : Operand) (a b : Code) (y : Code) (Q : QS) (s : St) : @vC P ⟨.seq (.cond c a b) y⟩ Q s = @vC P ⟨.cond c a b⟩ ⟨thenQ (@vC P ⟨y⟩ Q) Q.q⟩ s := rfl
theorem vC_seq_block (id : Nat) (c : Code) (y : Code) (Q : QS) (s : St) : @vC P ⟨.seq (.block id c) y⟩ Q s = @vC P ⟨.block id c⟩ ⟨thenQ (@vC P ⟨y⟩ Q) Q.q⟩ s := rfl
theorem vC_seq_region (id : Nat) (l : Array Oper) (d : Bool) (y : Code) (Q : QS) (s : St) : @vC P ⟨.seq (.region id l d) y⟩ Q s = @vC P ⟨.region id l d⟩ ⟨thenQ (@vC P ⟨y⟩ Q) Q.q⟩ s := rfl
theorem vC_seq_loop (c : Code) (y : Code) (Q : QS) (s : St) : @vC P ⟨.seq (.loop c) y⟩ Q s = @vC P ⟨.loop c⟩ ⟨thenQ (@vC P ⟨y⟩ Q) Q.q⟩ s := rfl
theorem vC_seq_scope (c : Code) (y : Code) (Q : QS) (s : St) : @vC P ⟨.seq (.scope c) y⟩ Q s = @vC P ⟨.scope c⟩ ⟨thenQ (@vC P ⟨y⟩ Q) Q.q⟩ s := rfl
theorem vC_seq_label (l : Nat) (y : Code) (Q : QS) (s : St) : @vC P ⟨.seq (.label l) y⟩ Q s = awp P (.seq (.label l) y) Q.q s := rfl
theorem vC_cond (c : Operand) (x y : Code) (Q : QS) (s : St) : @vC P ⟨.cond c x y⟩ Q s = @vCond (s.eval c) ⟨@vC P ⟨x⟩ Q s⟩ ⟨@vC P ⟨y⟩ Q s⟩ := rfl
theorem vC_block (id : Nat) (c : Code) (Q : QS) (s : St) : @vC P ⟨.block id c⟩ Q s = @vC P ⟨c⟩ ⟨blockQ id Q.q⟩ s := rfl
theorem vC_region (id : Nat) (l : List Oper) (Q : QS) (s : St) : @vC P ⟨.region id l.toArray false⟩ Q s = @vA P true ⟨@vQ Q .normal⟩ ⟨l⟩ ⟨l⟩ s := rfl
theorem vC_scope (c : Code) (Q : QS) (s : St) : @vC P ⟨.scope c⟩ Q s = awp P (.scope c) Q.q s := rfl
theorem vC_loop (c : Code) (Q : QS) (s : St) : @vC P ⟨.loop c⟩ Q s = awp P (.loop c) Q.q s := rfl
theorem vC_draw (id : Nat) (l : Array Oper) (Q : QS) (s : St) : @vC P ⟨.region id l true⟩ Q s = awp P (.region id l true) Q.q s := rfl

theorem vQ_then_normal (K : St → Prop) (Q : Exit → St → Prop) (s : St) : @vQ ⟨thenQ K Q⟩ .normal s = K s := rfl
theorem vQ_then_ret (K : St → Prop) (Q : Exit → St → Prop) (s : St) : @vQ ⟨thenQ K Q⟩ .ret s = @vQ ⟨Q⟩ .ret s := rfl
theorem vQ_then_exit (K : St → Prop) (Q : Exit → St → Prop) (id : Nat) (s : St) : @vQ ⟨thenQ K Q⟩ (.exit id) s = @vQ ⟨Q⟩ (.exit id) s := rfl
theorem vQ_then_goto (K : St → Prop) (Q : Exit → St → Prop) (id : Nat) (s : St) : @vQ ⟨thenQ K Q⟩ (.goto id) s = @vQ ⟨Q⟩ (.goto id) s := rfl
theorem vQ_block_normal (id : Nat) (Q : Exit → St → Prop) (s : St) : @vQ ⟨blockQ id Q⟩ .normal s = @vQ ⟨Q⟩ .normal s := rfl
theorem vQ_block_ret (id : Nat) (Q : Exit → St → Prop) (s : St) : @vQ ⟨blockQ id Q⟩ .ret s = @vQ ⟨Q⟩ .ret s := rfl
theorem vQ_block_goto (id l : Nat) (Q : Exit → St → Prop) (s : St) : @vQ ⟨blockQ id Q⟩ (.goto l) s = @vQ ⟨Q⟩ (.goto l) s := rfl
theorem vQ_block_exit (id j : Nat) (Q : Exit → St → Prop) (s : St) : @vQ ⟨blockQ id Q⟩ (.exit j) s = (if j = id then @vQ ⟨Q⟩ .normal s else @vQ ⟨Q⟩ (.exit j) s) := rfl
theorem vQ_ret_ret (fn : Func) (r : PV) (s : St) : @vQ ⟨retQ P fn r⟩ .ret s = retP P fn r s := rfl
theorem vQ_ret_normal (fn : Func) (r : PV) (s : St) : @vQ ⟨retQ P fn r⟩ .normal s = retP P fn r s := rfl

theorem vGuard_t {b : Bool} {A B : PR} (h1 : b = true → A.p) (h2 : b = false → B.p) : @vGuard true (.bool b) A B := ⟨h1, h2⟩
theorem vGuard_f {b : Bool} {A B : PR} (h1 : b = true → B.p) (h2 : b = false → A.p) : @vGuard false (.bool b) A B := ⟨h2, h1⟩
theorem vCond_b {b : Bool} {A B : PR} (h1 : b = true → A.p) (h2 : b = false → B.p) : @vCond (.bool b) A B := ⟨h1, h2⟩
theorem vCall_of {M : KH} {g : FuncId} {args args' : List PV} {K : KR} {r : PV} (h1 : Pure P g args' r) (h0 : PV.givableL M.m args) (he : PV.giveL M.m args = args') (h2 : K.k r M.m) : @vCall P x M (some (g, args)) K :=
  ⟨h0, .inl ⟨r, by rw [he]; exact h1, h2⟩⟩
/-- a call that looks into maps that are written still -/
theorem vCall_sl {M : KH} {g : FuncId} {args args' : List PV} {K : KR} {r : PV} (h1 : Pure P g args' r) (hn : r.nomap = true) (h0 : PV.givableL M.m args) (he : PV.sealL M.m.o (PV.giveL M.m args) = args') (h2 : K.k r M.m) : @vCall P true M (some (g, args)) K :=
  ⟨h0, .inr ⟨rfl, .inl ⟨r, by rw [he]; exact h1, hn, h2⟩⟩⟩
/-- a call that writes a map -/
theorem vCall_wr {M : KH} {g : FuncId} {args : List PV} {K : KR} {A : Nat → List PV} {c c' : MapC} {r : PV} (b : Nat) (h1 : Wr P g A c r c') (h0 : PV.givableL M.m args) (he : PV.giveL M.m args = A b) (hc : M.m.o b = some c) (h2 : K.k r { M.m with o := upd M.m.o b (some c') }) : @vCall P true M (some (g, args)) K :=
  ⟨h0, .inr ⟨rfl, .inr (.inl ⟨b, c, A, r, c', hc, he, h1, h2⟩)⟩⟩
/-- a call that makes a map -/
theorem vCall_mk {M : KH} {g : FuncId} {args args' : List PV} {K : KR} {c : MapC} {r : Nat → PV} (h1 : Mk P g args' r c) (h0 : PV.givableL M.m args) (he : PV.giveL M.m args = args') (h2 : ∀ b, M.m.o b = none → K.k (r b) { M.m with o := upd M.m.o b (some c) }) : @vCall P true M (some (g, args)) K :=
  ⟨h0, .inr ⟨rfl, .inr (.inr ⟨r, c, by rw [he]; exact h1, h2⟩)⟩⟩

/-- what is handed back, result by result -/
def vRet (P : Program) (r : PV) (s : St) : List PV → List ResultVar → Prop
  | acc, [] => (pack acc.reverse).givable s.m ∧ r = (pack acc.reverse).give s.m
  | acc, .tmp t :: rs => vRet P r s (s.fr t :: acc) rs
  | acc, .cell t ty :: rs => tkn P ty = true ∧ (aLoad P ty (s.fr t) s.m).ok ∧ vRet P r s ((aLoad P ty (s.fr t) s.m).v :: acc) rs

theorem vRet_retP {fn : Func} {r : PV} {s : St} : ∀ (rs : List ResultVar) (acc : List PV), vRet P r s acc rs →
    allOk (rs.map (resV P s)) ∧ (pack (acc.reverse ++ rs.map fun x => (resV P s x).v)).givable s.m ∧ r = (pack (acc.reverse ++ rs.map fun x => (resV P s x).v)).give s.m
  | [], acc, h => by simpa [vRet, allOk] using h
  | .tmp t :: rs, acc, h => by
    obtain ⟨h1, h2, h3⟩ := vRet_retP (fn := fn) rs _ h
    refine ⟨⟨trivial, h1⟩, ?_, ?_⟩
    · simpa [resV] using h2
    · simpa [resV] using h3
  | .cell t ty :: rs, acc, h => by
    obtain ⟨h0, h0', h⟩ := h
    obtain ⟨h1, h2, h3⟩ := vRet_retP (fn := fn) rs _ h
    refine ⟨⟨?_, h1⟩, ?_, ?_⟩
    · simpa [resV, h0] using h0'
    · simpa [resV, h0] using h2
    · simpa [resV, h0] using h3

def vRetQ (P : Program) (rs : List ResultVar) (r : PV) : Exit → St → Prop
  | .normal, s => vRet P r s [] rs
  | .ret, s => vRet P r s [] rs
  | _, _ => False
theorem vQ_vret_ret (rs : List ResultVar) (r : PV) (s : St) : @vQ ⟨vRetQ P rs r⟩ .ret s = vRet P r s [] rs := rfl
theorem vQ_vret_normal (rs : List ResultVar) (r : PV) (s : St) : @vQ ⟨vRetQ P rs r⟩ .normal s = vRet P r s [] rs := rfl

theorem Pure.of_v {f : FuncId} {fn : Func} {c : Code} {args : List PV} {r : PV} {n : Nat} {rs : List ResultVar} (hf : P.funcs[f]? = some fn) (hname : fn.name ≠ "runtime.NumGoroutine") (hb : fn.body = some c) (hn : fn.ntmps = n) (hrs : fn.results = rs.toArray) (hl : args.length ≤ n) (hi : r.dids = [])
    (h : @vC P ⟨c⟩ ⟨vRetQ P rs r⟩ (St.init args n)) : Pure P f args r := by
  subst hn
  refine Pure.intro hf hname hb hl hi (awp_mono (fun e s hq => ?_) (vc_sound _ _ _ h))
  have key : vRet P r s [] rs → retP P fn r s := fun hv => by
    unfold retP
    rw [hrs]
    simpa using vRet_retP (fn := fn) rs [] hv
  cases e with
  | normal => exact key hq
  | ret => exact key hq
  | _ => exact hq
end
end Go.PL

namespace Go.PL
attribute [go_sem] vC_seq_skip vC_seq_ret vC_seq_exit vC_seq_goto vC_seq_seq vC_seq_cond vC_seq_block vC_seq_region vC_seq_loop vC_seq_scope vC_seq_label vC_scope vC_region vC_ret vC_cond vC_block vC_skip vC_label vC_exit vC_goto vC_loop vC_draw vA_cons vA_nil vOne_plain vOne_guard gSlot_zero gSlot_succ vQ_then_normal vQ_then_ret vQ_then_exit vQ_then_goto
  vQ_block_normal vQ_block_ret vQ_block_goto vQ_block_exit vQ_vret_ret vQ_vret_normal vGuard_tt vGuard_tf vGuard_ft vGuard_ff vGuard_tup vCond_t vCond_f vRes_mk
attribute [go_sem] vOp vcOp vcRes dstOk aop St.eval St.init initFr St.put St.with aField aFieldAddr aIndex aIndexAddr aLoad aStore splice Hp.new Hp.empty Hp.setq Hp.freeze PV.cells aBin aInt aStr aEql aEq ofVal ofAtom partPV PV.known PV.atom
  aPick aNilCheck aUn aConv aExtract aLen aMax aMin aBuild fillPV aBuildSlice partsOk aSlice loOf hiOf aMakeRow aMakeFull aBuiltin aAppend appended calleeOf PV.give PV.giveL PV.givable PV.givableL PV.share PV.shareL PV.clean PV.cleanL
  vRet pack frozenBy capsOk PV.ids PV.idsL eqLeaf eqLeaves ptrNil slNil mapNil ARes.fail aLookup aMapUpdate aEntry aMapLen isMapPV mapOf lookV makeX rangeX nextX PV.shut PV.sealL
attribute [go_sem ↓ high] vOp_call
attribute [go_sem] List.append_nil List.nil_append List.cons_append
@[go_sem] theorem upd_lit {α : Type} (f : Nat → α) (i j : Nat) (v : α) : upd f i v j = if i = j then v else f j := rfl
end Go.PL

namespace Go.PL
open Go.RowKit
set_option linter.unusedVariables false

/-- which parts of the call's own memory an operation reads and writes; whether it makes a block, a row of its own -/
structure Fp where
  rh : Bool := false
  rz : Bool := false
  rq : Bool := false
  wh : Bool := false
  wz : Bool := false
  wq : Bool := false
  nb : Bool := false
  nq : Bool := false
  ro : Bool := false
  wo : Bool := false

def fp : Op → Fp
  | .load _ _ => { rh := true }
  | .convert _ _ _ => { rh := true }
  | .store _ _ _ => { rh := true, rz := true, wh := true }
  | .alloc _ => { nb := true }
  | .box _ _ => { nb := true }
  | .makeSlice _ l _ => match l with | .const (.int _ 0) => { nq := true } | _ => { nb := true }
  | .buildSlice _ _ _ => { nq := true }
  | .makeFunc _ _ caps => if caps.isEmpty then {} else { rh := true, wz := true }
  | .lookup _ _ _ _ => { ro := true }
  | .mapUpdate _ _ _ _ => { ro := true, wo := true }
  | .entry _ => { ro := true }
  | .call { callee := .builtin b, .. } => match b with | .append => { rq := true, wq := true } | .len => { ro := true } | _ => {}
  | .call _ => { rh := true, rz := true }
  | _ => {}

/-- what the operands lean on -/
def refsOf (o : Oper) (ρ : Operand → PV) : List Ref := o.op.operands.toList.flatMap fun x => (ρ x).ids

def Wh (o : Oper) (ρ : Operand → PV) (i : Nat) : Prop := ((fp o.op).wh = true ∧ .b i ∈ refsOf o ρ) ∨ ((fp o.op).nb = true ∧ o.dst = some i)
def Wz (o : Oper) (ρ : Operand → PV) (i : Nat) : Prop := ((fp o.op).wz = true ∧ .b i ∈ refsOf o ρ) ∨ ((fp o.op).nb = true ∧ o.dst = some i)
def Wq (o : Oper) (ρ : Operand → PV) (i : Nat) : Prop := ((fp o.op).wq = true ∧ (.r i ∈ refsOf o ρ ∨ o.dst = some i)) ∨ ((fp o.op).nq = true ∧ o.dst = some i)

/-- what the operation does to the memory, and that it does the same wherever what it looks at is the same -/
structure Foot (P : Program) (o : Oper) (ρ : Operand → PV) (m : Hp) (v : PV) (m' : Hp) : Prop where
  h1 : ∀ i, ¬ Wh o ρ i → m'.h i = m.h i
  z1 : ∀ i, ¬ Wz o ρ i → m'.z i = m.z i
  q1 : ∀ i, ¬ Wq o ρ i → m'.q i = m.q i
  hn : (fp o.op).nb = true → ∀ i, o.dst = some i → m.h i = none
  qn : (fp o.op).nq = true → ∀ i, o.dst = some i → m.q i = none
  hl : ∀ i, m.h i ≠ none → m'.h i ≠ none
  ql : ∀ i, m.q i ≠ none → m'.q i ≠ none
  o1 : (fp o.op).wo = false → m'.o = m.o
  i1 : m'.it = m.it
  re : ∀ m2 : Hp, ((fp o.op).rh = true → ∀ i, .b i ∈ refsOf o ρ → m2.h i = m.h i) → ((fp o.op).rz = true → ∀ i, .b i ∈ refsOf o ρ → m2.z i = m.z i) →
    ((fp o.op).rq = true → ∀ i, (.r i ∈ refsOf o ρ ∨ o.dst = some i) → m2.q i = m.q i) → ((fp o.op).nb = true → ∀ i, o.dst = some i → m2.h i = none) → ((fp o.op).nq = true → ∀ i, o.dst = some i → m2.q i = none) →
    ((fp o.op).ro = true → m2.o = m.o) → m2.it = m.it →
    ∃ m2', StepM P o ρ m2 v m2' ∧ (∀ i, (Wh o ρ i → m2'.h i = m'.h i) ∧ (¬ Wh o ρ i → m2'.h i = m2.h i)) ∧ (∀ i, (Wz o ρ i → m2'.z i = m'.z i) ∧ (¬ Wz o ρ i → m2'.z i = m2.z i)) ∧
      (∀ i, (Wq o ρ i → m2'.q i = m'.q i) ∧ (¬ Wq o ρ i → m2'.q i = m2.q i)) ∧ (((fp o.op).wo = true → m2'.o = m'.o) ∧ ((fp o.op).wo = false → m2'.o = m2.o)) ∧ m2'.it = m2.it

/-- the operation looks at no memory of the call's own -/
def NoMem (f : Hp → ARes) : Prop := ∀ m m2, (f m).ok → (f m).m = m ∧ (f m2).ok ∧ (f m2).v = (f m).v ∧ (f m2).m = m2

section
variable {P : Program}

theorem noMem_const {ok : Prop} {v : PV} : NoMem fun m => ⟨ok, v, m⟩ := fun m m2 h => ⟨rfl, h, rfl, rfl⟩
theorem noMem_fail : NoMem fun _ => ARes.fail := fun m m2 h => h.elim

theorem noMem_pick {c x y : PV} : NoMem (aPick c x y) := fun m m2 h => by
  revert h; unfold aPick; split
  · exact noMem_const m m2
  · exact noMem_const m m2
  · exact noMem_fail m m2
theorem noMem_field {t : TypeId} {x : PV} {f : Nat} : NoMem (aField P t x f) := fun m m2 h => by
  revert h; unfold aField; split
  · exact noMem_const m m2
  · exact noMem_fail m m2
theorem noMem_fieldAddr {t : TypeId} {x : PV} {f : Nat} : NoMem (aFieldAddr P t x f) := fun m m2 h => by
  revert h; unfold aFieldAddr; split <;> first | exact noMem_const m m2 | exact noMem_fail m m2
theorem noMem_index {t : TypeId} {x y : PV} : NoMem (aIndex P t x y) := fun m m2 h => by
  revert h; unfold aIndex; split <;> first | exact noMem_const m m2 | exact noMem_fail m m2
theorem noMem_indexAddr {t : TypeId} {x y : PV} : NoMem (aIndexAddr P t x y) := fun m m2 h => by
  revert h; unfold aIndexAddr; split <;> first | exact noMem_const m m2 | exact noMem_fail m m2
theorem noMem_int {op : BinOp} {k k' : IntKind} {x y : Int} : NoMem (aInt op k k' x y) := fun m m2 h => by
  revert h; unfold aInt; split <;> first | exact noMem_const m m2 | exact noMem_fail m m2
theorem noMem_str {op : BinOp} {x y : List UInt8} : NoMem (aStr op x y) := fun m m2 h => by
  revert h; unfold aStr; split <;> first | exact noMem_const m m2 | exact noMem_fail m m2
theorem noMem_eq {b : Bool} {r : Option Bool} : NoMem (aEq b r) := fun m m2 h => by
  revert h; unfold aEq; split <;> first | exact noMem_const m m2 | exact noMem_fail m m2
theorem noMem_eql {b : Bool} {t : TypeId} {x y : PV} : NoMem (aEql P b t x y) := fun m m2 h => by
  revert h; unfold aEql
  split
  · split <;> first | exact noMem_eq m m2 | exact noMem_fail m m2
  · split <;> first | exact noMem_eq m m2 | exact noMem_fail m m2
  · split <;> first | exact noMem_eq m m2 | exact noMem_fail m m2
theorem noMem_bin {op : BinOp} {t : TypeId} {x y : PV} : NoMem (aBin P op t x y) := fun m m2 h => by
  revert h; unfold aBin
  split
  · exact noMem_int m m2
  · exact noMem_str m m2
  · split <;> first | exact noMem_eql m m2 | exact noMem_fail m m2
theorem noMem_un {op : UnOp} {x : PV} : NoMem (aUn op x) := fun m m2 h => by
  revert h; unfold aUn; split <;> first | exact noMem_const m m2 | exact noMem_fail m m2
theorem conv_m {a b : TypeId} {x : PV} {m : Hp} (h : (aConv P a b x m).ok) : (aConv P a b x m).m = m := by
  revert h
  unfold aConv
  split
  · exact fun _ => rfl
  · exact fun _ => rfl
  · split
    · exact fun _ => rfl
    · exact fun h => h.elim
  · split
    · split
      · exact fun _ => rfl
      · exact fun h => h.elim
    · exact fun h => h.elim
  · exact fun h => h.elim
theorem conv_congr {a b : TypeId} {x : PV} {m m2 : Hp} (hm : ∀ i, .b i ∈ x.ids → m2.h i = m.h i) (h : (aConv P a b x m).ok) : (aConv P a b x m2).ok ∧ (aConv P a b x m2).v = (aConv P a b x m).v ∧ (aConv P a b x m2).m = m2 := by
  revert h
  unfold aConv
  split
  · exact fun _ => ⟨trivial, rfl, rfl⟩
  · exact fun _ => ⟨trivial, rfl, rfl⟩
  · split
    · exact fun _ => ⟨trivial, rfl, rfl⟩
    · exact fun h => h.elim
  · rename_i id off len sz _
    have e := hm id (by simp [PV.ids])
    simp only [e]
    split
    · split
      · exact fun h => ⟨h, rfl, rfl⟩
      · exact fun h => h.elim
    · exact fun h => h.elim
  · exact fun h => h.elim
theorem noMem_extract {x : PV} {i : Nat} : NoMem (aExtract x i) := fun m m2 h => by
  revert h; unfold aExtract; split <;> first | exact noMem_const m m2 | exact noMem_fail m m2
theorem noMem_nilCheck {x : PV} : NoMem (aNilCheck x) := fun m m2 h => by
  revert h; unfold aNilCheck; split <;> first | exact noMem_const m m2 | exact noMem_fail m m2
theorem noMem_len {t : TypeId} {x : PV} : NoMem (aLen P t x) := fun m m2 h => by
  revert h; unfold aLen; split <;> first | exact noMem_const m m2 | exact noMem_fail m m2
theorem noMem_max {x y : PV} : NoMem (aMax x y) := fun m m2 h => by
  revert h; unfold aMax; split <;> first | exact noMem_const m m2 | exact noMem_fail m m2
theorem noMem_min {x y : PV} : NoMem (aMin x y) := fun m m2 h => by
  revert h; unfold aMin; split <;> first | exact noMem_const m m2 | exact noMem_fail m m2
theorem noMem_build {t : TypeId} {l : List (Nat × PV)} : NoMem (aBuild P t l) := fun m m2 h => by
  revert h; unfold aBuild
  split
  · split <;> first | exact noMem_const m m2 | exact noMem_fail m m2
  · split <;> first | exact noMem_const m m2 | exact noMem_fail m m2
  · exact noMem_fail m m2
theorem noMem_slice {t : TypeId} {x : PV} {lo hi : Option PV} : NoMem (aSlice P t x lo hi) := fun m m2 h => by
  revert h; unfold aSlice
  split
  · split <;> first | exact noMem_const m m2 | exact noMem_fail m m2
  · split <;> first | exact noMem_const m m2 | exact noMem_fail m m2
  · split <;> first | exact noMem_const m m2 | exact noMem_fail m m2
  · split <;> first | exact noMem_const m m2 | exact noMem_fail m m2
  · exact noMem_fail m m2

theorem Foot.noMem {o : Oper} {ρ : Operand → PV} {m : Hp} (hn : NoMem (aop P o ρ)) (hf1 : (fp o.op).nb = false) (hf2 : (fp o.op).nq = false) (hf3 : (fp o.op).wh = false) (hf4 : (fp o.op).wz = false) (hf5 : (fp o.op).wq = false) (hf6 : (fp o.op).wo = false) (hok : (aop P o ρ m).ok) :
    Foot P o ρ m (aop P o ρ m).v (aop P o ρ m).m := by
  obtain ⟨e, _⟩ := hn m m hok
  rw [e]
  refine ⟨fun _ _ => rfl, fun _ _ => rfl, fun _ _ => rfl, fun h => (by rw [hf1] at h; cases h), fun h => (by rw [hf2] at h; cases h), fun _ h => h, fun _ h => h, fun _ => rfl, rfl, fun m2 _ _ _ _ _ _ _ => ?_⟩
  obtain ⟨_, g1, g2, g3⟩ := hn m m2 hok
  refine ⟨m2, .inl ⟨g1, g2.symm, g3.symm⟩, fun i => ⟨fun h => ?_, fun _ => rfl⟩, fun i => ⟨fun h => ?_, fun _ => rfl⟩, fun i => ⟨fun h => ?_, fun _ => rfl⟩, ⟨fun h => (by rw [hf6] at h; cases h), fun _ => rfl⟩, rfl⟩
  · simp [Wh, hf1, hf3] at h
  · simp [Wz, hf1, hf4] at h
  · simp [Wq, hf2, hf5] at h

/-- a block, a row of its own -/
theorem Foot.newB {o : Oper} {ρ : Operand → PV} {m : Hp} {d : Nat} {v : PV} {cs : List PV} {ok : Prop} (hd : o.dst = some d) (hop : ∀ m : Hp, aop P o ρ m = ⟨m.h d = none ∧ ok, v, m.new d cs⟩)
    (hf : fp o.op = { nb := true }) (hok : (aop P o ρ m).ok) : Foot P o ρ m (aop P o ρ m).v (aop P o ρ m).m := by
  rw [hop] at hok ⊢
  simp only at hok ⊢
  have W1 : ∀ i, Wh o ρ i ↔ i = d := fun i => by simp [Wh, hf, hd, eq_comm]
  have W2 : ∀ i, Wz o ρ i ↔ i = d := fun i => by simp [Wz, hf, hd, eq_comm]
  have W3 : ∀ i, ¬ Wq o ρ i := fun i => by simp [Wq, hf]
  have n1 : ∀ (m : Hp) i, i ≠ d → (m.new d cs).h i = m.h i := fun m i h => upd_ne _ _ (Ne.symm h)
  have n2 : ∀ (m : Hp) i, i ≠ d → (m.new d cs).z i = m.z i := fun m i h => upd_ne _ _ (Ne.symm h)
  have n3 : ∀ (m : Hp), (m.new d cs).h d = some cs := fun m => upd_same _ _ _
  have n4 : ∀ (m : Hp), (m.new d cs).z d = false := fun m => upd_same _ _ _
  refine ⟨fun i h => n1 m i (fun e => h ((W1 i).2 e)), fun i h => n2 m i (fun e => h ((W2 i).2 e)), fun _ _ => rfl, fun _ i hi => ?_, fun h => ?_, fun i h => ?_, fun _ h => h, fun _ => rfl, rfl, fun m2 _ _ _ h4 _ _ _ => ?_⟩
  · rw [hd] at hi; cases hi; exact hok.1
  · rw [hf] at h; cases h
  · by_cases e : i = d
    · subst e; rw [n3]; simp
    · rw [n1 m i e]; exact h
  · refine ⟨m2.new d cs, .inl ?_, fun i => ⟨fun h => ?_, fun h => n1 m2 i (fun e => h ((W1 i).2 e))⟩, fun i => ⟨fun h => ?_, fun h => n2 m2 i (fun e => h ((W2 i).2 e))⟩, fun i => ⟨fun h => absurd h (W3 i), fun _ => rfl⟩, ⟨fun h => (by rw [hf] at h; cases h), fun _ => rfl⟩, rfl⟩
    · rw [hop]; exact ⟨⟨h4 (by rw [hf]) d hd, hok.2⟩, rfl, rfl⟩
    · obtain rfl := (W1 i).1 h; rw [n3, n3]
    · obtain rfl := (W2 i).1 h; rw [n4, n4]
theorem Foot.newQ {o : Oper} {ρ : Operand → PV} {m : Hp} {d : Nat} {v : PV} {r : Row} {ok : Prop} (hd : o.dst = some d) (hop : ∀ m : Hp, aop P o ρ m = ⟨m.q d = none ∧ ok, v, m.setq d r⟩)
    (hf : fp o.op = { nq := true }) (hok : (aop P o ρ m).ok) : Foot P o ρ m (aop P o ρ m).v (aop P o ρ m).m := by
  rw [hop] at hok ⊢
  simp only at hok ⊢
  have W1 : ∀ i, ¬ Wh o ρ i := fun i => by simp [Wh, hf]
  have W2 : ∀ i, ¬ Wz o ρ i := fun i => by simp [Wz, hf]
  have W3 : ∀ i, Wq o ρ i ↔ i = d := fun i => by simp [Wq, hf, hd, eq_comm]
  have n1 : ∀ (m : Hp) i, i ≠ d → (m.setq d r).q i = m.q i := fun m i h => upd_ne _ _ (Ne.symm h)
  have n3 : ∀ (m : Hp), (m.setq d r).q d = some r := fun m => upd_same _ _ _
  refine ⟨fun _ _ => rfl, fun _ _ => rfl, fun i h => n1 m i (fun e => h ((W3 i).2 e)), fun h => ?_, fun _ i hi => ?_, fun _ h => h, fun i h => ?_, fun _ => rfl, rfl, fun m2 _ _ _ _ h5 _ _ => ?_⟩
  · rw [hf] at h; cases h
  · rw [hd] at hi; cases hi; exact hok.1
  · by_cases e : i = d
    · subst e; rw [n3]; simp
    · rw [n1 m i e]; exact h
  · refine ⟨m2.setq d r, .inl ?_, fun i => ⟨fun h => absurd h (W1 i), fun _ => rfl⟩, fun i => ⟨fun h => absurd h (W2 i), fun _ => rfl⟩, fun i => ⟨fun h => ?_, fun h => n1 m2 i (fun e => h ((W3 i).2 e))⟩, ⟨fun h => (by rw [hf] at h; cases h), fun _ => rfl⟩, rfl⟩
    · rw [hop]; exact ⟨⟨h5 (by rw [hf]) d hd, hok.2⟩, rfl, rfl⟩
    · obtain rfl := (W3 i).1 h; rw [n3, n3]
end
end Go.PL

namespace Go.PL
open Go.RowKit
set_option linter.unusedVariables false
section
variable {P : Program}

mutual
theorem give_congr {m m2 : Hp} : ∀ (p : PV), (∀ i, .b i ∈ p.ids → m2.h i = m.h i ∧ m2.z i = m.z i) → p.give m2 = p.give m ∧ (p.givable m → p.givable m2)
  | .ptr id off, h => by
    obtain ⟨h1, h2⟩ := h id (by simp [PV.ids])
    simp [PV.give, PV.givable, h1, h2]
  | .osl _ _ _ _, _ => by simp [PV.give, PV.givable]
  | .agg cs, h => by
    obtain ⟨h1, h2⟩ := give_congrL cs (fun i hi => h i (by simpa [PV.ids] using hi))
    simp only [PV.give, PV.givable, h1]
    exact ⟨trivial, h2⟩
  | .tup cs, h => by
    obtain ⟨h1, h2⟩ := give_congrL cs (fun i hi => h i (by simpa [PV.ids] using hi))
    simp only [PV.give, PV.givable, h1]
    exact ⟨trivial, h2⟩
  | .fn f cs, h => by
    obtain ⟨h1, h2⟩ := give_congrL cs (fun i hi => h i (by simpa [PV.ids] using hi))
    simp only [PV.give, PV.givable, h1]
    exact ⟨trivial, h2⟩
  | .any, _ => by simp [PV.give, PV.givable]
  | .int _ _, _ => by simp [PV.give, PV.givable]
  | .bool _, _ => by simp [PV.give, PV.givable]
  | .str _, _ => by simp [PV.give, PV.givable]
  | .flt _ _, _ => by simp [PV.give, PV.givable]
  | .cpx _ _ _, _ => by simp [PV.give, PV.givable]
  | .sl _ _, _ => by simp [PV.give, PV.givable]
  | .rptr _, _ => by simp [PV.give, PV.givable]
  | .nilp, _ => by simp [PV.give, PV.givable]
  | .nilfn, _ => by simp [PV.give, PV.givable]
  | .nilmap, _ => by simp [PV.give, PV.givable]
  | .mref _, _ => by simp [PV.give, PV.givable]
  | .iptr _, _ => by simp [PV.give, PV.givable]
  | .rmap _ _, _ => by simp [PV.give, PV.givable]
theorem give_congrL {m m2 : Hp} : ∀ (cs : List PV), (∀ i, .b i ∈ PV.idsL cs → m2.h i = m.h i ∧ m2.z i = m.z i) → PV.giveL m2 cs = PV.giveL m cs ∧ (PV.givableL m cs → PV.givableL m2 cs)
  | [], _ => by simp [PV.giveL, PV.givableL]
  | c :: cs, h => by
    obtain ⟨h1, h2⟩ := give_congr c (fun i hi => h i (by simp [PV.idsL, hi]))
    obtain ⟨h3, h4⟩ := give_congrL cs (fun i hi => h i (by simp [PV.idsL, hi]))
    simp only [PV.giveL, PV.givableL, h1, h3]
    exact ⟨trivial, fun h => ⟨h2 h.1, h4 h.2⟩⟩
end

theorem foot_call {o : Oper} {ρ : Operand → PV} {m : Hp} {v : PV} {c : Call} {g : FuncId} {args : List PV} (ho : o.op = .call c) (hc : calleeOf ρ c = some (g, args)) (hg : PV.givableL m args) (hp : Pure P g (PV.giveL m args) v) : Foot P o ρ m v m := by
  have hval : ∃ f, c.callee = .value f ∧ ∃ caps, ρ f = .fn g caps ∧ args = c.args.toList.map ρ ++ caps := by
    unfold calleeOf at hc
    split at hc
    · rename_i f hf
      split at hc
      · rename_i g' caps hcap
        simp only [Option.some.injEq, Prod.mk.injEq] at hc
        obtain ⟨rfl, rfl⟩ := hc
        exact ⟨f, hf, caps, hcap, rfl⟩
      · cases hc
    · cases hc
  obtain ⟨f, hf, caps, hcap, rfl⟩ := hval
  obtain ⟨callee, cargs, ts⟩ := c
  simp only at hf
  subst hf
  have hfp : fp o.op = { rh := true, rz := true } := by rw [ho]; rfl
  have W1 : ∀ i, ¬ Wh o ρ i := fun i => by simp [Wh, hfp]
  have W2 : ∀ i, ¬ Wz o ρ i := fun i => by simp [Wz, hfp]
  have W3 : ∀ i, ¬ Wq o ρ i := fun i => by simp [Wq, hfp]
  refine ⟨fun _ _ => rfl, fun _ _ => rfl, fun _ _ => rfl, fun h => (by rw [hfp] at h; cases h), fun h => (by rw [hfp] at h; cases h), fun _ h => h, fun _ h => h, fun _ => rfl, rfl, fun m2 a1 a2 _ _ _ _ _ => ?_⟩
  have hrefs : ∀ i, .b i ∈ PV.idsL (cargs.toList.map ρ ++ caps) → .b i ∈ refsOf o ρ := fun i hi => by
    unfold refsOf
    rw [ho]
    obtain ⟨x, hx, hix⟩ := PV.mem_idsL.1 hi
    rw [List.mem_flatMap]
    rcases List.mem_append.1 hx with hx | hx
    · obtain ⟨y, hy, rfl⟩ := List.mem_map.1 hx
      exact ⟨y, by simp only [Op.operands, Call.operands]; simp; right; simpa using hy, hix⟩
    · exact ⟨f, by simp [Op.operands, Call.operands], by rw [hcap]; exact PV.mem_idsL.2 ⟨x, hx, hix⟩⟩
  obtain ⟨g1, g2⟩ := give_congrL (m := m) (m2 := m2) (cargs.toList.map ρ ++ caps) (fun i hi => ⟨a1 (by rw [hfp]) i (hrefs i hi), a2 (by rw [hfp]) i (hrefs i hi)⟩)
  refine ⟨m2, .inr ⟨_, g, _, ho, hc, g2 hg, by rw [g1]; exact hp, rfl⟩, fun i => ⟨fun h => absurd h (W1 i), fun _ => rfl⟩, fun i => ⟨fun h => absurd h (W2 i), fun _ => rfl⟩, fun i => ⟨fun h => absurd h (W3 i), fun _ => rfl⟩, ⟨fun h => (by rw [hfp] at h; cases h), fun _ => rfl⟩, rfl⟩

theorem foot_load {o : Oper} {ρ : Operand → PV} {m : Hp} {t : TypeId} {x : Operand} (ho : o.op = .load t x) (hok : (aop P o ρ m).ok) : Foot P o ρ m (aop P o ρ m).v (aop P o ρ m).m := by
  have hfp : fp o.op = { rh := true } := by rw [ho]; rfl
  have W1 : ∀ i, ¬ Wh o ρ i := fun i => by simp [Wh, hfp]
  have W2 : ∀ i, ¬ Wz o ρ i := fun i => by simp [Wz, hfp]
  have W3 : ∀ i, ¬ Wq o ρ i := fun i => by simp [Wq, hfp]
  have hop : ∀ m, aop P o ρ m = if tkn P t then aLoad P t (ρ x) m else .fail := fun m => by unfold aop; rw [ho]
  have hrefs : ∀ i, .b i ∈ (ρ x).ids → .b i ∈ refsOf o ρ := fun i hi => by
    unfold refsOf; rw [ho]; exact List.mem_flatMap.2 ⟨x, by simp [Op.operands], hi⟩
  have key : ∀ m2 : Hp, (∀ i, .b i ∈ (ρ x).ids → m2.h i = m.h i) → (aop P o ρ m).m = m ∧ (aop P o ρ m2).ok ∧ (aop P o ρ m2).v = (aop P o ρ m).v ∧ (aop P o ρ m2).m = m2 := by
    intro m2 h2
    rw [hop] at hok ⊢
    rw [hop]
    split at hok
    · rename_i hk
      simp only [hk, if_true]
      revert hok
      unfold aLoad
      cases hx : ρ x with
      | rptr cs => exact fun h => ⟨rfl, h, rfl, rfl⟩
      | ptr id off =>
        have := h2 id (by rw [hx]; simp [PV.ids])
        simp only [this]
        cases m.h id with
        | none => exact fun h => h.elim
        | some cs => exact fun h => ⟨rfl, h, rfl, rfl⟩
      | _ => exact fun h => h.elim
    · exact hok.elim
  obtain ⟨e, _⟩ := key m (fun _ _ => rfl)
  rw [e]
  refine ⟨fun _ _ => rfl, fun _ _ => rfl, fun _ _ => rfl, fun h => (by rw [hfp] at h; cases h), fun h => (by rw [hfp] at h; cases h), fun _ h => h, fun _ h => h, fun _ => rfl, rfl, fun m2 a1 _ _ _ _ _ _ => ?_⟩
  obtain ⟨_, g1, g2, g3⟩ := key m2 (fun i hi => a1 (by rw [hfp]) i (hrefs i hi))
  exact ⟨m2, .inl ⟨g1, g2.symm, g3.symm⟩, fun i => ⟨fun h => absurd h (W1 i), fun _ => rfl⟩, fun i => ⟨fun h => absurd h (W2 i), fun _ => rfl⟩, fun i => ⟨fun h => absurd h (W3 i), fun _ => rfl⟩, ⟨fun h => (by rw [hfp] at h; cases h), fun _ => rfl⟩, rfl⟩

theorem foot_conv {o : Oper} {ρ : Operand → PV} {m : Hp} {t u : TypeId} {x : Operand} (ho : o.op = .convert t u x) (hok : (aop P o ρ m).ok) : Foot P o ρ m (aop P o ρ m).v (aop P o ρ m).m := by
  have hfp : fp o.op = { rh := true } := by rw [ho]; rfl
  have W1 : ∀ i, ¬ Wh o ρ i := fun i => by simp [Wh, hfp]
  have W2 : ∀ i, ¬ Wz o ρ i := fun i => by simp [Wz, hfp]
  have W3 : ∀ i, ¬ Wq o ρ i := fun i => by simp [Wq, hfp]
  have hop : ∀ m, aop P o ρ m = aConv P t u (ρ x) m := fun m => by unfold aop; rw [ho]
  have hrefs : ∀ i, .b i ∈ (ρ x).ids → .b i ∈ refsOf o ρ := fun i hi => by
    unfold refsOf; rw [ho]; exact List.mem_flatMap.2 ⟨x, by simp [Op.operands], hi⟩
  have e : (aop P o ρ m).m = m := by rw [hop] at hok ⊢; exact conv_m hok
  rw [e]
  refine ⟨fun _ _ => rfl, fun _ _ => rfl, fun _ _ => rfl, fun h => (by rw [hfp] at h; cases h), fun h => (by rw [hfp] at h; cases h), fun _ h => h, fun _ h => h, fun _ => rfl, rfl, fun m2 a1 _ _ _ _ _ _ => ?_⟩
  have hok' : (aConv P t u (ρ x) m).ok := by rw [← hop]; exact hok
  obtain ⟨g1, g2, g3⟩ := conv_congr (m2 := m2) (fun i hi => a1 (by rw [hfp]) i (hrefs i hi)) hok'
  exact ⟨m2, .inl ⟨by rw [hop]; exact g1, by rw [hop, hop]; exact g2.symm, by rw [hop]; exact g3.symm⟩, fun i => ⟨fun h => absurd h (W1 i), fun _ => rfl⟩, fun i => ⟨fun h => absurd h (W2 i), fun _ => rfl⟩, fun i => ⟨fun h => absurd h (W3 i), fun _ => rfl⟩, ⟨fun h => (by rw [hfp] at h; cases h), fun _ => rfl⟩, rfl⟩

theorem foot_store {o : Oper} {ρ : Operand → PV} {m : Hp} {t : TypeId} {x y : Operand} (ho : o.op = .store t x y) (hok : (aop P o ρ m).ok) : Foot P o ρ m (aop P o ρ m).v (aop P o ρ m).m := by
  have hfp : fp o.op = { rh := true, rz := true, wh := true } := by rw [ho]; rfl
  have W2 : ∀ i, ¬ Wz o ρ i := fun i => by simp [Wz, hfp]
  have W3 : ∀ i, ¬ Wq o ρ i := fun i => by simp [Wq, hfp]
  have hop : ∀ m, aop P o ρ m = if tkn P t then aStore P t (ρ x) (ρ y) m else .fail := fun m => by unfold aop; rw [ho]
  have hrefs : ∀ i, .b i ∈ (ρ x).ids → .b i ∈ refsOf o ρ := fun i hi => by
    unfold refsOf; rw [ho]; exact List.mem_flatMap.2 ⟨x, by simp [Op.operands], hi⟩
  have W1 : ∀ i, Wh o ρ i ↔ .b i ∈ refsOf o ρ := fun i => by simp [Wh, hfp]
  rw [hop] at hok ⊢
  split at hok
  · rename_i hk
    simp only [hk, if_true]
    revert hok
    unfold aStore
    cases hx : ρ x with
    | ptr id off =>
      simp only
      cases hid : m.h id with
      | none => exact fun h => h.elim
      | some cs =>
        rintro ⟨g0, g1, g2, g3, g4⟩
        have hin : .b id ∈ refsOf o ρ := hrefs id (by rw [hx]; simp [PV.ids])
        have n1 : ∀ (m : Hp) i, i ≠ id → (upd m.h id (some (splice cs off (ρ y).cells))) i = m.h i := fun m i h => upd_ne _ _ (Ne.symm h)
        refine ⟨fun i h => n1 m i (fun e => h ((W1 i).2 (e ▸ hin))), fun _ _ => rfl, fun _ _ => rfl, fun h => (by rw [hfp] at h; cases h), fun h => (by rw [hfp] at h; cases h), fun i h => ?_, fun _ h => h, fun _ => rfl, rfl, fun m2 a1 a2 _ _ _ _ _ => ?_⟩
        · show upd m.h id _ i ≠ none
          by_cases e : i = id
          · subst e; rw [upd_same]; simp
          · rw [n1 m i e]; exact h
        · have hid2 := (a1 (by rw [hfp]) id hin).trans hid
          have hz2 := (a2 (by rw [hfp]) id hin).trans g0
          refine ⟨{ m2 with h := upd m2.h id (some (splice cs off (ρ y).cells)) }, .inl ?_, fun i => ⟨fun h => ?_, fun h => n1 m2 i (fun e => h ((W1 i).2 (e ▸ hin)))⟩, fun i => ⟨fun h => absurd h (W2 i), fun _ => rfl⟩, fun i => ⟨fun h => absurd h (W3 i), fun _ => rfl⟩, ⟨fun h => (by rw [hfp] at h; cases h), fun _ => rfl⟩, rfl⟩
          · rw [hop]
            simp only [hk, if_true, aStore, hx, hid2]
            exact ⟨⟨hz2, g1, g2, g3, g4⟩, trivial, trivial⟩
          · show upd m2.h id _ i = upd m.h id _ i
            by_cases e : i = id
            · subst e; rw [upd_same, upd_same]
            · rw [n1 m2 i e, n1 m i e]; exact a1 (by rw [hfp]) i ((W1 i).1 h)
    | _ => exact fun h => h.elim
  · exact hok.elim

theorem frozenBy_o (m : Hp) : ∀ cs, (frozenBy m cs).o = m.o
  | [] => rfl
  | c :: cs => by
    cases c <;> first | exact frozenBy_o m cs | exact frozenBy_o (m.freeze _) cs
theorem frozenBy_it (m : Hp) : ∀ cs, (frozenBy m cs).it = m.it
  | [] => rfl
  | c :: cs => by
    cases c <;> first | exact frozenBy_it m cs | exact frozenBy_it (m.freeze _) cs
theorem frozenBy_z1 (m : Hp) : ∀ (cs : List PV) (i : Nat), m.z i = true → (frozenBy m cs).z i = true
  | [], i, h => h
  | c :: cs, i, h => by
    cases c with
    | ptr id off =>
      refine frozenBy_z1 (m.freeze id) cs i ?_
      show upd m.z id true i = true
      by_cases e : id = i
      · subst e; exact upd_same _ _ _
      · rw [upd_ne _ _ e]; exact h
    | _ => exact frozenBy_z1 m cs i h
theorem frozenBy_z2 (m : Hp) : ∀ (cs : List PV) (i off : Nat), PV.ptr i off ∈ cs → (frozenBy m cs).z i = true
  | [], i, off, h => by cases h
  | c :: cs, i, off, h => by
    rcases List.mem_cons.1 h with rfl | h'
    · exact frozenBy_z1 (m.freeze i) cs i (upd_same _ _ _)
    · cases c with
      | ptr id o => exact frozenBy_z2 (m.freeze id) cs i off h'
      | _ => exact frozenBy_z2 m cs i off h'
theorem frozenBy_z3 (m : Hp) : ∀ (cs : List PV) (i : Nat), (∀ off, PV.ptr i off ∉ cs) → (frozenBy m cs).z i = m.z i
  | [], i, h => rfl
  | c :: cs, i, h => by
    have ih := fun m => frozenBy_z3 m cs i (fun off ho => h off (by simp [ho]))
    cases c with
    | ptr id o =>
      refine (ih (m.freeze id)).trans (upd_ne _ _ fun e => ?_)
      subst e
      exact h o (by simp)
    | _ => exact ih m

theorem capsOk_congr {m m2 : Hp} : ∀ (cs : List PV), (∀ i, .b i ∈ PV.idsL cs → m2.h i = m.h i) → capsOk m cs → capsOk m2 cs
  | [], _, _ => trivial
  | c :: cs, h, hk => by
    have ih := capsOk_congr (m := m) (m2 := m2) cs (fun i hi => h i (by simp [PV.idsL, hi]))
    cases c with
    | ptr id off =>
      obtain ⟨h1, h2⟩ := hk
      refine ⟨?_, ih h2⟩
      rw [h id (by simp [PV.idsL, PV.ids])]
      exact h1
    | _ => exact ⟨hk.1, ih hk.2⟩

theorem capsOk_refs {m : Hp} : ∀ {cs : List PV}, capsOk m cs → ∀ i, .b i ∈ PV.idsL cs → ∃ off, PV.ptr i off ∈ cs
  | [], _, i, hi => by simp [PV.idsL] at hi
  | c :: cs, hk, i, hi => by
    simp only [PV.idsL, List.mem_append] at hi
    rcases hi with hi | hi
    · cases c with
      | ptr id off => simp [PV.ids] at hi; subst hi; exact ⟨off, by simp⟩
      | _ => obtain ⟨h1, _⟩ := hk; rw [h1] at hi; cases hi
    · have hk2 : capsOk m cs := by cases c <;> exact hk.2
      obtain ⟨off, ho⟩ := capsOk_refs hk2 i hi
      exact ⟨off, by simp [ho]⟩

theorem foot_makeFunc {o : Oper} {ρ : Operand → PV} {m : Hp} {f : FuncId} {first caps : Array Operand} (ho : o.op = .makeFunc (.func f) first caps) (hok : (aop P o ρ m).ok) : Foot P o ρ m (aop P o ρ m).v (aop P o ρ m).m := by
  have hop : ∀ m, aop P o ρ m = if first.isEmpty then ⟨capsOk m (caps.toList.map ρ), .fn f (caps.toList.map ρ), frozenBy m (caps.toList.map ρ)⟩ else .fail := fun m => by unfold aop; rw [ho]
  rw [hop] at hok ⊢
  split at hok
  · rename_i hfe
    simp only [hfe, if_true]
    simp only at hok
    by_cases hce : caps.isEmpty = true
    · have hc0 : caps = #[] := by simpa using hce
      subst hc0
      have hfp : fp o.op = {} := by rw [ho]; rfl
      have W1 : ∀ i, ¬ Wh o ρ i := fun i => by simp [Wh, hfp]
      have W2 : ∀ i, ¬ Wz o ρ i := fun i => by simp [Wz, hfp]
      have W3 : ∀ i, ¬ Wq o ρ i := fun i => by simp [Wq, hfp]
      refine ⟨fun _ _ => rfl, fun _ _ => rfl, fun _ _ => rfl, fun h => (by rw [hfp] at h; cases h), fun h => (by rw [hfp] at h; cases h), fun _ h => h, fun _ h => h, fun _ => rfl, rfl, fun m2 _ _ _ _ _ _ _ => ?_⟩
      refine ⟨m2, .inl ?_, fun i => ⟨fun h => absurd h (W1 i), fun _ => rfl⟩, fun i => ⟨fun h => absurd h (W2 i), fun _ => rfl⟩, fun i => ⟨fun h => absurd h (W3 i), fun _ => rfl⟩, ⟨fun h => (by rw [hfp] at h; cases h), fun _ => rfl⟩, rfl⟩
      rw [hop]
      simp only [hfe, if_true]
      exact ⟨trivial, trivial, rfl⟩
    · have hfp : fp o.op = { rh := true, wz := true } := by rw [ho]; simp [fp, hce]
      have hrefs : ∀ i, .b i ∈ PV.idsL (caps.toList.map ρ) ↔ .b i ∈ refsOf o ρ := fun i => by
        unfold refsOf
        rw [ho]
        have hf0 : first = #[] := by simpa using hfe
        subst hf0
        constructor
        · intro hi
          obtain ⟨x, hx, hix⟩ := PV.mem_idsL.1 hi
          obtain ⟨y, hy, rfl⟩ := List.mem_map.1 hx
          exact List.mem_flatMap.2 ⟨y, by simpa [Op.operands] using hy, hix⟩
        · intro hi
          obtain ⟨y, hy, hiy⟩ := List.mem_flatMap.1 hi
          exact PV.mem_idsL.2 ⟨ρ y, List.mem_map.2 ⟨y, by simpa [Op.operands] using hy, rfl⟩, hiy⟩
      have W1 : ∀ i, ¬ Wh o ρ i := fun i => by simp [Wh, hfp]
      have W2 : ∀ i, Wz o ρ i ↔ .b i ∈ refsOf o ρ := fun i => by simp [Wz, hfp]
      have W3 : ∀ i, ¬ Wq o ρ i := fun i => by simp [Wq, hfp]
      have zz : ∀ (m : Hp) i, (.b i ∈ refsOf o ρ → (frozenBy m (caps.toList.map ρ)).z i = true) ∧ (.b i ∉ refsOf o ρ → (frozenBy m (caps.toList.map ρ)).z i = m.z i) := fun m' i => by
        constructor
        · intro hi
          obtain ⟨off, ho'⟩ := capsOk_refs hok i ((hrefs i).2 hi)
          exact frozenBy_z2 m' _ i off ho'
        · intro hi
          exact frozenBy_z3 m' _ i (fun off ho' => hi ((hrefs i).1 (PV.mem_idsL.2 ⟨_, ho', by simp [PV.ids]⟩)))
      refine ⟨fun i _ => by rw [frozenBy_h], fun i h => (zz m i).2 (fun hh => h ((W2 i).2 hh)), fun i _ => by rw [frozenBy_q], fun h => (by rw [hfp] at h; cases h), fun h => (by rw [hfp] at h; cases h), fun i h => by rw [frozenBy_h]; exact h, fun i h => by rw [frozenBy_q]; exact h, fun _ => frozenBy_o m _, frozenBy_it m _, fun m2 a1 _ _ _ _ _ _ => ?_⟩
      refine ⟨frozenBy m2 (caps.toList.map ρ), .inl ?_, fun i => ⟨fun h => absurd h (W1 i), fun _ => by rw [frozenBy_h]⟩, fun i => ⟨fun h => ?_, fun h => (zz m2 i).2 (fun hh => h ((W2 i).2 hh))⟩, fun i => ⟨fun h => absurd h (W3 i), fun _ => by rw [frozenBy_q]⟩, ⟨fun h => (by rw [hfp] at h; cases h), fun _ => frozenBy_o m2 _⟩, frozenBy_it m2 _⟩
      · rw [hop]
        simp only [hfe, if_true]
        exact ⟨capsOk_congr _ (fun i hi => a1 (by rw [hfp]) i ((hrefs i).1 hi)) hok, trivial, trivial⟩
      · rw [(zz m2 i).1 ((W2 i).1 h), (zz m i).1 ((W2 i).1 h)]
  · exact hok.elim

end
end Go.PL

namespace Go.PL
open Go.RowKit
set_option linter.unusedVariables false
section
variable {P : Program}

theorem foot_append {o : Oper} {ρ : Operand → PV} {m : Hp} {args : Array Operand} {ts : Array TypeId} (ho : o.op = .call ⟨.builtin .append, args, ts⟩) (hok : (aop P o ρ m).ok) : Foot P o ρ m (aop P o ρ m).v (aop P o ρ m).m := by
  have hfp : fp o.op = { rq := true, wq := true } := by rw [ho]; rfl
  have W1 : ∀ i, ¬ Wh o ρ i := fun i => by simp [Wh, hfp]
  have W2 : ∀ i, ¬ Wz o ρ i := fun i => by simp [Wz, hfp]
  have W3 : ∀ i, Wq o ρ i ↔ (.r i ∈ refsOf o ρ ∨ o.dst = some i) := fun i => by simp [Wq, hfp]
  have hop : ∀ m, aop P o ρ m = aBuiltin P .append ts.toList o.dst (args.toList.map ρ) m := fun m => by unfold aop; rw [ho]
  rw [hop] at hok ⊢
  have refs : ∀ x ∈ args.toList, ∀ i, .r i ∈ (ρ x).ids → .r i ∈ refsOf o ρ := fun x hx i hi => by
    unfold refsOf; rw [ho]; exact List.mem_flatMap.2 ⟨x, by simpa [Op.operands, Call.operands] using hx, hi⟩
  -- what is done: rows named in a list are laid anew
  have fin : ∀ {v : PV} {L : List (Nat × Row)} {ok : Hp → Prop}, (∀ x ∈ L, .r x.1 ∈ refsOf o ρ ∨ o.dst = some x.1) → (∀ m2 : Hp, (∀ i, (.r i ∈ refsOf o ρ ∨ o.dst = some i) → m2.q i = m.q i) → aop P o ρ m2 = ⟨ok m2, v, L.foldl (fun m x => m.setq x.1 x.2) m2⟩ ∧ (ok m → ok m2)) → ok m →
      Foot P o ρ m v (L.foldl (fun m x => m.setq x.1 x.2) m) := by
    intro v L ok hL hst hk
    have hh : ∀ (L : List (Nat × Row)) (m : Hp), (L.foldl (fun m x => m.setq x.1 x.2) m).h = m.h ∧ (L.foldl (fun m x => m.setq x.1 x.2) m).z = m.z := by
      intro L
      induction L with
      | nil => intro m; exact ⟨rfl, rfl⟩
      | cons x L ih => intro m; exact ⟨(ih _).1, (ih _).2⟩
    have ho : ∀ (L : List (Nat × Row)) (m : Hp), (L.foldl (fun m x => m.setq x.1 x.2) m).o = m.o ∧ (L.foldl (fun m x => m.setq x.1 x.2) m).it = m.it := by
      intro L
      induction L with
      | nil => intro m; exact ⟨rfl, rfl⟩
      | cons x L ih => intro m; exact ⟨(ih _).1, (ih _).2⟩
    have qq : ∀ (L : List (Nat × Row)) (m : Hp) (i : Nat), (∀ x ∈ L, x.1 ≠ i) → (L.foldl (fun m x => m.setq x.1 x.2) m).q i = m.q i := by
      intro L
      induction L with
      | nil => intro m i _; rfl
      | cons x L ih =>
        intro m i h
        refine (ih (m.setq x.1 x.2) i (fun y hy => h y (by simp [hy]))).trans ?_
        exact upd_ne _ _ (h x (by simp))
    have qsame : ∀ (L : List (Nat × Row)) (m m2 : Hp) (i : Nat), m2.q i = m.q i → (L.foldl (fun m x => m.setq x.1 x.2) m2).q i = (L.foldl (fun m x => m.setq x.1 x.2) m).q i := by
      intro L
      induction L with
      | nil => intro m m2 i h; exact h
      | cons x L ih =>
        intro m m2 i h
        refine ih (m.setq x.1 x.2) (m2.setq x.1 x.2) i ?_
        show upd m2.q x.1 _ i = upd m.q x.1 _ i
        by_cases e : x.1 = i
        · subst e; rw [upd_same, upd_same]
        · rw [upd_ne _ _ e, upd_ne _ _ e]; exact h
    have qlive : ∀ (L : List (Nat × Row)) (m : Hp) (i : Nat), m.q i ≠ none → (L.foldl (fun m x => m.setq x.1 x.2) m).q i ≠ none := by
      intro L
      induction L with
      | nil => intro m i h; exact h
      | cons x L ih =>
        intro m i h
        refine ih (m.setq x.1 x.2) i ?_
        show upd m.q x.1 _ i ≠ none
        by_cases e : x.1 = i
        · subst e; rw [upd_same]; simp
        · rw [upd_ne _ _ e]; exact h
    refine ⟨fun i _ => by rw [(hh L m).1], fun i _ => by rw [(hh L m).2], fun i h => qq L m i (fun x hx e => h ((W3 i).2 (e ▸ hL x hx))), fun h => (by rw [hfp] at h; cases h), fun h => (by rw [hfp] at h; cases h), fun i h => by rw [(hh L m).1]; exact h, fun i h => qlive L m i h, fun _ => (ho L m).1, (ho L m).2, fun m2 _ _ a3 _ _ _ _ => ?_⟩
    have hag : ∀ i, (.r i ∈ refsOf o ρ ∨ o.dst = some i) → m2.q i = m.q i := a3 (by rw [hfp])
    obtain ⟨e, hk2⟩ := hst m2 hag
    refine ⟨L.foldl (fun m x => m.setq x.1 x.2) m2, .inl ?_, fun i => ⟨fun h => absurd h (W1 i), fun _ => by rw [(hh L m2).1]⟩, fun i => ⟨fun h => absurd h (W2 i), fun _ => by rw [(hh L m2).2]⟩, fun i => ⟨fun h => qsame L m m2 i (hag i ((W3 i).1 h)), fun h => qq L m2 i (fun x hx e => h ((W3 i).2 (e ▸ hL x hx)))⟩, ⟨fun h => (by rw [hfp] at h; cases h), fun _ => (ho L m2).1⟩, (ho L m2).2⟩
    rw [e]
    exact ⟨hk2 hk, rfl, rfl⟩
  revert hok
  match hts : ts.toList, has : args.toList with
  | [t, tx], [x, y] =>
    simp only [List.map_cons, List.map_nil, aBuiltin]
    cases hd : o.dst with
    | none => exact fun h => h.elim
    | some d =>
      have hop' : ∀ m2, aop P o ρ m2 = aAppend P d t tx (ρ x) (ρ y) m2 := fun m2 => by
        rw [hop, hts, has, hd]
        rfl
      simp only
      unfold aAppend
      unfold aAppend at hop'
      have hxr : ∀ i, .r i ∈ (ρ x).ids → .r i ∈ refsOf o ρ := refs x (by rw [has]; simp)
      split
      · rename_i ei ys es h1 h2 h3
        intro hok
        exact fin (L := [(d, _)]) (ok := fun m2 => m2.q d = none ∧ Sized ei.size ys ∧ Atoms ys ∧ Room ys.length ei.bytes) (by intro z hz; simp at hz; subst hz; exact .inr hd)
          (fun m2 hag => ⟨by rw [hop']; simp only [h1, h2, h3]; rfl, fun hk => ⟨by rw [hag d (.inr hd)]; exact hk.1, hk.2⟩⟩) hok
      · rename_i ei ys id es h1 h2 h3
        have hin : .r id ∈ refsOf o ρ := hxr id (by rw [h3]; simp [PV.ids])
        cases hq : m.q id with
        | none => exact fun h => h.elim
        | some r =>
          cases r with
          | dead => exact fun h => h.elim
          | live n sz e =>
            simp only
            intro hok
            by_cases hdi : d = id
            · subst hdi
              simp only [if_true]
              exact fin (L := [(d, _)]) (ok := fun m2 => n = es.length ∧ sz = ei.size ∧ e = ei.e ∧ (d = d ∨ m2.q d = none) ∧ Sized ei.size es ∧ Sized ei.size ys ∧ Atoms ys ∧ Room (es.length + ys.length) ei.bytes) (by intro z hz; simp at hz; subst hz; exact .inr hd)
                (fun m2 hag => ⟨by rw [hop']; simp only [h1, h2, h3, hag d (.inr hd), hq, if_true]; rfl, fun hk => ⟨hk.1, hk.2.1, hk.2.2.1, .inl rfl, hk.2.2.2.2⟩⟩) hok
            · simp only [if_neg hdi]
              exact fin (L := [(id, .dead), (d, _)]) (ok := fun m2 => n = es.length ∧ sz = ei.size ∧ e = ei.e ∧ (d = id ∨ m2.q d = none) ∧ Sized ei.size es ∧ Sized ei.size ys ∧ Atoms ys ∧ Room (es.length + ys.length) ei.bytes)
                (by intro z hz; simp at hz; rcases hz with rfl | rfl; exact .inl hin; exact .inr hd)
                (fun m2 hag => ⟨by rw [hop']; simp only [h1, h2, h3, hag id (.inl hin), hq, if_neg hdi]; rfl, fun hk => ⟨hk.1, hk.2.1, hk.2.2.1, hk.2.2.2.1.imp (fun h => h) (fun h => by rw [hag d (.inr hd)]; exact h), hk.2.2.2.2⟩⟩) hok
      · exact fun h => h.elim
  | [], _ => exact fun h => h.elim
  | [_], _ => simp only [aBuiltin]; exact fun h => h.elim
  | _ :: _ :: _ :: _, _ => simp only [aBuiltin]; exact fun h => h.elim
  | [_, _], [] => exact fun h => h.elim
  | [_, _], [_] => simp only [List.map_cons, List.map_nil, aBuiltin]; exact fun h => h.elim
  | [_, _], _ :: _ :: _ :: _ => simp only [List.map_cons, aBuiltin]; exact fun h => h.elim

/-- an operation that looks into maps, or writes one -/
theorem foot_map {o : Oper} {ρ : Operand → PV} {m : Hp} {wo : Bool} (hfp : fp o.op = { ro := true, wo := wo }) (h1 : ∀ m : Hp, (aop P o ρ m).ok → (aop P o ρ m).m = { m with o := (aop P o ρ m).m.o } ∧ (wo = false → (aop P o ρ m).m.o = m.o))
    (h2 : ∀ m2 : Hp, m2.o = m.o → m2.it = m.it → (aop P o ρ m).ok → (aop P o ρ m2).ok ∧ (aop P o ρ m2).v = (aop P o ρ m).v ∧ (aop P o ρ m2).m.o = (aop P o ρ m).m.o) (hok : (aop P o ρ m).ok) : Foot P o ρ m (aop P o ρ m).v (aop P o ρ m).m := by
  have W1 : ∀ i, ¬ Wh o ρ i := fun i => by simp [Wh, hfp]
  have W2 : ∀ i, ¬ Wz o ρ i := fun i => by simp [Wz, hfp]
  have W3 : ∀ i, ¬ Wq o ρ i := fun i => by simp [Wq, hfp]
  obtain ⟨e, e'⟩ := h1 m hok
  refine ⟨fun i _ => by rw [e], fun i _ => by rw [e], fun i _ => by rw [e], fun h => (by rw [hfp] at h; cases h), fun h => (by rw [hfp] at h; cases h), fun i h => by rw [e]; exact h, fun i h => by rw [e]; exact h,
    fun h => e' (by rw [hfp] at h; exact h), by rw [e], fun m2 _ _ _ _ _ a1 a2 => ?_⟩
  obtain ⟨g1, g2, g3⟩ := h2 m2 (a1 (by rw [hfp])) a2 hok
  obtain ⟨k, k'⟩ := h1 m2 g1
  exact ⟨(aop P o ρ m2).m, .inl ⟨g1, g2.symm, rfl⟩, fun i => ⟨fun h => absurd h (W1 i), fun _ => by rw [k]⟩, fun i => ⟨fun h => absurd h (W2 i), fun _ => by rw [k]⟩, fun i => ⟨fun h => absurd h (W3 i), fun _ => by rw [k]⟩, ⟨fun _ => g3, fun h => k' (by rw [hfp] at h; exact h)⟩, by rw [k]⟩
theorem mapOf_congr {m m2 : Hp} (h : m2.o = m.o) (x : PV) : mapOf m2 x = mapOf m x := by cases x <;> simp [mapOf, h]
theorem lookup_facts {t : TypeId} {x k : PV} {ok : Bool} (m m2 : Hp) (h : m2.o = m.o) : (aLookup P t x k ok m).ok → (aLookup P t x k ok m).m = m ∧ (aLookup P t x k ok m2).ok ∧ (aLookup P t x k ok m2).v = (aLookup P t x k ok m).v ∧ (aLookup P t x k ok m2).m = m2 := by
  unfold aLookup
  rw [mapOf_congr h]
  split
  · split
    · exact fun hk => ⟨rfl, hk, rfl, rfl⟩
    · exact fun hk => hk.elim
  · exact fun hk => hk.elim
theorem mapLen_facts {t : TypeId} {x : PV} (m m2 : Hp) (h : m2.o = m.o) : (aMapLen P t x m).ok → (aMapLen P t x m).m = m ∧ (aMapLen P t x m2).ok ∧ (aMapLen P t x m2).v = (aMapLen P t x m).v ∧ (aMapLen P t x m2).m = m2 := by
  unfold aMapLen
  rw [mapOf_congr h]
  split
  · exact fun hk => ⟨rfl, hk, rfl, rfl⟩
  · exact fun hk => hk.elim
theorem entry_facts {x : PV} (m m2 : Hp) (h : m2.o = m.o) (h' : m2.it = m.it) : (aEntry x m).ok → (aEntry x m).m = m ∧ (aEntry x m2).ok ∧ (aEntry x m2).v = (aEntry x m).v ∧ (aEntry x m2).m = m2 := by
  unfold aEntry
  rw [h, h']
  split
  · split
    · split
      · exact fun hk => ⟨rfl, hk, rfl, rfl⟩
      · exact fun hk => hk.elim
    · exact fun hk => hk.elim
  · exact fun hk => hk.elim
theorem update_facts {t : TypeId} {x k v : PV} (m m2 : Hp) (h : m2.o = m.o) : (aMapUpdate P t x k v m).ok → (aMapUpdate P t x k v m).m = { m with o := (aMapUpdate P t x k v m).m.o } ∧ (aMapUpdate P t x k v m2).ok ∧ (aMapUpdate P t x k v m2).v = (aMapUpdate P t x k v m).v ∧ (aMapUpdate P t x k v m2).m.o = (aMapUpdate P t x k v m).m.o := by
  unfold aMapUpdate
  rw [h]
  split
  · split
    · split
      · exact fun hk => ⟨rfl, hk, rfl, rfl⟩
      · exact fun hk => ⟨rfl, hk, rfl, rfl⟩
      · exact fun hk => hk.elim
    · exact fun hk => hk.elim
  · exact fun hk => hk.elim

theorem foot_aop {o : Oper} {ρ : Operand → PV} {m : Hp} (hok : (aop P o ρ m).ok) : Foot P o ρ m (aop P o ρ m).v (aop P o ρ m).m := by
  have nm : NoMem (aop P o ρ) → fp o.op = {} → Foot P o ρ m (aop P o ρ m).v (aop P o ρ m).m := fun h hf => Foot.noMem h (by rw [hf]) (by rw [hf]) (by rw [hf]) (by rw [hf]) (by rw [hf]) (by rw [hf]) hok
  obtain ⟨dst, op, ty, pos, af, guard⟩ := o
  cases op with
  | move x => exact nm (noMem_const) rfl
  | assign x => exact nm (noMem_const) rfl
  | pick c x y => exact nm (noMem_pick) rfl
  | alloc t =>
    cases dst with
    | none => exact hok.elim
    | some d =>
      cases hz : tzero P t with
      | none => simp only [aop, hz] at hok; exact hok.elim
      | some z => exact Foot.newB (d := d) (v := .ptr d 0) (cs := z) (ok := True) rfl (fun m => by simp only [aop, hz, and_true]) rfl hok
  | box t x =>
    cases dst with
    | none => exact hok.elim
    | some d => exact Foot.newB (d := d) rfl (fun m => rfl) rfl hok
  | build t parts => exact nm (noMem_build) rfl
  | buildSlice t len parts =>
    cases dst with
    | none => exact hok.elim
    | some d =>
      cases he : telem P t with
      | none => simp only [aop, aBuildSlice, he] at hok; exact hok.elim
      | some ei => exact Foot.newQ (d := d) rfl (fun m => by simp only [aop, aBuildSlice, he]; rfl) rfl hok
  | load t x => exact foot_load rfl hok
  | store t x y => exact foot_store rfl hok
  | nilCheck x => exact nm (noMem_nilCheck) rfl
  | binOp op t x y yt => exact nm (noMem_bin) rfl
  | unOp op t x => exact nm (noMem_un) rfl
  | convert a b x => exact foot_conv rfl hok
  | makeFunc fn first caps =>
    cases fn with
    | func f => exact foot_makeFunc rfl hok
    | _ => exact hok.elim
  | makeSlice t l c =>
    cases dst with
    | none => exact hok.elim
    | some d =>
      by_cases hl : ∃ k, l = .const (.int k 0)
      · obtain ⟨k, rfl⟩ := hl
        have hop : ∀ m, aop P ⟨some d, .makeSlice t (.const (.int k 0)) c, ty, pos, af, guard⟩ ρ m = aMakeRow P d t (ρ c) m := fun m => rfl
        rw [hop] at hok
        unfold aMakeRow at hok
        split at hok
        · rename_i ei kc n h1 h2
          exact Foot.newQ (d := d) rfl (fun m => by rw [hop]; simp only [aMakeRow, h1, h2]; rfl) rfl (by rw [hop]; unfold aMakeRow; rw [h1, h2]; exact hok)
        · exact hok.elim
      · have hop : ∀ m, aop P ⟨some d, .makeSlice t l c, ty, pos, af, guard⟩ ρ m = aMakeFull P d t (ρ l) (ρ c) m := fun m => by
          unfold aop
          simp only
          split
          · rename_i k; exact absurd ⟨k, rfl⟩ hl
          · rfl
        have hfp : fp (.makeSlice t l c) = { nb := true } := by
          unfold fp
          simp only
          split
          · rename_i k; exact absurd ⟨k, rfl⟩ hl
          · rfl
        rw [hop] at hok
        unfold aMakeFull at hok
        split at hok
        · rename_i ei kl n kc n' h1 h2 h3
          split at hok
          · rename_i z hz
            exact Foot.newB (d := d) rfl (fun m => by rw [hop]; simp only [aMakeFull, h1, h2, h3, hz]; rfl) hfp (by rw [hop]; unfold aMakeFull; rw [h1, h2, h3]; simp only [hz]; exact hok)
          · exact hok.elim
        · exact hok.elim
  | slice t x lo hi mx =>
    refine nm (fun m m2 h => ?_) rfl
    revert h
    unfold aop
    simp only
    split
    · exact noMem_slice m m2
    · exact noMem_fail m m2
  | fieldAddr t x f => exact nm (noMem_fieldAddr) rfl
  | field t x f => exact nm (noMem_field) rfl
  | indexAddr t x i => exact nm (noMem_indexAddr) rfl
  | index t x i => exact nm (noMem_index) rfl
  | extract x i => exact nm (noMem_extract) rfl
  | lookup t x k ok =>
    have hop : ∀ m, aop P ⟨dst, .lookup t x k ok, ty, pos, af, guard⟩ ρ m = aLookup P t (ρ x) (ρ k) ok m := fun m => rfl
    refine foot_map (wo := false) rfl (fun m h => ?_) (fun m2 h1 h2 h => ?_) hok
    · rw [hop] at h ⊢
      have := (lookup_facts m m rfl h).1
      exact ⟨by rw [this], fun _ => by rw [this]⟩
    · rw [hop] at h ⊢
      rw [hop]
      obtain ⟨a1, a2, a3, a4⟩ := lookup_facts _ m2 h1 h
      exact ⟨a2, a3, by rw [a4, a1]; exact h1⟩
  | entry x =>
    have hop : ∀ m, aop P ⟨dst, .entry x, ty, pos, af, guard⟩ ρ m = aEntry (ρ x) m := fun m => rfl
    refine foot_map (wo := false) rfl (fun m h => ?_) (fun m2 h1 h2 h => ?_) hok
    · rw [hop] at h ⊢
      have := (entry_facts m m rfl rfl h).1
      exact ⟨by rw [this], fun _ => by rw [this]⟩
    · rw [hop] at h ⊢
      rw [hop]
      obtain ⟨a1, a2, a3, a4⟩ := entry_facts _ m2 h1 h2 h
      exact ⟨a2, a3, by rw [a4, a1]; exact h1⟩
  | mapUpdate t x k v =>
    exact foot_map (wo := true) rfl (fun m h => ⟨(update_facts m m rfl h).1, fun h => by cases h⟩) (fun m2 h1 h2 h => (update_facts _ m2 h1 h).2) hok
  | call c =>
    obtain ⟨callee, args, ts⟩ := c
    cases callee with
    | builtin b =>
      by_cases hb : b = .append
      · subst hb; exact foot_append rfl hok
      by_cases hb2 : b = .len
      · subst hb2
        have hop : ∀ m, aop P ⟨dst, .call ⟨.builtin .len, args, ts⟩, ty, pos, af, guard⟩ ρ m = aBuiltin P .len ts.toList dst (args.toList.map ρ) m := fun m => rfl
        have key : ∀ m m2 : Hp, m2.o = m.o → (aBuiltin P .len ts.toList dst (args.toList.map ρ) m).ok → (aBuiltin P .len ts.toList dst (args.toList.map ρ) m).m = m ∧ (aBuiltin P .len ts.toList dst (args.toList.map ρ) m2).ok ∧ (aBuiltin P .len ts.toList dst (args.toList.map ρ) m2).v = (aBuiltin P .len ts.toList dst (args.toList.map ρ) m).v ∧ (aBuiltin P .len ts.toList dst (args.toList.map ρ) m2).m = m2 := by
          intro m m2 h
          unfold aBuiltin
          split
          · split
            · exact mapLen_facts m m2 h
            · exact noMem_len m m2
          all_goals first | contradiction | exact noMem_fail m m2
        refine foot_map (wo := false) rfl (fun m h => ?_) (fun m2 h1 h2 h => ?_) hok
        · rw [hop] at h ⊢
          have := (key m m rfl h).1
          exact ⟨by rw [this], fun _ => by rw [this]⟩
        · rw [hop] at h ⊢
          rw [hop]
          obtain ⟨a1, a2, a3, a4⟩ := key m m2 h1 h
          exact ⟨a2, a3, by rw [a4, a1]; exact h1⟩
      · refine nm (fun m m2 h => ?_) (by cases b <;> first | rfl | exact absurd rfl hb | exact absurd rfl hb2)
        revert h
        show (aBuiltin P b ts.toList dst (args.toList.map ρ) m).ok → (aBuiltin P b ts.toList dst (args.toList.map ρ) m).m = m ∧ (aBuiltin P b ts.toList dst (args.toList.map ρ) m2).ok ∧ (aBuiltin P b ts.toList dst (args.toList.map ρ) m2).v = (aBuiltin P b ts.toList dst (args.toList.map ρ) m).v ∧ (aBuiltin P b ts.toList dst (args.toList.map ρ) m2).m = m2
        unfold aBuiltin
        split
        · exact absurd rfl hb2
        · exact absurd rfl hb
        · exact noMem_max m m2
        · exact noMem_min m m2
        · exact noMem_fail m m2
    | _ => exact hok.elim
  | _ => exact hok.elim

theorem foot_step {o : Oper} {ρ : Operand → PV} {m m' : Hp} {v : PV} (h : StepM P o ρ m v m') : Foot P o ρ m v m' := by
  rcases h with ⟨h1, rfl, rfl⟩ | ⟨c, g, args, ho, hc, hg, hp, rfl⟩
  · exact foot_aop h1
  · exact foot_call ho hc hg hp
end
end Go.PL
