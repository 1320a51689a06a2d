/- A logic of values for functions that only read and build, over the model (part 7): no statement of the seat is proved here. -/
import Derived.Test.YtmnibpgmcgdfpaaPlF
import Derived.Still
set_option linter.unusedSimpArgs false
set_option linter.unusedVariables false
namespace Go.PL
open Go.RowKit
set_option linter.unusedVariables false
section
variable {P : Program}

mutual
theorem give_congr {m m2 : Hp} : ∀ (p : PV), (∀ i, .b i ∈ p.ids → m2.h i = m.h i ∧ m2.z i = m.z i) → p.give m2 = p.give m ∧ (p.givable m → p.givable m2)
  | .ptr id off, h => by
    obtain ⟨h1, h2⟩ := h id (by simp [PV.ids])
    simp [PV.give, PV.givable, h1, h2]
  | .osl _ _ _ _, _ => by simp [PV.give, PV.givable]
  | .agg cs, h => by
    obtain ⟨h1, h2⟩ := give_congrL cs (fun i hi => h i (by simpa [PV.ids] using hi))
    simp only [PV.give, PV.givable, h1]
    exact ⟨trivial, h2⟩
  | .tup cs, h => by
    obtain ⟨h1, h2⟩ := give_congrL cs (fun i hi => h i (by simpa [PV.ids] using hi))
    simp only [PV.give, PV.givable, h1]
    exact ⟨trivial, h2⟩
  | .fn f cs, h => by
    obtain ⟨h1, h2⟩ := give_congrL cs (fun i hi => h i (by simpa [PV.ids] using hi))
    simp only [PV.give, PV.givable, h1]
    exact ⟨trivial, h2⟩
  | .any, _ => by simp [PV.give, PV.givable]
  | .int _ _, _ => by simp [PV.give, PV.givable]
  | .bool _, _ => by simp [PV.give, PV.givable]
  | .str _, _ => by simp [PV.give, PV.givable]
  | .flt _ _, _ => by simp [PV.give, PV.givable]
  | .cpx _ _ _, _ => by simp [PV.give, PV.givable]
  | .sl _ _, _ => by simp [PV.give, PV.givable]
  | .rptr _, _ => by simp [PV.give, PV.givable]
  | .nilp, _ => by simp [PV.give, PV.givable]
  | .nilfn, _ => by simp [PV.give, PV.givable]
  | .nilmap, _ => by simp [PV.give, PV.givable]
  | .mref _, _ => by simp [PV.give, PV.givable]
  | .iptr _, _ => by simp [PV.give, PV.givable]
  | .rmap _ _, _ => by simp [PV.give, PV.givable]
  | .vsl _ _ _, _ => by simp [PV.give, PV.givable]
  | .vptr _ _ _ _ _, _ => by simp [PV.give, PV.givable]
theorem give_congrL {m m2 : Hp} : ∀ (cs : List PV), (∀ i, .b i ∈ PV.idsL cs → m2.h i = m.h i ∧ m2.z i = m.z i) → PV.giveL m2 cs = PV.giveL m cs ∧ (PV.givableL m cs → PV.givableL m2 cs)
  | [], _ => by simp [PV.giveL, PV.givableL]
  | c :: cs, h => by
    obtain ⟨h1, h2⟩ := give_congr c (fun i hi => h i (by simp [PV.idsL, hi]))
    obtain ⟨h3, h4⟩ := give_congrL cs (fun i hi => h i (by simp [PV.idsL, hi]))
    simp only [PV.giveL, PV.givableL, h1, h3]
    exact ⟨trivial, fun h => ⟨h2 h.1, h4 h.2⟩⟩
end

theorem foot_call {o : Oper} {ρ : Operand → PV} {m : Hp} {v : PV} {c : Call} {g : FuncId} {args : List PV} (ho : o.op = .call c) (hc : calleeOf ρ c = some (g, args)) (hg : PV.givableL m args) (hp : Pure P g (PV.giveL m args) v) : Foot P o ρ m v m := by
  have hval : ∃ f, c.callee = .value f ∧ ∃ caps, ρ f = .fn g caps ∧ args = c.args.toList.map ρ ++ caps := by
    unfold calleeOf at hc
    split at hc
    · rename_i f hf
      split at hc
      · rename_i g' caps hcap
        simp only [Option.some.injEq, Prod.mk.injEq] at hc
        obtain ⟨rfl, rfl⟩ := hc
        exact ⟨f, hf, caps, hcap, rfl⟩
      · cases hc
    · cases hc
  obtain ⟨f, hf, caps, hcap, rfl⟩ := hval
  obtain ⟨callee, cargs, ts⟩ := c
  simp only at hf
  subst hf
  have hfp : fp o.op = { rh := true, rz := true } := by rw [ho]; rfl
  have W1 : ∀ i, ¬ Wh o ρ i := fun i => by simp [Wh, hfp]
  have W2 : ∀ i, ¬ Wz o ρ i := fun i => by simp [Wz, hfp]
  have W3 : ∀ i, ¬ Wq o ρ i := fun i => by simp [Wq, hfp]
  refine ⟨fun _ _ => rfl, fun _ _ => rfl, fun _ _ => rfl, fun h => (by rw [hfp] at h; cases h), fun h => (by rw [hfp] at h; cases h), fun _ h => h, fun _ h => h, fun _ => rfl, rfl, fun m2 a1 a2 _ _ _ _ _ => ?_⟩
  have hrefs : ∀ i, .b i ∈ PV.idsL (cargs.toList.map ρ ++ caps) → .b i ∈ refsOf o ρ := fun i hi => by
    unfold refsOf
    rw [ho]
    obtain ⟨x, hx, hix⟩ := PV.mem_idsL.1 hi
    rw [List.mem_flatMap]
    rcases List.mem_append.1 hx with hx | hx
    · obtain ⟨y, hy, rfl⟩ := List.mem_map.1 hx
      exact ⟨y, by simp only [Op.operands, Call.operands]; simp; right; simpa using hy, hix⟩
    · exact ⟨f, by simp [Op.operands, Call.operands], by rw [hcap]; exact PV.mem_idsL.2 ⟨x, hx, hix⟩⟩
  obtain ⟨g1, g2⟩ := give_congrL (m := m) (m2 := m2) (cargs.toList.map ρ ++ caps) (fun i hi => ⟨a1 (by rw [hfp]) (.b i) (hrefs i hi), a2 (by rw [hfp]) i (hrefs i hi)⟩)
  refine ⟨m2, .inr ⟨_, g, _, ho, hc, .inl ⟨g2 hg, by rw [g1]; exact hp⟩, rfl⟩, fun i => ⟨fun h => absurd h (W1 i), fun _ => rfl⟩, fun i => ⟨fun h => absurd h (W2 i), fun _ => rfl⟩, fun i => ⟨fun h => absurd h (W3 i), fun _ => rfl⟩, ⟨fun h => (by rw [hfp] at h; cases h), fun _ => rfl⟩, rfl⟩

theorem foot_lent {o : Oper} {ρ : Operand → PV} {m : Hp} {v : PV} {c : Call} {g : FuncId} {args : List PV} (ho : o.op = .call c) (hc : calleeOf ρ c = some (g, args)) (hp : Lent P m g args v) : Foot P o ρ m v m := by
  have hval : ∃ f, c.callee = .value f ∧ ∃ caps, ρ f = .fn g caps ∧ args = c.args.toList.map ρ ++ caps := by
    unfold calleeOf at hc
    split at hc
    · rename_i f hf
      split at hc
      · rename_i g' caps hcap
        simp only [Option.some.injEq, Prod.mk.injEq] at hc
        obtain ⟨rfl, rfl⟩ := hc
        exact ⟨f, hf, caps, hcap, rfl⟩
      · cases hc
    · cases hc
  obtain ⟨f, hf, caps, hcap, rfl⟩ := hval
  obtain ⟨callee, cargs, ts⟩ := c
  simp only at hf
  subst hf
  have hfp : fp o.op = { rh := true, rz := true } := by rw [ho]; rfl
  have W1 : ∀ i, ¬ Wh o ρ i := fun i => by simp [Wh, hfp]
  have W2 : ∀ i, ¬ Wz o ρ i := fun i => by simp [Wz, hfp]
  have W3 : ∀ i, ¬ Wq o ρ i := fun i => by simp [Wq, hfp]
  refine ⟨fun _ _ => rfl, fun _ _ => rfl, fun _ _ => rfl, fun h => (by rw [hfp] at h; cases h), fun h => (by rw [hfp] at h; cases h), fun _ h => h, fun _ h => h, fun _ => rfl, rfl, fun m2 a1 a2 _ _ _ _ _ => ?_⟩
  have hrefs : ∀ i, .b i ∈ PV.idsL (cargs.toList.map ρ ++ caps) → .b i ∈ refsOf o ρ := fun i hi => by
    unfold refsOf
    rw [ho]
    obtain ⟨x, hx, hix⟩ := PV.mem_idsL.1 hi
    rw [List.mem_flatMap]
    rcases List.mem_append.1 hx with hx | hx
    · obtain ⟨y, hy, rfl⟩ := List.mem_map.1 hx
      exact ⟨y, by simp only [Op.operands, Call.operands]; simp; right; simpa using hy, hix⟩
    · exact ⟨f, by simp [Op.operands, Call.operands], by rw [hcap]; exact PV.mem_idsL.2 ⟨x, hx, hix⟩⟩
  obtain ⟨pre, post, d, L, ha, hp1, hp2, hh, hz, hP, hfl⟩ := hp
  have hdr : .b d ∈ refsOf o ρ := hrefs d (by rw [ha]; exact PV.mem_idsL.2 ⟨.ptr d 0, by simp, by simp [PV.ids]⟩)
  have e1 : m2.h d = m.h d := a1 (by rw [hfp]) (.b d) hdr
  have e2 : m2.z d = m.z d := a2 (by rw [hfp]) d hdr
  refine ⟨m2, .inr ⟨_, g, _, ho, hc, .inr ⟨pre, post, d, L, ha, hp1, hp2, by rw [e1]; exact hh, by rw [e2]; exact hz, hP, hfl⟩, rfl⟩, fun i => ⟨fun h => absurd h (W1 i), fun _ => rfl⟩, fun i => ⟨fun h => absurd h (W2 i), fun _ => rfl⟩, fun i => ⟨fun h => absurd h (W3 i), fun _ => rfl⟩, ⟨fun h => (by rw [hfp] at h; cases h), fun _ => rfl⟩, rfl⟩

theorem foot_load {o : Oper} {ρ : Operand → PV} {m : Hp} {t : TypeId} {x : Operand} (ho : o.op = .load t x) (hok : (aop P o ρ m).ok) : Foot P o ρ m (aop P o ρ m).v (aop P o ρ m).m := by
  have hfp : fp o.op = { rh := true } := by rw [ho]; rfl
  have W1 : ∀ i, ¬ Wh o ρ i := fun i => by simp [Wh, hfp]
  have W2 : ∀ i, ¬ Wz o ρ i := fun i => by simp [Wz, hfp]
  have W3 : ∀ i, ¬ Wq o ρ i := fun i => by simp [Wq, hfp]
  have hop : ∀ m, aop P o ρ m = if tkn P t then aLoad P t (ρ x) m else .fail := fun m => by unfold aop; rw [ho]
  have hrefs : ∀ r, r ∈ (ρ x).ids → r ∈ refsOf o ρ := fun i hi => by
    unfold refsOf; rw [ho]; exact List.mem_flatMap.2 ⟨x, by simp [Op.operands], hi⟩
  have key : ∀ m2 : Hp, (∀ r, r ∈ (ρ x).ids → m2.hv r = m.hv r) → (aop P o ρ m).m = m ∧ (aop P o ρ m2).ok ∧ (aop P o ρ m2).v = (aop P o ρ m).v ∧ (aop P o ρ m2).m = m2 := by
    intro m2 h2
    rw [hop] at hok ⊢
    rw [hop]
    split at hok
    · rename_i hk
      simp only [hk, if_true]
      revert hok
      unfold aLoad
      cases hx : ρ x with
      | rptr cs => exact fun h => ⟨rfl, h, rfl, rfl⟩
      | ptr id off =>
        have : m2.h id = m.h id := h2 (.b id) (by rw [hx]; simp [PV.ids])
        simp only [this]
        cases m.h id with
        | none => exact fun h => h.elim
        | some cs => exact fun h => ⟨rfl, h, rfl, rfl⟩
      | vptr id n z i off =>
        have : m2.v id = m.v id := h2 (.r id) (by rw [hx]; simp [PV.ids])
        simp only [this]
        cases m.v id with
        | none => exact fun h => h.elim
        | some es => exact fun h => ⟨rfl, h, rfl, rfl⟩
      | _ => exact fun h => h.elim
    · exact hok.elim
  obtain ⟨e, _⟩ := key m (fun _ _ => rfl)
  rw [e]
  refine ⟨fun _ _ => rfl, fun _ _ => rfl, fun _ _ => rfl, fun h => (by rw [hfp] at h; cases h), fun h => (by rw [hfp] at h; cases h), fun _ h => h, fun _ h => h, fun _ => rfl, rfl, fun m2 a1 _ _ _ _ _ _ => ?_⟩
  obtain ⟨_, g1, g2, g3⟩ := key m2 (fun i hi => a1 (by rw [hfp]) i (hrefs i hi))
  exact ⟨m2, .inl ⟨g1, g2.symm, g3.symm⟩, fun i => ⟨fun h => absurd h (W1 i), fun _ => rfl⟩, fun i => ⟨fun h => absurd h (W2 i), fun _ => rfl⟩, fun i => ⟨fun h => absurd h (W3 i), fun _ => rfl⟩, ⟨fun h => (by rw [hfp] at h; cases h), fun _ => rfl⟩, rfl⟩

theorem foot_conv {o : Oper} {ρ : Operand → PV} {m : Hp} {t u : TypeId} {x : Operand} (ho : o.op = .convert t u x) (hok : (aop P o ρ m).ok) : Foot P o ρ m (aop P o ρ m).v (aop P o ρ m).m := by
  have hfp : fp o.op = { rh := true } := by rw [ho]; rfl
  have W1 : ∀ i, ¬ Wh o ρ i := fun i => by simp [Wh, hfp]
  have W2 : ∀ i, ¬ Wz o ρ i := fun i => by simp [Wz, hfp]
  have W3 : ∀ i, ¬ Wq o ρ i := fun i => by simp [Wq, hfp]
  have hop : ∀ m, aop P o ρ m = aConv P t u (ρ x) m := fun m => by unfold aop; rw [ho]
  have hrefs : ∀ i, .b i ∈ (ρ x).ids → .b i ∈ refsOf o ρ := fun i hi => by
    unfold refsOf; rw [ho]; exact List.mem_flatMap.2 ⟨x, by simp [Op.operands], hi⟩
  have e : (aop P o ρ m).m = m := by rw [hop] at hok ⊢; exact conv_m hok
  rw [e]
  refine ⟨fun _ _ => rfl, fun _ _ => rfl, fun _ _ => rfl, fun h => (by rw [hfp] at h; cases h), fun h => (by rw [hfp] at h; cases h), fun _ h => h, fun _ h => h, fun _ => rfl, rfl, fun m2 a1 _ _ _ _ _ _ => ?_⟩
  have hok' : (aConv P t u (ρ x) m).ok := by rw [← hop]; exact hok
  obtain ⟨g1, g2, g3⟩ := conv_congr (m2 := m2) (fun i hi => a1 (by rw [hfp]) (.b i) (hrefs i hi)) hok'
  exact ⟨m2, .inl ⟨by rw [hop]; exact g1, by rw [hop, hop]; exact g2.symm, by rw [hop]; exact g3.symm⟩, fun i => ⟨fun h => absurd h (W1 i), fun _ => rfl⟩, fun i => ⟨fun h => absurd h (W2 i), fun _ => rfl⟩, fun i => ⟨fun h => absurd h (W3 i), fun _ => rfl⟩, ⟨fun h => (by rw [hfp] at h; cases h), fun _ => rfl⟩, rfl⟩

theorem foot_store {o : Oper} {ρ : Operand → PV} {m : Hp} {t : TypeId} {x y : Operand} (ho : o.op = .store t x y) (hok : (aop P o ρ m).ok) : Foot P o ρ m (aop P o ρ m).v (aop P o ρ m).m := by
  have hfp : fp o.op = { rh := true, rz := true, wh := true } := by rw [ho]; rfl
  have W2 : ∀ i, ¬ Wz o ρ i := fun i => by simp [Wz, hfp]
  have W3 : ∀ i, ¬ Wq o ρ i := fun i => by simp [Wq, hfp]
  have hop : ∀ m, aop P o ρ m = if tkn P t then aStore P t (ρ x) (ρ y) m else .fail := fun m => by unfold aop; rw [ho]
  have hrefs : ∀ r, r ∈ (ρ x).ids → r ∈ refsOf o ρ := fun i hi => by
    unfold refsOf; rw [ho]; exact List.mem_flatMap.2 ⟨x, by simp [Op.operands], hi⟩
  have W1 : ∀ r, Wh o ρ r ↔ r ∈ refsOf o ρ := fun i => by simp [Wh, hfp]
  rw [hop] at hok ⊢
  split at hok
  · rename_i hk
    simp only [hk, if_true]
    revert hok
    unfold aStore
    cases hx : ρ x with
    | ptr id off =>
      simp only
      cases hid : m.h id with
      | none => exact fun h => h.elim
      | some cs =>
        rintro ⟨g0, g1, g2, g3, g4⟩
        have hin : .b id ∈ refsOf o ρ := hrefs (.b id) (by rw [hx]; simp [PV.ids])
        have n0 : ∀ (m : Hp) i, i ≠ id → (upd m.h id (some (splice cs off (ρ y).cells))) i = m.h i := fun m i h => upd_ne _ _ (Ne.symm h)
        have n1 : ∀ (m : Hp) r, r ≠ .b id → ({ m with h := upd m.h id (some (splice cs off (ρ y).cells)) } : Hp).hv r = m.hv r := fun m r h => by cases r with | b i => exact n0 m i (fun e => h (by rw [e])) | r i => rfl
        refine ⟨fun i h => n1 m i (fun e => h ((W1 i).2 (e ▸ hin))), fun _ _ => rfl, fun _ _ => rfl, fun h => (by rw [hfp] at h; cases h), fun h => (by rw [hfp] at h; cases h), fun i h => ?_, fun _ h => h, fun _ => rfl, rfl, fun m2 a1 a2 _ _ _ _ _ => ?_⟩
        · show upd m.h id _ i ≠ none
          by_cases e : i = id
          · subst e; rw [upd_same]; simp
          · rw [n0 m i e]; exact h
        · have hid2 : m2.h id = some cs := (a1 (by rw [hfp]) (.b id) hin).trans hid
          have hz2 := (a2 (by rw [hfp]) id hin).trans g0
          refine ⟨{ m2 with h := upd m2.h id (some (splice cs off (ρ y).cells)) }, .inl ?_, fun i => ⟨fun h => ?_, fun h => n1 m2 i (fun e => h ((W1 i).2 (e ▸ hin)))⟩, fun i => ⟨fun h => absurd h (W2 i), fun _ => rfl⟩, fun i => ⟨fun h => absurd h (W3 i), fun _ => rfl⟩, ⟨fun h => (by rw [hfp] at h; cases h), fun _ => rfl⟩, rfl⟩
          · rw [hop]
            simp only [hk, if_true, aStore, hx, hid2]
            exact ⟨⟨hz2, g1, g2, g3, g4⟩, trivial, trivial⟩
          · by_cases e : i = .b id
            · subst e
              show upd m2.h id _ id = upd m.h id _ id
              rw [upd_same, upd_same]
            · rw [n1 m2 i e, n1 m i e]; exact a1 (by rw [hfp]) i ((W1 i).1 h)
    | vptr id n z k off =>
      simp only
      cases hid : m.v id with
      | none => exact fun h => h.elim
      | some es =>
        intro g0
        have hin : .r id ∈ refsOf o ρ := hrefs (.r id) (by rw [hx]; simp [PV.ids])
        have n1 : ∀ (m : Hp) (x : List PV) r, r ≠ .r id → ({ m with v := upd m.v id (some x) } : Hp).hv r = m.hv r := fun m x r h => by cases r with | r i => exact upd_ne _ _ (fun e => h (by rw [e])) | b i => rfl
        refine ⟨fun i h => n1 m _ i (fun e => h ((W1 i).2 (e ▸ hin))), fun _ _ => rfl, fun _ _ => rfl, fun h => (by rw [hfp] at h; cases h), fun h => (by rw [hfp] at h; cases h), fun i h => h, fun _ h => h, fun _ => rfl, rfl, fun m2 a1 a2 _ _ _ _ _ => ?_⟩
        have hid2 : m2.v id = some es := (a1 (by rw [hfp]) (.r id) hin).trans hid
        refine ⟨{ m2 with v := upd m2.v id (some (es.set k (putPV (es.getD k .any) off (ρ y)))) }, .inl ?_, fun i => ⟨fun h => ?_, fun h => n1 m2 _ i (fun e => h ((W1 i).2 (e ▸ hin)))⟩, fun i => ⟨fun h => absurd h (W2 i), fun _ => rfl⟩, fun i => ⟨fun h => absurd h (W3 i), fun _ => rfl⟩, ⟨fun h => (by rw [hfp] at h; cases h), fun _ => rfl⟩, rfl⟩
        · rw [hop]
          simp only [hk, if_true, aStore, hx, hid2]
          exact ⟨g0, trivial, trivial⟩
        · by_cases e : i = .r id
          · subst e
            show upd m2.v id _ id = upd m.v id _ id
            rw [upd_same, upd_same]
          · rw [n1 m2 _ i e, n1 m _ i e]; exact a1 (by rw [hfp]) i ((W1 i).1 h)
    | _ => exact fun h => h.elim
  · exact hok.elim

theorem frozenBy_o (m : Hp) : ∀ cs, (frozenBy m cs).o = m.o
  | [] => rfl
  | c :: cs => by
    cases c <;> first | exact frozenBy_o m cs | exact frozenBy_o (m.freeze _) cs
theorem frozenBy_it (m : Hp) : ∀ cs, (frozenBy m cs).it = m.it
  | [] => rfl
  | c :: cs => by
    cases c <;> first | exact frozenBy_it m cs | exact frozenBy_it (m.freeze _) cs
theorem frozenBy_om (m : Hp) : ∀ cs, (frozenBy m cs).om = m.om
  | [] => rfl
  | c :: cs => by
    cases c <;> first | exact frozenBy_om m cs | exact frozenBy_om (m.freeze _) cs
theorem frozenBy_v (m : Hp) : ∀ cs, (frozenBy m cs).v = m.v
  | [] => rfl
  | c :: cs => by
    cases c <;> first | exact frozenBy_v m cs | exact frozenBy_v (m.freeze _) cs
theorem frozenBy_hv (m : Hp) (cs : List PV) (x : Ref) : (frozenBy m cs).hv x = m.hv x := hv_congr (frozenBy_h m cs) (frozenBy_v m cs) x
theorem frozenBy_ph (m : Hp) : ∀ cs, (frozenBy m cs).ph = m.ph ∧ (frozenBy m cs).pq = m.pq ∧ (frozenBy m cs).vm = m.vm
  | [] => ⟨rfl, rfl, rfl⟩
  | c :: cs => by
    cases c <;> first | exact frozenBy_ph m cs | exact frozenBy_ph (m.freeze _) cs
theorem frozenBy_io (m : Hp) (cs : List PV) : (frozenBy m cs).io = m.io := by unfold Hp.io; rw [frozenBy_it, frozenBy_om, (frozenBy_ph m cs).1, (frozenBy_ph m cs).2.1, (frozenBy_ph m cs).2.2]
theorem frozenBy_z1 (m : Hp) : ∀ (cs : List PV) (i : Nat), m.z i = true → (frozenBy m cs).z i = true
  | [], i, h => h
  | c :: cs, i, h => by
    cases c with
    | ptr id off =>
      refine frozenBy_z1 (m.freeze id) cs i ?_
      show upd m.z id true i = true
      by_cases e : id = i
      · subst e; exact upd_same _ _ _
      · rw [upd_ne _ _ e]; exact h
    | _ => exact frozenBy_z1 m cs i h
theorem frozenBy_z2 (m : Hp) : ∀ (cs : List PV) (i off : Nat), PV.ptr i off ∈ cs → (frozenBy m cs).z i = true
  | [], i, off, h => by cases h
  | c :: cs, i, off, h => by
    rcases List.mem_cons.1 h with rfl | h'
    · exact frozenBy_z1 (m.freeze i) cs i (upd_same _ _ _)
    · cases c with
      | ptr id o => exact frozenBy_z2 (m.freeze id) cs i off h'
      | _ => exact frozenBy_z2 m cs i off h'
theorem frozenBy_z3 (m : Hp) : ∀ (cs : List PV) (i : Nat), (∀ off, PV.ptr i off ∉ cs) → (frozenBy m cs).z i = m.z i
  | [], i, h => rfl
  | c :: cs, i, h => by
    have ih := fun m => frozenBy_z3 m cs i (fun off ho => h off (by simp [ho]))
    cases c with
    | ptr id o =>
      refine (ih (m.freeze id)).trans (upd_ne _ _ fun e => ?_)
      subst e
      exact h o (by simp)
    | _ => exact ih m

theorem capsOk_congr {m m2 : Hp} : ∀ (cs : List PV), (∀ i, .b i ∈ PV.idsL cs → m2.h i = m.h i) → capsOk m cs → capsOk m2 cs
  | [], _, _ => trivial
  | c :: cs, h, hk => by
    have ih := capsOk_congr (m := m) (m2 := m2) cs (fun i hi => h i (by simp [PV.idsL, hi]))
    cases c with
    | ptr id off =>
      obtain ⟨h1, h2⟩ := hk
      refine ⟨?_, ih h2⟩
      rw [h id (by simp [PV.idsL, PV.ids])]
      exact h1
    | _ => exact ⟨hk.1, ih hk.2⟩

theorem capsOk_refs {m : Hp} : ∀ {cs : List PV}, capsOk m cs → ∀ i, .b i ∈ PV.idsL cs → ∃ off, PV.ptr i off ∈ cs
  | [], _, i, hi => by simp [PV.idsL] at hi
  | c :: cs, hk, i, hi => by
    simp only [PV.idsL, List.mem_append] at hi
    rcases hi with hi | hi
    · cases c with
      | ptr id off => simp [PV.ids] at hi; subst hi; exact ⟨off, by simp⟩
      | _ => obtain ⟨h1, _⟩ := hk; rw [h1] at hi; cases hi
    · have hk2 : capsOk m cs := by cases c <;> exact hk.2
      obtain ⟨off, ho⟩ := capsOk_refs hk2 i hi
      exact ⟨off, by simp [ho]⟩

theorem foot_makeFunc {o : Oper} {ρ : Operand → PV} {m : Hp} {f : FuncId} {first caps : Array Operand} (ho : o.op = .makeFunc (.func f) first caps) (hok : (aop P o ρ m).ok) : Foot P o ρ m (aop P o ρ m).v (aop P o ρ m).m := by
  have hop : ∀ m, aop P o ρ m = if first.isEmpty then ⟨capsOk m (caps.toList.map ρ), .fn f (caps.toList.map ρ), frozenBy m (caps.toList.map ρ)⟩ else .fail := fun m => by unfold aop; rw [ho]
  rw [hop] at hok ⊢
  split at hok
  · rename_i hfe
    simp only [hfe, if_true]
    simp only at hok
    by_cases hce : caps.isEmpty = true
    · have hc0 : caps = #[] := by simpa using hce
      subst hc0
      have hfp : fp o.op = {} := by rw [ho]; rfl
      have W1 : ∀ i, ¬ Wh o ρ i := fun i => by simp [Wh, hfp]
      have W2 : ∀ i, ¬ Wz o ρ i := fun i => by simp [Wz, hfp]
      have W3 : ∀ i, ¬ Wq o ρ i := fun i => by simp [Wq, hfp]
      refine ⟨fun _ _ => rfl, fun _ _ => rfl, fun _ _ => rfl, fun h => (by rw [hfp] at h; cases h), fun h => (by rw [hfp] at h; cases h), fun _ h => h, fun _ h => h, fun _ => rfl, rfl, fun m2 _ _ _ _ _ _ _ => ?_⟩
      refine ⟨m2, .inl ?_, fun i => ⟨fun h => absurd h (W1 i), fun _ => rfl⟩, fun i => ⟨fun h => absurd h (W2 i), fun _ => rfl⟩, fun i => ⟨fun h => absurd h (W3 i), fun _ => rfl⟩, ⟨fun h => (by rw [hfp] at h; cases h), fun _ => rfl⟩, rfl⟩
      rw [hop]
      simp only [hfe, if_true]
      exact ⟨trivial, trivial, rfl⟩
    · have hfp : fp o.op = { rh := true, wz := true } := by rw [ho]; simp [fp, hce]
      have hrefs : ∀ i, .b i ∈ PV.idsL (caps.toList.map ρ) ↔ .b i ∈ refsOf o ρ := fun i => by
        unfold refsOf
        rw [ho]
        have hf0 : first = #[] := by simpa using hfe
        subst hf0
        constructor
        · intro hi
          obtain ⟨x, hx, hix⟩ := PV.mem_idsL.1 hi
          obtain ⟨y, hy, rfl⟩ := List.mem_map.1 hx
          exact List.mem_flatMap.2 ⟨y, by simpa [Op.operands] using hy, hix⟩
        · intro hi
          obtain ⟨y, hy, hiy⟩ := List.mem_flatMap.1 hi
          exact PV.mem_idsL.2 ⟨ρ y, List.mem_map.2 ⟨y, by simpa [Op.operands] using hy, rfl⟩, hiy⟩
      have W1 : ∀ i, ¬ Wh o ρ i := fun i => by simp [Wh, hfp]
      have W2 : ∀ i, Wz o ρ i ↔ .b i ∈ refsOf o ρ := fun i => by simp [Wz, hfp]
      have W3 : ∀ i, ¬ Wq o ρ i := fun i => by simp [Wq, hfp]
      have zz : ∀ (m : Hp) i, (.b i ∈ refsOf o ρ → (frozenBy m (caps.toList.map ρ)).z i = true) ∧ (.b i ∉ refsOf o ρ → (frozenBy m (caps.toList.map ρ)).z i = m.z i) := fun m' i => by
        constructor
        · intro hi
          obtain ⟨off, ho'⟩ := capsOk_refs hok i ((hrefs i).2 hi)
          exact frozenBy_z2 m' _ i off ho'
        · intro hi
          exact frozenBy_z3 m' _ i (fun off ho' => hi ((hrefs i).1 (PV.mem_idsL.2 ⟨_, ho', by simp [PV.ids]⟩)))
      refine ⟨fun i _ => frozenBy_hv m _ i, fun i h => (zz m i).2 (fun hh => h ((W2 i).2 hh)), fun i _ => by rw [frozenBy_q], fun h => (by rw [hfp] at h; cases h), fun h => (by rw [hfp] at h; cases h), fun i h => by rw [frozenBy_h]; exact h, fun i h => by rw [frozenBy_q]; exact h, fun _ => frozenBy_o m _, frozenBy_io m _, fun m2 a1 _ _ _ _ _ _ => ?_⟩
      refine ⟨frozenBy m2 (caps.toList.map ρ), .inl ?_, fun i => ⟨fun h => absurd h (W1 i), fun _ => frozenBy_hv m2 _ i⟩, fun i => ⟨fun h => ?_, fun h => (zz m2 i).2 (fun hh => h ((W2 i).2 hh))⟩, fun i => ⟨fun h => absurd h (W3 i), fun _ => by rw [frozenBy_q]⟩, ⟨fun h => (by rw [hfp] at h; cases h), fun _ => frozenBy_o m2 _⟩, frozenBy_io m2 _⟩
      · rw [hop]
        simp only [hfe, if_true]
        exact ⟨capsOk_congr _ (fun i hi => a1 (by rw [hfp]) (.b i) ((hrefs i).1 hi)) hok, trivial, trivial⟩
      · rw [(zz m2 i).1 ((W2 i).1 h), (zz m i).1 ((W2 i).1 h)]
  · exact hok.elim

end
end Go.PL

namespace Go.PL
open Go.RowKit
set_option linter.unusedVariables false
section
variable {P : Program}

theorem foot_append {o : Oper} {ρ : Operand → PV} {m : Hp} {args : Array Operand} {ts : Array TypeId} (ho : o.op = .call ⟨.builtin .append, args, ts⟩) (hok : (aop P o ρ m).ok) : Foot P o ρ m (aop P o ρ m).v (aop P o ρ m).m := by
  have hfp : fp o.op = { rq := true, wq := true } := by rw [ho]; rfl
  have W1 : ∀ i, ¬ Wh o ρ i := fun i => by simp [Wh, hfp]
  have W2 : ∀ i, ¬ Wz o ρ i := fun i => by simp [Wz, hfp]
  have W3 : ∀ i, Wq o ρ i ↔ (.r i ∈ refsOf o ρ ∨ o.dst = some i) := fun i => by simp [Wq, hfp]
  have hop : ∀ m, aop P o ρ m = aBuiltin P .append ts.toList o.dst (args.toList.map ρ) m := fun m => by unfold aop; rw [ho]
  rw [hop] at hok ⊢
  have refs : ∀ x ∈ args.toList, ∀ i, .r i ∈ (ρ x).ids → .r i ∈ refsOf o ρ := fun x hx i hi => by
    unfold refsOf; rw [ho]; exact List.mem_flatMap.2 ⟨x, by simpa [Op.operands, Call.operands] using hx, hi⟩
  -- what is done: rows named in a list are laid anew
  have fin : ∀ {v : PV} {L : List (Nat × Row)} {ok : Hp → Prop}, (∀ x ∈ L, .r x.1 ∈ refsOf o ρ ∨ o.dst = some x.1) → (∀ m2 : Hp, (∀ i, (.r i ∈ refsOf o ρ ∨ o.dst = some i) → m2.q i = m.q i) → aop P o ρ m2 = ⟨ok m2, v, L.foldl (fun m x => m.setq x.1 x.2) m2⟩ ∧ (ok m → ok m2)) → ok m →
      Foot P o ρ m v (L.foldl (fun m x => m.setq x.1 x.2) m) := by
    intro v L ok hL hst hk
    have hh : ∀ (L : List (Nat × Row)) (m : Hp), (L.foldl (fun m x => m.setq x.1 x.2) m).h = m.h ∧ (L.foldl (fun m x => m.setq x.1 x.2) m).z = m.z := by
      intro L
      induction L with
      | nil => intro m; exact ⟨rfl, rfl⟩
      | cons x L ih => intro m; exact ⟨(ih _).1, (ih _).2⟩
    have hv : ∀ (L : List (Nat × Row)) (m : Hp) (x : Ref), (L.foldl (fun m x => m.setq x.1 x.2) m).hv x = m.hv x := by
      intro L
      induction L with
      | nil => intro m x; rfl
      | cons y L ih => intro m x; exact (ih _ x).trans (hv_setq _ _ _ x)
    have ho : ∀ (L : List (Nat × Row)) (m : Hp), (L.foldl (fun m x => m.setq x.1 x.2) m).o = m.o ∧ (L.foldl (fun m x => m.setq x.1 x.2) m).io = m.io := by
      intro L
      induction L with
      | nil => intro m; exact ⟨rfl, rfl⟩
      | cons x L ih => intro m; exact ⟨(ih _).1, (ih _).2⟩
    have qq : ∀ (L : List (Nat × Row)) (m : Hp) (i : Nat), (∀ x ∈ L, x.1 ≠ i) → (L.foldl (fun m x => m.setq x.1 x.2) m).q i = m.q i := by
      intro L
      induction L with
      | nil => intro m i _; rfl
      | cons x L ih =>
        intro m i h
        refine (ih (m.setq x.1 x.2) i (fun y hy => h y (by simp [hy]))).trans ?_
        exact upd_ne _ _ (h x (by simp))
    have qsame : ∀ (L : List (Nat × Row)) (m m2 : Hp) (i : Nat), m2.q i = m.q i → (L.foldl (fun m x => m.setq x.1 x.2) m2).q i = (L.foldl (fun m x => m.setq x.1 x.2) m).q i := by
      intro L
      induction L with
      | nil => intro m m2 i h; exact h
      | cons x L ih =>
        intro m m2 i h
        refine ih (m.setq x.1 x.2) (m2.setq x.1 x.2) i ?_
        show upd m2.q x.1 _ i = upd m.q x.1 _ i
        by_cases e : x.1 = i
        · subst e; rw [upd_same, upd_same]
        · rw [upd_ne _ _ e, upd_ne _ _ e]; exact h
    have qlive : ∀ (L : List (Nat × Row)) (m : Hp) (i : Nat), m.q i ≠ none → (L.foldl (fun m x => m.setq x.1 x.2) m).q i ≠ none := by
      intro L
      induction L with
      | nil => intro m i h; exact h
      | cons x L ih =>
        intro m i h
        refine ih (m.setq x.1 x.2) i ?_
        show upd m.q x.1 _ i ≠ none
        by_cases e : x.1 = i
        · subst e; rw [upd_same]; simp
        · rw [upd_ne _ _ e]; exact h
    refine ⟨fun i _ => hv L m i, fun i _ => by rw [(hh L m).2], fun i h => qq L m i (fun x hx e => h ((W3 i).2 (e ▸ hL x hx))), fun h => (by rw [hfp] at h; cases h), fun h => (by rw [hfp] at h; cases h), fun i h => by rw [(hh L m).1]; exact h, fun i h => qlive L m i h, fun _ => (ho L m).1, (ho L m).2, fun m2 _ _ a3 _ _ _ _ => ?_⟩
    have hag : ∀ i, (.r i ∈ refsOf o ρ ∨ o.dst = some i) → m2.q i = m.q i := a3 (by rw [hfp])
    obtain ⟨e, hk2⟩ := hst m2 hag
    refine ⟨L.foldl (fun m x => m.setq x.1 x.2) m2, .inl ?_, fun i => ⟨fun h => absurd h (W1 i), fun _ => hv L m2 i⟩, fun i => ⟨fun h => absurd h (W2 i), fun _ => by rw [(hh L m2).2]⟩, fun i => ⟨fun h => qsame L m m2 i (hag i ((W3 i).1 h)), fun h => qq L m2 i (fun x hx e => h ((W3 i).2 (e ▸ hL x hx)))⟩, ⟨fun h => (by rw [hfp] at h; cases h), fun _ => (ho L m2).1⟩, (ho L m2).2⟩
    rw [e]
    exact ⟨hk2 hk, rfl, rfl⟩
  revert hok
  match hts : ts.toList, has : args.toList with
  | [t, tx], [x, y] =>
    simp only [List.map_cons, List.map_nil, aBuiltin]
    cases hd : o.dst with
    | none => exact fun h => h.elim
    | some d =>
      have hop' : ∀ m2, aop P o ρ m2 = aAppend P d t tx (ρ x) (ρ y) m2 := fun m2 => by
        rw [hop, hts, has, hd]
        rfl
      simp only
      unfold aAppend
      unfold aAppend at hop'
      have hxr : ∀ i, .r i ∈ (ρ x).ids → .r i ∈ refsOf o ρ := refs x (by rw [has]; simp)
      split
      · rename_i ei ys es h1 h2 h3
        intro hok
        exact fin (L := [(d, _)]) (ok := fun m2 => m2.q d = none ∧ Sized ei.size ys ∧ Atoms ys ∧ Room ys.length ei.bytes) (by intro z hz; simp at hz; subst hz; exact .inr hd)
          (fun m2 hag => ⟨by rw [hop']; simp only [h1, h2, h3]; rfl, fun hk => ⟨by rw [hag d (.inr hd)]; exact hk.1, hk.2⟩⟩) hok
      · rename_i ei ys id es h1 h2 h3
        have hin : .r id ∈ refsOf o ρ := hxr id (by rw [h3]; simp [PV.ids])
        cases hq : m.q id with
        | none => exact fun h => h.elim
        | some r =>
          cases r with
          | dead => exact fun h => h.elim
          | vec n sz e => exact fun h => h.elim
          | live n sz e =>
            simp only
            intro hok
            by_cases hdi : d = id
            · subst hdi
              simp only [if_true]
              exact fin (L := [(d, _)]) (ok := fun m2 => n = es.length ∧ sz = ei.size ∧ e = ei.e ∧ (d = d ∨ m2.q d = none) ∧ Sized ei.size es ∧ Sized ei.size ys ∧ Atoms ys ∧ Room (es.length + ys.length) ei.bytes) (by intro z hz; simp at hz; subst hz; exact .inr hd)
                (fun m2 hag => ⟨by rw [hop']; simp only [h1, h2, h3, hag d (.inr hd), hq, if_true]; rfl, fun hk => ⟨hk.1, hk.2.1, hk.2.2.1, .inl rfl, hk.2.2.2.2⟩⟩) hok
            · simp only [if_neg hdi]
              exact fin (L := [(id, .dead), (d, _)]) (ok := fun m2 => n = es.length ∧ sz = ei.size ∧ e = ei.e ∧ (d = id ∨ m2.q d = none) ∧ Sized ei.size es ∧ Sized ei.size ys ∧ Atoms ys ∧ Room (es.length + ys.length) ei.bytes)
                (by intro z hz; simp at hz; rcases hz with rfl | rfl; exact .inl hin; exact .inr hd)
                (fun m2 hag => ⟨by rw [hop']; simp only [h1, h2, h3, hag id (.inl hin), hq, if_neg hdi]; rfl, fun hk => ⟨hk.1, hk.2.1, hk.2.2.1, hk.2.2.2.1.imp (fun h => h) (fun h => by rw [hag d (.inr hd)]; exact h), hk.2.2.2.2⟩⟩) hok
      · exact fun h => h.elim
  | [], _ => exact fun h => h.elim
  | [_], _ => simp only [aBuiltin]; exact fun h => h.elim
  | _ :: _ :: _ :: _, _ => simp only [aBuiltin]; exact fun h => h.elim
  | [_, _], [] => exact fun h => h.elim
  | [_, _], [_] => simp only [List.map_cons, List.map_nil, aBuiltin]; exact fun h => h.elim
  | [_, _], _ :: _ :: _ :: _ => simp only [List.map_cons, aBuiltin]; exact fun h => h.elim

/-- an operation that looks into maps, or writes one -/
theorem foot_map {o : Oper} {ρ : Operand → PV} {m : Hp} {wo : Bool} (hfp : fp o.op = { ro := true, wo := wo }) (h1 : ∀ m : Hp, (aop P o ρ m).ok → (aop P o ρ m).m = { m with o := (aop P o ρ m).m.o } ∧ (wo = false → (aop P o ρ m).m.o = m.o))
    (h2 : ∀ m2 : Hp, m2.o = m.o → m2.it = m.it → (aop P o ρ m).ok → (aop P o ρ m2).ok ∧ (aop P o ρ m2).v = (aop P o ρ m).v ∧ (aop P o ρ m2).m.o = (aop P o ρ m).m.o) (hok : (aop P o ρ m).ok) : Foot P o ρ m (aop P o ρ m).v (aop P o ρ m).m := by
  have W1 : ∀ i, ¬ Wh o ρ i := fun i => by simp [Wh, hfp]
  have W2 : ∀ i, ¬ Wz o ρ i := fun i => by simp [Wz, hfp]
  have W3 : ∀ i, ¬ Wq o ρ i := fun i => by simp [Wq, hfp]
  obtain ⟨e, e'⟩ := h1 m hok
  refine ⟨fun i _ => by rw [e]; cases i <;> rfl, fun i _ => by rw [e], fun i _ => by rw [e], fun h => (by rw [hfp] at h; cases h), fun h => (by rw [hfp] at h; cases h), fun i h => by rw [e]; exact h, fun i h => by rw [e]; exact h,
    fun h => e' (by rw [hfp] at h; exact h), by rw [e]; rfl, fun m2 _ _ _ _ _ a1 a2 => ?_⟩
  obtain ⟨g1, g2, g3⟩ := h2 m2 (a1 (by rw [hfp])) (congrArg (fun x => x.1) a2) hok
  obtain ⟨k, k'⟩ := h1 m2 g1
  exact ⟨(aop P o ρ m2).m, .inl ⟨g1, g2.symm, rfl⟩, fun i => ⟨fun h => absurd h (W1 i), fun _ => by rw [k]; cases i <;> rfl⟩, fun i => ⟨fun h => absurd h (W2 i), fun _ => by rw [k]⟩, fun i => ⟨fun h => absurd h (W3 i), fun _ => by rw [k]⟩, ⟨fun _ => g3, fun h => k' (by rw [hfp] at h; exact h)⟩, by rw [k]; rfl⟩
theorem mapOf_congr {m m2 : Hp} (h : m2.o = m.o) (x : PV) : mapOf m2 x = mapOf m x := by cases x <;> simp [mapOf, h]
theorem lookup_facts {t : TypeId} {x k : PV} {ok : Bool} (m m2 : Hp) (h : m2.o = m.o) : (aLookup P t x k ok m).ok → (aLookup P t x k ok m).m = m ∧ (aLookup P t x k ok m2).ok ∧ (aLookup P t x k ok m2).v = (aLookup P t x k ok m).v ∧ (aLookup P t x k ok m2).m = m2 := by
  unfold aLookup
  rw [mapOf_congr h]
  split
  · split
    · exact fun hk => ⟨rfl, hk, rfl, rfl⟩
    · exact fun hk => hk.elim
  · exact fun hk => hk.elim
theorem mapLen_facts {t : TypeId} {x : PV} (m m2 : Hp) (h : m2.o = m.o) : (aMapLen P t x m).ok → (aMapLen P t x m).m = m ∧ (aMapLen P t x m2).ok ∧ (aMapLen P t x m2).v = (aMapLen P t x m).v ∧ (aMapLen P t x m2).m = m2 := by
  unfold aMapLen
  rw [mapOf_congr h]
  split
  · exact fun hk => ⟨rfl, hk, rfl, rfl⟩
  · exact fun hk => hk.elim
theorem entry_facts {x : PV} (m m2 : Hp) (h : m2.o = m.o) (h' : m2.it = m.it) : (aEntry x m).ok → (aEntry x m).m = m ∧ (aEntry x m2).ok ∧ (aEntry x m2).v = (aEntry x m).v ∧ (aEntry x m2).m = m2 := by
  have hm : ∀ it, mapIt m2 it = mapIt m it := fun it => by unfold mapIt; rw [h]
  unfold aEntry
  rw [h']
  simp only [hm]
  split
  · split
    · split
      · exact fun hk => ⟨rfl, hk, rfl, rfl⟩
      · exact fun hk => hk.elim
    · exact fun hk => hk.elim
  · exact fun hk => hk.elim
theorem update_facts {t : TypeId} {x k v : PV} (m m2 : Hp) (h : m2.o = m.o) : (aMapUpdate P t x k v m).ok → (aMapUpdate P t x k v m).m = { m with o := (aMapUpdate P t x k v m).m.o } ∧ (aMapUpdate P t x k v m2).ok ∧ (aMapUpdate P t x k v m2).v = (aMapUpdate P t x k v m).v ∧ (aMapUpdate P t x k v m2).m.o = (aMapUpdate P t x k v m).m.o := by
  unfold aMapUpdate
  rw [h]
  split
  · split
    · split
      · exact fun hk => ⟨rfl, hk, rfl, rfl⟩
      · exact fun hk => ⟨rfl, hk, rfl, rfl⟩
      · exact fun hk => hk.elim
    · exact fun hk => hk.elim
  · exact fun hk => hk.elim

theorem foot_aop {o : Oper} {ρ : Operand → PV} {m : Hp} (hok : (aop P o ρ m).ok) : Foot P o ρ m (aop P o ρ m).v (aop P o ρ m).m := by
  have nm : NoMem (aop P o ρ) → fp o.op = {} → Foot P o ρ m (aop P o ρ m).v (aop P o ρ m).m := fun h hf => Foot.noMem h (by rw [hf]) (by rw [hf]) (by rw [hf]) (by rw [hf]) (by rw [hf]) (by rw [hf]) hok
  obtain ⟨dst, op, ty, pos, af, guard⟩ := o
  cases op with
  | move x => exact nm (noMem_const) rfl
  | assign x => exact nm (noMem_const) rfl
  | pick c x y => exact nm (noMem_pick) rfl
  | alloc t =>
    cases dst with
    | none => exact hok.elim
    | some d =>
      cases hz : tzero P t with
      | none => simp only [aop, hz] at hok; exact hok.elim
      | some z => exact Foot.newB (d := d) (v := .ptr d 0) (cs := z) (ok := True) rfl (fun m => by simp only [aop, hz, and_true]) rfl hok
  | box t x =>
    cases dst with
    | none => exact hok.elim
    | some d => exact Foot.newB (d := d) rfl (fun m => rfl) rfl hok
  | build t parts => exact nm (noMem_build) rfl
  | buildSlice t len parts =>
    cases dst with
    | none => exact hok.elim
    | some d =>
      cases he : telem P t with
      | none => simp only [aop, aBuildSlice, he] at hok; exact hok.elim
      | some ei => exact Foot.newQ (d := d) rfl (fun m => by simp only [aop, aBuildSlice, he]; rfl) rfl hok
  | load t x => exact foot_load rfl hok
  | store t x y => exact foot_store rfl hok
  | nilCheck x => exact nm (noMem_nilCheck) rfl
  | binOp op t x y yt => exact nm (noMem_bin) rfl
  | unOp op t x => exact nm (noMem_un) rfl
  | convert a b x => exact foot_conv rfl hok
  | makeFunc fn first caps =>
    cases fn with
    | func f => exact foot_makeFunc rfl hok
    | _ => exact hok.elim
  | makeSlice t l c =>
    cases dst with
    | none => exact hok.elim
    | some d =>
      by_cases hl : ∃ k, l = .const (.int k 0)
      · obtain ⟨k, rfl⟩ := hl
        have hop : ∀ m, aop P ⟨some d, .makeSlice t (.const (.int k 0)) c, ty, pos, af, guard⟩ ρ m = aMakeRow P d t (ρ c) m := fun m => rfl
        rw [hop] at hok
        unfold aMakeRow at hok
        split at hok
        · rename_i ei kc n h1 h2
          exact Foot.newQ (d := d) rfl (fun m => by rw [hop]; simp only [aMakeRow, h1, h2]; rfl) rfl (by rw [hop]; unfold aMakeRow; rw [h1, h2]; exact hok)
        · exact hok.elim
      · have hop : ∀ m, aop P ⟨some d, .makeSlice t l c, ty, pos, af, guard⟩ ρ m = aMakeFull P d t (ρ l) (ρ c) m := fun m => by
          unfold aop
          simp only
          split
          · rename_i k; exact absurd ⟨k, rfl⟩ hl
          · rfl
        rw [hop] at hok
        unfold aMakeFull at hok
        split at hok
        · rename_i ei kl n kc n' h1 h2 h3
          split at hok
          · rename_i z hz
            exact Foot.newQ (d := d) rfl (fun m => by rw [hop]; simp only [aMakeFull, h1, h2, h3, hz]; rfl) rfl (by rw [hop]; unfold aMakeFull; rw [h1, h2, h3]; simp only [hz]; exact hok)
          · exact hok.elim
        · exact hok.elim
  | slice t x lo hi mx =>
    refine nm (fun m m2 h => ?_) rfl
    revert h
    unfold aop
    simp only
    split
    · exact noMem_slice m m2
    · exact noMem_fail m m2
  | fieldAddr t x f => exact nm (noMem_fieldAddr) rfl
  | field t x f => exact nm (noMem_field) rfl
  | indexAddr t x i => exact nm (noMem_indexAddr) rfl
  | index t x i => exact nm (noMem_index) rfl
  | extract x i => exact nm (noMem_extract) rfl
  | lookup t x k ok =>
    have hop : ∀ m, aop P ⟨dst, .lookup t x k ok, ty, pos, af, guard⟩ ρ m = aLookup P t (ρ x) (ρ k) ok m := fun m => rfl
    refine foot_map (wo := false) rfl (fun m h => ?_) (fun m2 h1 h2 h => ?_) hok
    · rw [hop] at h ⊢
      have := (lookup_facts m m rfl h).1
      exact ⟨by rw [this], fun _ => by rw [this]⟩
    · rw [hop] at h ⊢
      rw [hop]
      obtain ⟨a1, a2, a3, a4⟩ := lookup_facts _ m2 h1 h
      exact ⟨a2, a3, by rw [a4, a1]; exact h1⟩
  | entry x =>
    have hop : ∀ m, aop P ⟨dst, .entry x, ty, pos, af, guard⟩ ρ m = aEntry (ρ x) m := fun m => rfl
    refine foot_map (wo := false) rfl (fun m h => ?_) (fun m2 h1 h2 h => ?_) hok
    · rw [hop] at h ⊢
      have := (entry_facts m m rfl rfl h).1
      exact ⟨by rw [this], fun _ => by rw [this]⟩
    · rw [hop] at h ⊢
      rw [hop]
      obtain ⟨a1, a2, a3, a4⟩ := entry_facts _ m2 h1 h2 h
      exact ⟨a2, a3, by rw [a4, a1]; exact h1⟩
  | mapUpdate t x k v =>
    exact foot_map (wo := true) rfl (fun m h => ⟨(update_facts m m rfl h).1, fun h => by cases h⟩) (fun m2 h1 h2 h => (update_facts _ m2 h1 h).2) hok
  | call c =>
    obtain ⟨callee, args, ts⟩ := c
    cases callee with
    | builtin b =>
      by_cases hb : b = .append
      · subst hb; exact foot_append rfl hok
      by_cases hb2 : b = .len
      · subst hb2
        have hop : ∀ m, aop P ⟨dst, .call ⟨.builtin .len, args, ts⟩, ty, pos, af, guard⟩ ρ m = aBuiltin P .len ts.toList dst (args.toList.map ρ) m := fun m => rfl
        have key : ∀ m m2 : Hp, m2.o = m.o → (aBuiltin P .len ts.toList dst (args.toList.map ρ) m).ok → (aBuiltin P .len ts.toList dst (args.toList.map ρ) m).m = m ∧ (aBuiltin P .len ts.toList dst (args.toList.map ρ) m2).ok ∧ (aBuiltin P .len ts.toList dst (args.toList.map ρ) m2).v = (aBuiltin P .len ts.toList dst (args.toList.map ρ) m).v ∧ (aBuiltin P .len ts.toList dst (args.toList.map ρ) m2).m = m2 := by
          intro m m2 h
          unfold aBuiltin
          split
          · split
            · exact mapLen_facts m m2 h
            · exact noMem_len m m2
          all_goals first | contradiction | exact noMem_fail m m2
        refine foot_map (wo := false) rfl (fun m h => ?_) (fun m2 h1 h2 h => ?_) hok
        · rw [hop] at h ⊢
          have := (key m m rfl h).1
          exact ⟨by rw [this], fun _ => by rw [this]⟩
        · rw [hop] at h ⊢
          rw [hop]
          obtain ⟨a1, a2, a3, a4⟩ := key m m2 h1 h
          exact ⟨a2, a3, by rw [a4, a1]; exact h1⟩
      · refine nm (fun m m2 h => ?_) (by cases b <;> first | rfl | exact absurd rfl hb | exact absurd rfl hb2)
        revert h
        show (aBuiltin P b ts.toList dst (args.toList.map ρ) m).ok → (aBuiltin P b ts.toList dst (args.toList.map ρ) m).m = m ∧ (aBuiltin P b ts.toList dst (args.toList.map ρ) m2).ok ∧ (aBuiltin P b ts.toList dst (args.toList.map ρ) m2).v = (aBuiltin P b ts.toList dst (args.toList.map ρ) m).v ∧ (aBuiltin P b ts.toList dst (args.toList.map ρ) m2).m = m2
        unfold aBuiltin
        split
        · exact absurd rfl hb2
        · exact absurd rfl hb
        · exact noMem_max m m2
        · exact noMem_min m m2
        · exact noMem_cpx m m2
        · exact noMem_real m m2
        · exact noMem_imag m m2
        · exact noMem_fail m m2
    | _ => exact hok.elim
  | _ => exact hok.elim

theorem foot_step {o : Oper} {ρ : Operand → PV} {m m' : Hp} {v : PV} (h : StepM P o ρ m v m') : Foot P o ρ m v m' := by
  rcases h with ⟨h1, rfl, rfl⟩ | ⟨c, g, args, ho, hc, ⟨hg, hp⟩ | hp, rfl⟩
  · exact foot_aop h1
  · exact foot_call ho hc hg hp
  · exact foot_lent ho hc hp
end
end Go.PL

namespace Go.PL
open Go.RowKit
set_option linter.unusedVariables false

/-- two operations of which the order is open: neither writes what the other one looks at -/
def compat (a b : Op) : Bool :=
  let x := fp a
  let y := fp b
  !(x.wh && (y.rh || y.wh)) && !(y.wh && (x.rh || x.wh)) && !(x.wz && (y.rz || y.wz)) && !(y.wz && (x.rz || x.wz)) && !(x.wq && (y.rq || y.wq)) && !(y.wq && (x.rq || x.wq)) && !(x.wo && (y.ro || y.wo)) && !(y.wo && (x.ro || x.wo))

section
variable {P : Program} {ops : Array Oper}

theorem aop_congr {ρ ρ' : Operand → PV} (o : Oper) (m : Hp) (h : ∀ x ∈ o.op.operands, ρ x = ρ' x) : aop P o ρ m = aop P o ρ' m := by
  obtain ⟨dst, op, ty, pos, af, guard⟩ := o
  have pairs : ∀ ps : Array (Nat × Operand), (∀ x ∈ (ps.toList.map (·.2)).toArray, ρ x = ρ' x) → (ps.toList.map fun x => (x.1, ρ x.2)) = (ps.toList.map fun x => (x.1, ρ' x.2)) := fun ps hp =>
    List.map_congr_left fun p hm => by rw [hp p.2 (by simp only [List.mem_toArray, List.mem_map]; exact ⟨p, hm, rfl⟩)]
  cases op with
  | build t ps => simp only [aop]; rw [pairs ps h]
  | buildSlice t n ps => simp only [aop]; rw [pairs ps h]
  | makeFunc fn first caps =>
    have : caps.toList.map ρ = caps.toList.map ρ' := List.map_congr_left fun x hx => h x (by simp [Op.operands]; right; simpa using hx)
    cases fn <;> simp only [aop, this]
  | makeSlice t l c =>
    have h1 : ρ l = ρ' l := h l (by simp [Op.operands])
    have h2 : ρ c = ρ' c := h c (by simp [Op.operands])
    simp only [aop, h1, h2]
  | slice t x lo hi mx =>
    have h1 : ρ x = ρ' x := h x (by simp [Op.operands])
    have h2 : lo.map ρ = lo.map ρ' := by cases lo with | none => rfl | some y => simp [h y (by simp [Op.operands])]
    have h3 : hi.map ρ = hi.map ρ' := by cases hi with | none => rfl | some y => simp [h y (by simp [Op.operands])]
    simp only [aop, h1, h2, h3]
  | call c =>
    obtain ⟨callee, args, ts⟩ := c
    cases callee with
    | builtin b =>
      have : args.toList.map ρ = args.toList.map ρ' := List.map_congr_left fun x hx => h x (by simp [Op.operands, Call.operands]; simpa using hx)
      simp only [aop, this]
    | _ => rfl
  | pick c x y =>
    simp only [aop, h c (by simp [Op.operands]), h x (by simp [Op.operands]), h y (by simp [Op.operands])]
  | alloc t => rfl
  | move x => simp only [aop, h x (by simp [Op.operands])]
  | assign x => simp only [aop, h x (by simp [Op.operands])]
  | box t x => simp only [aop, h x (by simp [Op.operands])]
  | load t x => simp only [aop, h x (by simp [Op.operands])]
  | store t x y => simp only [aop, h x (by simp [Op.operands]), h y (by simp [Op.operands])]
  | nilCheck x => simp only [aop, h x (by simp [Op.operands])]
  | binOp op t x y yt => simp only [aop, h x (by simp [Op.operands]), h y (by simp [Op.operands])]
  | unOp op t x => simp only [aop, h x (by simp [Op.operands])]
  | convert a b x => simp only [aop, h x (by simp [Op.operands])]
  | fieldAddr t x f => simp only [aop, h x (by simp [Op.operands])]
  | field t x f => simp only [aop, h x (by simp [Op.operands])]
  | indexAddr t x i => simp only [aop, h x (by simp [Op.operands]), h i (by simp [Op.operands])]
  | index t x i => simp only [aop, h x (by simp [Op.operands]), h i (by simp [Op.operands])]
  | extract x i => simp only [aop, h x (by simp [Op.operands])]
  | lookup t x k ok => simp only [aop, h x (by simp [Op.operands]), h k (by simp [Op.operands])]
  | mapUpdate t x k v => simp only [aop, h x (by simp [Op.operands]), h k (by simp [Op.operands]), h v (by simp [Op.operands])]
  | entry x => simp only [aop, h x (by simp [Op.operands])]
  | _ => rfl

theorem stepM_congr {ρ ρ' : Operand → PV} {o : Oper} {m m' : Hp} {v : PV} (h : ∀ x ∈ o.op.operands, ρ x = ρ' x) (hs : StepM P o ρ m v m') : StepM P o ρ' m v m' := by
  rcases hs with ⟨h1, h2, h3⟩ | ⟨c, g, args, ho, hc, hp, rfl⟩
  · rw [aop_congr o m h] at h1 h2 h3; exact .inl ⟨h1, h2, h3⟩
  · refine .inr ⟨c, g, args, ho, ?_, hp, rfl⟩
    rw [← hc]
    rw [ho] at h
    unfold calleeOf
    cases hcal : c.callee with
    | value f =>
      have e1 : ρ f = ρ' f := h f (by simp [Op.operands, Call.operands, hcal])
      have e2 : c.args.toList.map ρ' = c.args.toList.map ρ := List.map_congr_left fun x hx => (h x (by simp [Op.operands, Call.operands]; right; simpa using hx)).symm
      simp only [e1, e2]
    | _ => rfl

/-- what an operation does in a state -/
def Yield (P : Program) (ops : Array Oper) (o : Oper) (s s' : St) : Prop :=
  dstOk s.n o.dst ∧ ((gd ops s o = some true ∧ ∃ v m', StepM P o s.eval s.m v m' ∧ s' = (s.with m').put o.dst v) ∨ (gd ops s o = some false ∧ s' = s.put o.dst (.tup [])))

theorem put_n (s : St) (d : Option Nat) (v : PV) : (s.put d v).n = s.n := by cases d <;> rfl
theorem put_m (s : St) (d : Option Nat) (v : PV) : (s.put d v).m = s.m := by cases d <;> rfl
theorem put_with (s : St) (d : Option Nat) (v : PV) (m : Hp) : (s.put d v).with m = (s.with m).put d v := by cases d <;> rfl
theorem put_fr {s : St} {d : Option Nat} {v : PV} {i : Nat} (h : d ≠ some i) : (s.put d v).fr i = s.fr i := by
  cases d with
  | none => rfl
  | some d => exact upd_ne _ _ (fun e => h (by rw [e]))
theorem put_eval {s : St} {d : Option Nat} {v : PV} {x : Operand} (h : ∀ t, d = some t → x ≠ .tmp t) : (s.put d v).eval x = s.eval x := by
  cases x with
  | tmp t => exact put_fr (fun e => h t e rfl)
  | _ => rfl
theorem with_eval (s : St) (m : Hp) : (s.with m).eval = s.eval := by
  funext x; cases x <;> rfl
theorem put_comm (s : St) {x y : Option Nat} (u v : PV) (h : ∀ d, x = some d → y ≠ some d) : (s.put x u).put y v = (s.put y v).put x u := by
  cases x with
  | none => rfl
  | some d =>
    cases y with
    | none => rfl
    | some e =>
      have hne : d ≠ e := fun he => h d rfl (he ▸ rfl)
      simp only [St.put]
      congr 1
      funext i
      simp only [upd]
      by_cases h1 : e = i
      · by_cases h2 : d = i
        · exact absurd (h2.trans h1.symm) hne
        · simp [h1, h2]
      · simp [h1]

theorem put_gd {s : St} {o : Oper} {d : Option Nat} {v : PV} {m : Hp} (h : ∀ t, d = some t → t ∉ o.looksAt ops) : gd ops ((s.with m).put d v) o = gd ops s o := by
  unfold gd
  cases hg : o.guard with
  | none => rfl
  | some jw =>
    obtain ⟨j, want⟩ := jw
    simp only
    cases hd : (ops[j]?).bind (·.dst) with
    | none => rfl
    | some t =>
      simp only [put_n]
      have : d ≠ some t := fun e => h t e (by unfold Oper.looksAt; rw [hg]; simp [hd])
      rw [put_fr this]
      rfl

theorem looks_ops {o : Oper} {d : Option Nat} (h : ∀ t, d = some t → t ∉ o.looksAt ops) : ∀ x ∈ o.op.operands, ∀ t, d = some t → x ≠ .tmp t := fun x hx t ht e => by
  refine h t ht ?_
  subst e
  unfold Oper.looksAt
  exact List.mem_append_left _ (List.mem_filterMap.2 ⟨.tmp t, by simpa using hx, rfl⟩)

theorem refs_live {s : St} (hr : Refs s) (o : Oper) : ∀ r ∈ refsOf o s.eval, Live s.m r := fun r h => by
  unfold refsOf at h
  obtain ⟨x, _, hx⟩ := List.mem_flatMap.1 h
  cases x with
  | tmp t => exact hr.fr t r hx
  | const v => simp [St.eval, ids_ofVal] at hx
  | func f => simp [St.eval, PV.ids, PV.idsL] at hx
  | _ => simp [St.eval, PV.ids] at hx

theorem hp_ext {a b : Hp} (h1 : ∀ i, a.hv i = b.hv i) (h2 : ∀ i, a.z i = b.z i) (h3 : ∀ i, a.q i = b.q i) (h4 : a.o = b.o) (h5 : a.io = b.io) : a = b := by
  cases a; cases b; simp only [Hp.mk.injEq]; exact ⟨funext fun i => h1 (.b i), funext h2, funext h3, h4, congrArg (fun x => x.1) h5, congrArg (fun x => x.2.1) h5, funext fun i => h1 (.r i), congrArg (fun x => x.2.2.1) h5, congrArg (fun x => x.2.2.2.1) h5, congrArg (fun x => x.2.2.2.2) h5⟩

/-- two operations of which neither looks at what the other one writes may change places -/
theorem yield_swap {s s1 s2 : St} {oi oj : Oper} (hr : Refs s) (hap : oi.apart ops oj = true) (hcp : compat oi.op oj.op = true) (h1 : Yield P ops oi s s1) (h2 : Yield P ops oj s1 s2) :
    ∃ s1', Yield P ops oj s s1' ∧ Yield P ops oi s1' s2 := by
  obtain ⟨a1, a2, a3⟩ := Oper.apart_spec hap
  obtain ⟨d1, h1⟩ := h1
  obtain ⟨d2, h2⟩ := h2
  have n1 : s1.n = s.n := by rcases h1 with ⟨_, v, m', _, rfl⟩ | ⟨_, rfl⟩ <;> simp [put_n, St.with]
  rw [n1] at d2
  have ej : ∀ x ∈ oj.op.operands, s1.eval x = s.eval x := fun x hx => by
    rcases h1 with ⟨_, v, m', _, rfl⟩ | ⟨_, rfl⟩
    · rw [put_eval (looks_ops a1 x hx), with_eval]
    · rw [put_eval (looks_ops a1 x hx)]
  have gj : gd ops s1 oj = gd ops s oj := by
    rcases h1 with ⟨_, v, m', _, rfl⟩ | ⟨_, rfl⟩
    · exact put_gd a1
    · exact put_gd (m := s.m) a1
  have a2' : ∀ d, oj.dst = some d → oi.dst ≠ some d := fun d hd e => a2 d e hd
  rcases h1 with ⟨g1, vi, mi, st1, rfl⟩ | ⟨g1, rfl⟩
  · rcases h2 with ⟨g2, vj, mj, st2, rfl⟩ | ⟨g2, rfl⟩
    · -- both are carried out
      rw [put_m] at st2
      have st2' : StepM P oj s.eval mi vj mj := stepM_congr ej st2
      have F1 := foot_step st1
      have F2 := foot_step st2'
      have Li := refs_live hr oi
      have Lj := refs_live hr oj
      simp only [compat, Bool.and_eq_true, Bool.not_eq_true', Bool.and_eq_false_imp, Bool.or_eq_false_iff] at hcp
      obtain ⟨⟨⟨⟨⟨⟨⟨c1, c2⟩, c3⟩, c4⟩, c5⟩, c6⟩, c7⟩, c8⟩ := hcp
      have dne : ∀ i, oi.dst = some i → oj.dst = some i → False := fun i h h' => a2 i h h'
      -- what the second one makes anew was not there before the first one
      have nbj : (fp oj.op).nb = true → ∀ i, oj.dst = some i → s.m.h i = none := fun hb i hi => by
        have h0 := F2.hn hb i hi
        refine Decidable.byContradiction fun hne => ?_
        exact F1.hl i hne h0
      have nqj : (fp oj.op).nq = true → ∀ i, oj.dst = some i → s.m.q i = none := fun hb i hi => by
        have h0 := F2.qn hb i hi
        refine Decidable.byContradiction fun hne => ?_
        exact F1.ql i hne h0
      obtain ⟨ma, sta, ah, az, aq, ao, ai⟩ := F2.re s.m
        (fun hrh i hi => by
          refine (F1.h1 i ?_).symm
          rintro (⟨w, _⟩ | ⟨nb, d, hd, rfl⟩)
          · have := (c1 w).1; rw [hrh] at this; cases this
          · exact Lj _ hi (F1.hn nb d hd))
        (fun hrz i hi => by
          refine (F1.z1 i ?_).symm
          rintro (⟨w, _⟩ | ⟨nb, hd⟩)
          · have := (c3 w).1; rw [hrz] at this; cases this
          · exact Lj _ hi (F1.hn nb i hd))
        (fun hrq i hi => by
          refine (F1.q1 i ?_).symm
          rintro (⟨w, _⟩ | ⟨nq, hd⟩)
          · have := (c5 w).1; rw [hrq] at this; cases this
          · rcases hi with hi | hi
            · exact Lj _ hi (F1.qn nq i hd)
            · exact dne i hd hi)
        nbj nqj
        (fun hro => by
          refine (F1.o1 ?_).symm
          cases hw : (fp oi.op).wo with
          | false => rfl
          | true => have := (c7 hw).1; rw [hro] at this; cases this) F1.i1.symm
      obtain ⟨mb, stb, bh, bz, bq, bo, bi⟩ := F1.re ma
        (fun hrh i hi => by
          refine (ah i).2 ?_
          rintro (⟨w, _⟩ | ⟨nb, d, hd, rfl⟩)
          · have := (c2 w).1; rw [hrh] at this; cases this
          · exact Li _ hi (nbj nb d hd))
        (fun hrz i hi => by
          refine (az i).2 ?_
          rintro (⟨w, _⟩ | ⟨nb, hd⟩)
          · have := (c4 w).1; rw [hrz] at this; cases this
          · exact Li _ hi (nbj nb i hd))
        (fun hrq i hi => by
          refine (aq i).2 ?_
          rintro (⟨w, _⟩ | ⟨nq, hd⟩)
          · have := (c6 w).1; rw [hrq] at this; cases this
          · rcases hi with hi | hi
            · exact Li _ hi (nqj nq i hd)
            · exact dne i hi hd)
        (fun nb i hd => by
          refine ((ah (.b i)).2 ?_).trans (F1.hn nb i hd)
          rintro (⟨_, hi⟩ | ⟨_, d, hd', e⟩)
          · exact Lj _ hi (F1.hn nb i hd)
          · cases e; exact dne i hd hd')
        (fun nq i hd => by
          refine ((aq i).2 ?_).trans (F1.qn nq i hd)
          rintro (⟨w, hi⟩ | ⟨_, hd'⟩)
          · rcases hi with hi | hi
            · exact Lj _ hi (F1.qn nq i hd)
            · exact dne i hd hi
          · exact dne i hd hd')
        (fun hro => by
          refine ao.2 ?_
          cases hw : (fp oj.op).wo with
          | false => rfl
          | true => have := (c8 hw).1; rw [hro] at this; cases this) ai
      have em : mb = mj := by
        refine hp_ext (fun i => ?_) (fun i => ?_) (fun i => ?_) ?_ (by rw [bi, ai, F2.i1, F1.i1])
        · by_cases wi : Wh oi s.eval i
          · rw [(bh i).1 wi]
            refine (F2.h1 i ?_).symm
            rintro (⟨w, hi⟩ | ⟨nb, d, hd, e⟩)
            · rcases wi with ⟨w', _⟩ | ⟨nb', d', hd', e'⟩
              · have := (c1 w').2; rw [w] at this; cases this
              · subst e'; exact Lj _ hi (F1.hn nb' d' hd')
            · subst e
              rcases wi with ⟨_, hi'⟩ | ⟨_, d', hd', e'⟩
              · exact Li _ hi' (nbj nb d hd)
              · cases e'; exact dne d hd' hd
          · rw [(bh i).2 wi]
            by_cases wj : Wh oj s.eval i
            · exact (ah i).1 wj
            · rw [(ah i).2 wj, F2.h1 i wj, F1.h1 i wi]
        · by_cases wi : Wz oi s.eval i
          · rw [(bz i).1 wi]
            refine (F2.z1 i ?_).symm
            rintro (⟨w, hi⟩ | ⟨nb, hd⟩)
            · rcases wi with ⟨w', _⟩ | ⟨nb', hd'⟩
              · have := (c3 w').2; rw [w] at this; cases this
              · exact Lj _ hi (F1.hn nb' i hd')
            · rcases wi with ⟨_, hi'⟩ | ⟨_, hd'⟩
              · exact Li _ hi' (nbj nb i hd)
              · exact dne i hd' hd
          · rw [(bz i).2 wi]
            by_cases wj : Wz oj s.eval i
            · exact (az i).1 wj
            · rw [(az i).2 wj, F2.z1 i wj, F1.z1 i wi]
        · by_cases wi : Wq oi s.eval i
          · rw [(bq i).1 wi]
            refine (F2.q1 i ?_).symm
            rintro (⟨w, hi⟩ | ⟨nq, hd⟩)
            · rcases wi with ⟨w', _⟩ | ⟨nq', hd'⟩
              · have := (c5 w').2; rw [w] at this; cases this
              · rcases hi with hi | hi
                · exact Lj _ hi (F1.qn nq' i hd')
                · exact dne i hd' hi
            · rcases wi with ⟨_, hi'⟩ | ⟨_, hd'⟩
              · rcases hi' with hi' | hi'
                · exact Li _ hi' (nqj nq i hd)
                · exact dne i hi' hd
              · exact dne i hd' hd
          · rw [(bq i).2 wi]
            by_cases wj : Wq oj s.eval i
            · exact (aq i).1 wj
            · rw [(aq i).2 wj, F2.q1 i wj, F1.q1 i wi]
        · cases hwi : (fp oi.op).wo with
          | true =>
            rw [bo.1 hwi]
            refine (F2.o1 ?_).symm
            cases hwj : (fp oj.op).wo with
            | false => rfl
            | true => have := (c7 hwi).2; rw [hwj] at this; cases this
          | false =>
            rw [bo.2 hwi]
            cases hwj : (fp oj.op).wo with
            | true => exact ao.1 hwj
            | false => rw [ao.2 hwj, F2.o1 hwj, F1.o1 hwi]
      subst em
      refine ⟨(s.with ma).put oj.dst vj, ⟨d2, .inl ⟨by rw [← gj]; exact g2, vj, ma, sta, rfl⟩⟩, by rw [put_n]; exact d1, .inl ⟨by rw [put_gd a3]; exact g1, vi, mb, ?_, ?_⟩⟩
      · rw [put_m]
        refine stepM_congr (fun x hx => ?_) stb
        rw [put_eval (looks_ops a3 x hx), with_eval]
      · rw [put_with, put_with, put_comm _ _ _ a2]; rfl
    · refine ⟨s.put oj.dst (.tup []), ⟨d2, .inr ⟨by rw [← gj]; exact g2, rfl⟩⟩, by rw [put_n]; exact d1, .inl ⟨by rw [show s.put oj.dst (.tup []) = (s.with s.m).put oj.dst (.tup []) from rfl, put_gd a3]; exact g1, vi, mi, ?_, ?_⟩⟩
      · rw [put_m]
        exact stepM_congr (fun x hx => by rw [put_eval (looks_ops a3 x hx)]) st1
      · rw [put_with, put_comm _ _ _ a2]
  · rcases h2 with ⟨g2, vj, mj, st2, rfl⟩ | ⟨g2, rfl⟩
    · rw [put_m] at st2
      refine ⟨(s.with mj).put oj.dst vj, ⟨d2, .inl ⟨by rw [← gj]; exact g2, vj, mj, stepM_congr ej st2, rfl⟩⟩, by rw [put_n]; exact d1, .inr ⟨by rw [put_gd a3]; exact g1, ?_⟩⟩
      rw [put_with, put_comm _ _ _ a2]
    · refine ⟨s.put oj.dst (.tup []), ⟨d2, .inr ⟨by rw [← gj]; exact g2, rfl⟩⟩, by rw [put_n]; exact d1, .inr ⟨by rw [show s.put oj.dst (.tup []) = (s.with s.m).put oj.dst (.tup []) from rfl, put_gd a3]; exact g1, ?_⟩⟩
      rw [put_comm _ _ _ a2]
end
end Go.PL

namespace Go.PL
open Go.RowKit
set_option linter.unusedVariables false

section
variable {P : Program} {ops : Array Oper}

theorem PV.mem_didsL {id : Ref} : ∀ {cs : List PV}, id ∈ PV.didsL cs ↔ ∃ c ∈ cs, id ∈ c.dids
  | [] => by simp [PV.didsL]
  | c :: cs => by simp [PV.didsL, PV.mem_didsL (cs := cs)]
theorem didsL_sub {l l' : List PV} (h : ∀ c ∈ l, c ∈ l') {i : Ref} (hi : i ∈ PV.didsL l) : i ∈ PV.didsL l' := by
  obtain ⟨c, hc, hr⟩ := PV.mem_didsL.1 hi
  exact PV.mem_didsL.2 ⟨c, h c hc, hr⟩
mutual
theorem ids_dids : ∀ (p : PV) {r : Ref}, r ∈ p.ids → r ∈ p.dids
  | .ptr _ _, r, h => h
  | .osl _ _ _ _, r, h => h
  | .sl t es, r, h => by cases t <;> simp [PV.ids] at h; subst h; simp [PV.dids]
  | .agg cs, r, h => by simp only [PV.ids, PV.dids] at *; exact idsL_didsL cs h
  | .tup cs, r, h => by simp only [PV.ids, PV.dids] at *; exact idsL_didsL cs h
  | .fn _ cs, r, h => by simp only [PV.ids, PV.dids] at *; exact idsL_didsL cs h
  | .any, r, h => by simp [PV.ids] at h
  | .int _ _, r, h => by simp [PV.ids] at h
  | .bool _, r, h => by simp [PV.ids] at h
  | .str _, r, h => by simp [PV.ids] at h
  | .flt _ _, r, h => by simp [PV.ids] at h
  | .cpx _ _ _, r, h => by simp [PV.ids] at h
  | .rptr _, r, h => by simp [PV.ids] at h
  | .nilp, r, h => by simp [PV.ids] at h
  | .nilfn, r, h => by simp [PV.ids] at h
  | .nilmap, r, h => by simp [PV.ids] at h
  | .mref _, r, h => by simp [PV.ids] at h
  | .rmap _ _, r, h => by simp [PV.ids] at h
  | .vsl _ _ _, r, h => h
  | .vptr _ _ _ _ _, r, h => h
  | .iptr _, r, h => by simp [PV.ids] at h
theorem idsL_didsL : ∀ (cs : List PV) {r : Ref}, r ∈ PV.idsL cs → r ∈ PV.didsL cs
  | [], r, h => by simp [PV.idsL] at h
  | c :: cs, r, h => by
    simp only [PV.idsL, PV.didsL, List.mem_append] at *
    exact h.imp (ids_dids c) (idsL_didsL cs)
end
theorem dids_ofAtom (v : Value) : (ofAtom v).dids = [] := by unfold ofAtom; split <;> rfl
theorem didsL_ofAtom (l : List Value) : PV.didsL (l.map ofAtom) = [] := by
  induction l with
  | nil => rfl
  | cons a l ih => simp [PV.didsL, dids_ofAtom, ih]
theorem dids_ofVal (v : Value) : (ofVal v).dids = [] := by
  unfold ofVal
  split
  · simp [PV.dids, didsL_ofAtom]
  · split <;> rfl
  · exact dids_ofAtom _
theorem sl_dids {t : Tok} {es : List PV} {r : Ref} (h : r ∈ PV.didsL es) : r ∈ (PV.sl t es).dids := by
  cases t <;> simp [PV.dids, h]
theorem cells_dids {p c : PV} (hc : c ∈ p.cells) {k : Ref} (hk : k ∈ c.dids) : k ∈ p.dids := by
  cases p with
  | agg cs => simp only [PV.cells] at hc; simp only [PV.dids]; exact PV.mem_didsL.2 ⟨c, hc, hk⟩
  | _ => simp only [PV.cells, List.mem_singleton] at hc; subst hc; exact hk
theorem getD_ids {cs : List PV} {o : Nat} {r : Ref} (h : r ∈ (cs.getD o .any).dids) : r ∈ PV.didsL cs := by
  rw [List.getD_eq_getElem?_getD] at h
  cases hg : cs[o]? with
  | none => rw [hg] at h; simp [PV.dids] at h
  | some c => rw [hg] at h; exact PV.mem_didsL.2 ⟨c, List.mem_of_getElem? hg, h⟩

theorem partPV_ids {ag : Bool} {sz : Nat} {cs : List PV} {o : Nat} {r : Ref} (h : r ∈ (partPV ag sz cs o).dids) : r ∈ PV.didsL cs := by
  unfold partPV at h
  split at h
  · simp only [PV.dids] at h
    exact didsL_sub (fun c hc => List.mem_of_mem_drop (List.mem_of_mem_take hc)) h
  · exact getD_ids h

theorem splice_ids {cs ns : List PV} {o : Nat} {r : Ref} (h : r ∈ PV.didsL (splice cs o ns)) : r ∈ PV.didsL cs ∨ r ∈ PV.didsL ns := by
  obtain ⟨c, hc, hr⟩ := PV.mem_didsL.1 h
  unfold splice at hc
  rw [List.mem_append, List.mem_append] at hc
  rcases hc with (hc | hc) | hc
  · exact .inl (PV.mem_didsL.2 ⟨c, List.mem_of_mem_take hc, hr⟩)
  · exact .inr (PV.mem_didsL.2 ⟨c, hc, hr⟩)
  · exact .inl (PV.mem_didsL.2 ⟨c, List.mem_of_mem_drop hc, hr⟩)

theorem cellsL_ids {p : PV} {r : Ref} (h : r ∈ PV.didsL p.cells) : r ∈ p.dids := by
  obtain ⟨c, hc, hr⟩ := PV.mem_didsL.1 h
  exact cells_dids hc hr

theorem fill_ids {place : Nat → Option (Nat × Nat)} : ∀ (l : List (Nat × PV)) (cs cs' : List PV), fillPV place cs l = some cs' → ∀ r ∈ PV.didsL cs', r ∈ PV.didsL cs ∨ ∃ x ∈ l, r ∈ x.2.dids
  | [], cs, cs', h, r, hr => by
    simp only [fillPV, Option.some.injEq] at h; subst h; exact .inl hr
  | (i, p) :: rest, cs, cs', h, r, hr => by
    simp only [fillPV] at h
    split at h
    · cases h
    · split at h
      · rcases fill_ids rest _ _ h r hr with h1 | ⟨x, hx, h1⟩
        · rcases splice_ids h1 with h2 | h2
          · exact .inl h2
          · exact .inr ⟨(i, p), by simp, cellsL_ids h2⟩
        · exact .inr ⟨x, by simp [hx], h1⟩
      · cases h

theorem zero_ids {t : TypeId} {z : List PV} (h : tzero P t = some z) : PV.didsL z = [] := by
  unfold tzero aMakeFull.tbdz at h
  split at h
  · split at h
    · split at h
      · simp only [Option.some.injEq] at h
        subst h
        rw [List.eq_nil_iff_forall_not_mem]
        intro r hr
        have := cellsL_ids hr
        rw [dids_ofVal] at this
        cases this
      · cases h
    · cases h
  · cases h

theorem tz_ids {t : TypeId} {z : PV} (h : aMakeFull.tz P t = some z) : z.dids = [] := by
  unfold aMakeFull.tz at h
  split at h
  · split at h
    · split at h
      · simp only [Option.some.injEq] at h
        subst h
        exact dids_ofVal _
      · cases h
    · cases h
  · cases h

theorem ofVal_cells_ids (v : Value) : PV.didsL (ofVal v).cells = [] := by
  rw [List.eq_nil_iff_forall_not_mem]
  intro r hr
  have := cellsL_ids hr
  rw [dids_ofVal] at this
  cases this

/-- what the operands lean on, all that lies below them too -/
def drefsOf (o : Oper) (ρ : Operand → PV) : List Ref := o.op.operands.toList.flatMap fun x => (ρ x).dids

theorem mem_refs {o : Oper} {ρ : Operand → PV} {x : Operand} {r : Ref} (hx : x ∈ o.op.operands.toList) (h : r ∈ (ρ x).dids) : r ∈ drefsOf o ρ := List.mem_flatMap.2 ⟨x, hx, h⟩

theorem fail_ids {r : Ref} : r ∉ (ARes.fail).v.dids := by simp [ARes.fail, PV.dids]
theorem v_field {t : TypeId} {x : PV} {f : Nat} {m : Hp} : ∀ r ∈ (aField P t x f m).v.dids, r ∈ x.dids := by
  intro r; unfold aField; split
  · exact fun h => by simpa [PV.dids] using partPV_ids h
  · exact fun h => absurd h fail_ids
theorem drop_ids {cs : List PV} {n : Nat} {r : Ref} (h : r ∈ PV.didsL (cs.drop n)) : r ∈ PV.didsL cs := didsL_sub (fun c hc => List.mem_of_mem_drop hc) h
theorem v_fieldAddr {t : TypeId} {x : PV} {f : Nat} {m : Hp} : ∀ r ∈ (aFieldAddr P t x f m).v.dids, r ∈ x.dids := by
  intro r; unfold aFieldAddr; split
  · exact fun h => h
  · exact fun h => by simp only [PV.dids] at *; exact drop_ids h
  · exact fun h => h
  · exact fun h => absurd h fail_ids
theorem v_index {t : TypeId} {x i : PV} {m : Hp} : ∀ r ∈ (aIndex P t x i m).v.dids, r ∈ x.dids := by
  intro r; unfold aIndex; split
  · exact fun h => by simpa [PV.dids] using partPV_ids h
  · exact fun h => by simp [PV.dids] at h
  · exact fun h => absurd h fail_ids
theorem v_indexAddr {t : TypeId} {x i : PV} {m : Hp} : ∀ r ∈ (aIndexAddr P t x i m).v.dids, r ∈ x.dids := by
  intro r; unfold aIndexAddr; split
  · exact fun h => by simp only [PV.dids] at h; exact sl_dids (getD_ids (cellsL_ids h))
  · exact fun h => h
  · exact fun h => h
  · exact fun h => by simp only [PV.dids] at *; exact drop_ids h
  · exact fun h => h
  · exact fun h => h
  · exact fun h => absurd h fail_ids
theorem v_none {a : ARes} (h : a.v.dids = []) {r : Ref} : r ∉ a.v.dids := by rw [h]; simp
theorem v_int {op : BinOp} {k k' : IntKind} {x y : Int} {m : Hp} : (aInt op k k' x y m).v.dids = [] := by
  unfold aInt; split <;> rfl
theorem v_str {op : BinOp} {x y : List UInt8} {m : Hp} : (aStr op x y m).v.dids = [] := by
  unfold aStr; split <;> rfl
theorem v_flt {op : BinOp} {k k' : FloatKind} {x y : Nat} {m : Hp} : (aFlt op k k' x y m).v.dids = [] := by
  unfold aFlt; split <;> rfl
theorem v_eq {b : Bool} {r : Option Bool} {m : Hp} : (aEq b r m).v.dids = [] := by
  unfold aEq; split <;> rfl
theorem v_eql {b : Bool} {t : TypeId} {x y : PV} {m : Hp} : (aEql P b t x y m).v.dids = [] := by
  unfold aEql; repeat' split
  all_goals first | rfl | exact v_eq
theorem v_bin {op : BinOp} {t : TypeId} {x y : PV} {m : Hp} : (aBin P op t x y m).v.dids = [] := by
  unfold aBin; repeat' split
  all_goals first | rfl | exact v_int | exact v_str | exact v_flt | exact v_eql
theorem v_un {op : UnOp} {x : PV} {m : Hp} : (aUn op x m).v.dids = [] := by
  unfold aUn; split <;> rfl
theorem v_conv {a b : TypeId} {x : PV} {m : Hp} : (aConv P a b x m).v.dids = [] := by
  unfold aConv; split <;> first | rfl | (split <;> first | rfl | (split <;> rfl))
theorem v_len {t : TypeId} {x : PV} {m : Hp} : (aLen P t x m).v.dids = [] := by
  unfold aLen; split <;> rfl
theorem v_max {x y : PV} {m : Hp} : (aMax x y m).v.dids = [] := by
  unfold aMax; split <;> rfl
theorem v_min {x y : PV} {m : Hp} : (aMin x y m).v.dids = [] := by
  unfold aMin; split <;> rfl
theorem v_cpx {x y : PV} {m : Hp} : (aCpx x y m).v.dids = [] := by
  unfold aCpx; split <;> rfl
theorem v_real {x : PV} {m : Hp} : (aReal x m).v.dids = [] := by
  unfold aReal; split <;> rfl
theorem v_imag {x : PV} {m : Hp} : (aImag x m).v.dids = [] := by
  unfold aImag; split <;> rfl
theorem v_extract {x : PV} {i : Nat} {m : Hp} : ∀ r ∈ (aExtract x i m).v.dids, r ∈ x.dids := by
  intro r; unfold aExtract; split
  · exact fun h => by simpa [PV.dids] using getD_ids h
  · exact fun h => absurd h fail_ids
theorem v_nilCheck {x : PV} {m : Hp} : ∀ r ∈ (aNilCheck x m).v.dids, r ∈ x.dids := by
  intro r; unfold aNilCheck; split <;> first | exact fun h => h | exact fun h => absurd h fail_ids
theorem v_pick {c x y : PV} {m : Hp} : ∀ r ∈ (aPick c x y m).v.dids, r ∈ x.dids ∨ r ∈ y.dids := by
  intro r; unfold aPick; split <;> first | exact fun h => .inl h | exact fun h => .inr h | exact fun h => absurd h fail_ids
theorem v_build {t : TypeId} {l : List (Nat × PV)} {m : Hp} : ∀ r ∈ (aBuild P t l m).v.dids, ∃ x ∈ l, r ∈ x.2.dids := by
  intro r
  have key : ∀ {z : List PV} {pl cs}, PV.didsL z = [] → fillPV pl z l = some cs → r ∈ PV.didsL cs → ∃ x ∈ l, r ∈ x.2.dids := fun hz hf hr => by
    rcases fill_ids _ _ _ hf r hr with h | h
    · rw [hz] at h; cases h
    · exact h
  have tz : ∀ fs z, tbd P t = .str fs z → PV.didsL z = [] := fun fs z h => by
    unfold tbd at h
    repeat' split at h
    all_goals first | (cases h; exact ofVal_cells_ids _) | cases h
  have tz2 : ∀ n z, tbd P t = .arr n z → PV.didsL z = [] := fun fs z h => by
    unfold tbd at h
    repeat' split at h
    all_goals first | (cases h; exact ofVal_cells_ids _) | cases h
  unfold aBuild
  split
  · rename_i fs z hz
    split
    · rename_i cs hf; exact fun h => key (tz _ _ hz) hf (by simpa [PV.dids] using h)
    · exact fun h => absurd h fail_ids
  · rename_i fs z hz
    split
    · rename_i cs hf; exact fun h => key (tz2 _ _ hz) hf (by simpa [PV.dids] using h)
    · exact fun h => absurd h fail_ids
  · exact fun h => absurd h fail_ids
theorem v_slice {t : TypeId} {x : PV} {lo hi : Option PV} {m : Hp} : ∀ r ∈ (aSlice P t x lo hi m).v.dids, r ∈ x.dids := by
  intro r; unfold aSlice; repeat' split
  all_goals first | exact fun h => h | exact fun h => absurd h fail_ids | (exact fun h => sl_dids (didsL_sub (fun c hc => List.mem_of_mem_drop (List.mem_of_mem_take hc)) h)) | exact fun h => by simp [PV.dids] at h
end
end Go.PL

namespace Go.PL
open Go.RowKit
set_option linter.unusedVariables false

section
variable {P : Program} {ops : Array Oper}

/-- what is told leans on what is there, all that lies below too -/
structure RefsD (s : St) : Prop where
  fr : ∀ i r, r ∈ (s.fr i).dids → Live s.m r
  h : ∀ i cs, s.m.h i = some cs → ∀ c ∈ cs, ∀ r ∈ c.dids, Live s.m r
  o : ∀ b c, s.m.o b = some c → ∀ r, (r ∈ PV.didsL c.ks ∨ r ∈ PV.didsL c.vs) → Live s.m r
  it : ∀ b x c, s.m.it b = some x → x.c = some c → ∀ r, ¬ (r ∈ PV.didsL c.ks ∨ r ∈ PV.didsL c.vs)
  v : ∀ i es, s.m.v i = some es → ∀ r ∈ PV.didsL es, Live s.m r
  om : ∀ b c, s.m.om b = some c → ∀ r ∈ PV.didsL c.vs, Live s.m r

theorem RefsD.refs {s : St} (h : RefsD s) : Refs s := ⟨fun i r hr => h.fr i r (ids_dids _ hr), fun i cs hi c hc r hr => h.h i cs hi c hc r (ids_dids _ hr), fun i es hi p hp r hr => h.v i es hi r (PV.mem_didsL.2 ⟨p, hp, ids_dids _ hr⟩), fun b c hb p hp r hr => h.om b c hb r (PV.mem_didsL.2 ⟨p, hp, ids_dids _ hr⟩)⟩

theorem Rep.clean_dids {S : Stable} {v : Value} {p : PV} (r : Rep S v p) : ∀ k, k ∉ p.dids := by
  have go : ∀ (cs : List PV), (∀ i, i < cs.length → ∀ k, k ∉ (cs.getD i .any).dids) → ∀ k, k ∉ PV.didsL cs := fun cs h k hk => by
    obtain ⟨c, hc, hkc⟩ := PV.mem_didsL.1 hk
    obtain ⟨j, hj, rfl⟩ := List.getElem_of_mem hc
    have := h j hj k; rw [getD_lt hj] at this; exact this hkc
  induction r with
  | agg vs cs hl _ ih => intro k hk; exact go cs ih k (by simpa [PV.dids] using hk)
  | tup vs cs hl _ ih => intro k hk; exact go cs ih k (by simpa [PV.dids] using hk)
  | fn f vs cs hl _ ih => intro k hk; exact go cs ih k (by simpa [PV.dids] using hk)
  | slf v es r hz ih => intro k hk; exact ih k (by simpa [PV.dids] using hk)
  | rptr b o cs vals hS _ ih => intro k hk; exact go cs ih k (by simpa [PV.dids] using hk)
  | rmap b es ks vs h1 h2 h3 h4 h5 h6 ihK ihV =>
    intro k hk
    simp only [PV.dids, List.mem_append] at hk
    rcases hk with hk | hk
    · exact go ks ihK k hk
    · exact go vs (fun i hi => ihV i (by omega)) k hk
  | sl b o cap sz es vals hsz hcap hS _ ih =>
    intro k hk
    refine go es (fun i hi k hk => ?_) k (by simpa [PV.dids] using hk)
    have hc := go (es.getD i .any).cells (fun j hj => ih i j hi (by rw [hsz i hi] at hj; exact hj)) k
    refine hc ?_
    cases hp : es.getD i .any with
    | agg cs => rw [hp] at hk; simpa [PV.cells, PV.dids] using hk
    | _ => rw [hp] at hk; simpa [PV.cells, PV.didsL] using hk
  | _ => intro k hk; simp [PV.dids, PV.didsL] at hk

theorem RepS.dids_ids {S : Stable} {M : Maps} {q : Rows} {v : Value} {p : PV} (r : RepS S M q v p) : ∀ k ∈ p.dids, k ∈ p.ids := by
  have go : ∀ (cs : List PV), (∀ i, i < cs.length → ∀ k ∈ (cs.getD i .any).dids, k ∈ (cs.getD i .any).ids) → ∀ k ∈ PV.didsL cs, k ∈ PV.idsL cs := fun cs h k hk => by
    obtain ⟨c, hc, hkc⟩ := PV.mem_didsL.1 hk
    obtain ⟨j, hj, rfl⟩ := List.getElem_of_mem hc
    have := h j hj k; rw [getD_lt hj] at this; exact PV.mem_idsL.2 ⟨_, hc, this hkc⟩
  induction r with
  | clean r => exact fun k hk => absurd hk (r.clean_dids k)
  | ptr id off => exact fun k hk => hk
  | osl id off len cap sz hc => exact fun k hk => hk
  | vsl id len sz v hv t => exact fun k hk => hk
  | vptr id n sz i off v hv hi t => exact fun k hk => hk
  | row id v es r t =>
    intro k hk
    simp only [PV.dids, List.mem_cons] at hk
    rcases hk with rfl | hk
    · simp [PV.ids]
    · exact absurd (by simpa [PV.dids] using hk) (r.clean_dids k)
  | agg vs cs hl _ ih => intro k hk; simp only [PV.dids, PV.ids] at *; exact go cs ih k hk
  | tup vs cs hl _ ih => intro k hk; simp only [PV.dids, PV.ids] at *; exact go cs ih k hk
  | fn f vs cs hl _ ih => intro k hk; simp only [PV.dids, PV.ids] at *; exact go cs ih k hk
theorem Sim.refsD {B : Frm} {S : Stable} {M : Maps} {s : St} {a : Act} {w : World} (hs : Sim B S M s a w) : RefsD s := by
  have clean : ∀ (ks vs : List PV) (es : List MapEntry), vs.length = ks.length → (∀ i, i < ks.length → Rep S (es.getD i default).key (ks.getD i .any)) → (∀ i, i < ks.length → Rep S (es.getD i default).val (vs.getD i .any)) → ∀ r, ¬ (r ∈ PV.didsL ks ∨ r ∈ PV.didsL vs) := fun ks vs es e3 e5 e6 r hr => by
    rcases hr with hr | hr
    · obtain ⟨x, hx, hxr⟩ := PV.mem_didsL.1 hr
      obtain ⟨j, hj, rfl⟩ := List.getElem_of_mem hx
      have := (e5 j hj).clean_dids r
      rw [getD_lt hj] at this
      exact this hxr
    · obtain ⟨x, hx, hxr⟩ := PV.mem_didsL.1 hr
      obtain ⟨j, hj, rfl⟩ := List.getElem_of_mem hx
      have := (e6 j (by omega)).clean_dids r
      rw [getD_lt hj] at this
      exact this hxr
  refine ⟨fun i r hr => hs.ids i r ((hs.fr i).dids_ids r hr), fun i cs hi c hc r hr => ?_, fun b c hc r hr => ?_, fun b x c hx hc r hr => ?_, fun i es hi r hr => ?_, fun b c hc r hr => ?_⟩
  rotate_left
  · obtain ⟨_, _, es, e1, e2, e3, e4, e5, e6⟩ := hs.stable.o b c hc
    exact absurd hr (clean _ _ es e3 e5 e6 r)
  · obtain ⟨es, e1, e2, e3, e4, e5, e6⟩ := (hs.stable.i b x hx).2.2 c hc
    exact clean _ _ es e3 e5 e6 r hr
  · obtain ⟨sz, e, q1, k1, k2, k3⟩ := hs.vc i es hi
    obtain ⟨p, hp, hpr⟩ := PV.mem_didsL.1 hr
    obtain ⟨j, hj, rfl⟩ := List.getElem_of_mem hp
    obtain ⟨o1, o2⟩ := hs.row i _ q1
    cases hκ : M.κ i with
    | zero => have := o1 hκ; omega
    | succ c =>
      obtain ⟨_, _, _, ⟨vs, g5, g6⟩, _⟩ := o2 c hκ
      have g7 := k3 c hκ vs e (0, 0) g5
      -- the element's cells
      have hx := k1 _ hp
      have hin : ∃ x ∈ es[j].cells, r ∈ x.dids := by
        cases hp2 : es[j] with
        | agg cs => rw [hp2] at hpr; simp only [PV.dids] at hpr; exact PV.mem_didsL.1 hpr
        | _ => rw [hp2] at hpr; exact ⟨_, List.mem_singleton.2 rfl, hpr⟩
      obtain ⟨x, hx1, hx2⟩ := hin
      obtain ⟨l, hl, rfl⟩ := List.getElem_of_mem hx1
      have hr2 := g7 j l hj (by rw [← hx.1]; exact hl)
      rw [getD_lt hj, getD_lt hl] at hr2
      exact k2 _ hp r (cells_ids hx1 (hr2.dids_ids r hx2))
  · obtain ⟨_, _, _, ⟨es, e1, e2, e3, e4, e5, e6⟩, e7⟩ := hs.rm b c hc
    obtain ⟨p, hp, hpr⟩ := PV.mem_didsL.1 hr
    obtain ⟨j, hj, rfl⟩ := List.getElem_of_mem hp
    have := (e6 j (by omega)).dids_ids r
    rw [getD_lt hj] at this
    exact e7 _ hp r (this hpr)
  have hb := hs.blk i cs hi
  obtain ⟨j, hj, rfl⟩ := List.getElem_of_mem hc
  cases hz : s.m.z i with
  | false =>
    rw [hz] at hb
    obtain ⟨_, _, ⟨vs, ty, h3, h4, h5⟩, h6⟩ := hb
    have := (h5 j hj).dids_ids r
    rw [getD_lt hj] at this
    exact h6 _ (List.getElem_mem hj) r (this hr)
  | true =>
    rw [hz] at hb
    obtain ⟨vals, hv⟩ := hb
    have := (hv j hj).2
    rw [getD_lt hj] at this
    exact absurd hr (this.clean_dids r)
theorem drefs_live {s : St} (hr : RefsD s) (o : Oper) : ∀ r ∈ drefsOf o s.eval, Live s.m r := fun r h => by
  unfold drefsOf at h
  obtain ⟨x, _, hx⟩ := List.mem_flatMap.1 h
  cases x with
  | tmp t => exact hr.fr t r hx
  | const v => simp [St.eval, dids_ofVal] at hx
  | func f => simp [St.eval, PV.dids, PV.didsL] at hx
  | _ => simp [St.eval, PV.dids] at hx

mutual
theorem share_dids : ∀ (p : PV) {r : Ref}, r ∈ p.share.dids → r ∈ p.dids
  | .ptr _ _, r, h => h
  | .osl _ _ _ _, r, h => h
  | .sl t es, r, h => by cases t <;> (simp only [PV.share, Tok.sh, PV.dids] at h; exact sl_dids h)
  | .agg cs, r, h => by simp only [PV.share, PV.dids] at *; exact share_didsL cs h
  | .tup cs, r, h => by simp only [PV.share, PV.dids] at *; exact share_didsL cs h
  | .fn _ cs, r, h => by simp only [PV.share, PV.dids] at *; exact share_didsL cs h
  | .any, r, h => h
  | .int _ _, r, h => h
  | .bool _, r, h => h
  | .str _, r, h => h
  | .flt _ _, r, h => h
  | .cpx _ _ _, r, h => h
  | .rptr _, r, h => h
  | .nilp, r, h => h
  | .nilfn, r, h => h
  | .nilmap, r, h => h
  | .mref _, r, h => h
  | .rmap _ _, r, h => h
  | .iptr _, r, h => h
  | .vsl _ _ _, r, h => h
  | .vptr _ _ _ _ _, r, h => h
theorem share_didsL : ∀ (cs : List PV) {r : Ref}, r ∈ PV.didsL (PV.shareL cs) → r ∈ PV.didsL cs
  | [], r, h => h
  | c :: cs, r, h => by
    simp only [PV.shareL, PV.didsL, List.mem_append] at *
    exact h.imp (share_dids c) (share_didsL cs)
end

/-- what is made leans on what is there -/
def Keeps (m : Hp) (a : ARes) : Prop := (∀ r ∈ a.v.dids, Live a.m r) ∧ ∀ i cs, a.m.h i = some cs → m.h i = some cs ∨ ∀ r ∈ PV.didsL cs, Live a.m r

theorem Keeps.same {m : Hp} {a : ARes} (he : a.m = m) (h : ∀ r ∈ a.v.dids, Live m r) : Keeps m a := ⟨by rw [he]; exact h, fun i cs hi => .inl (by rw [he] at hi; exact hi)⟩
theorem live_new {m : Hp} {d : Nat} {x : List PV} {r : Ref} (h : Live m r) : Live (m.new d x) r := by
  cases r with
  | r i => exact h
  | b i =>
    simp only [Live, Hp.new] at *
    unfold upd; split <;> simp_all
theorem live_setq_self {m : Hp} {d : Nat} {x : Row} : Live (m.setq d x) (.r d) := by simp [Live, Hp.setq, upd]
theorem live_new_self {m : Hp} {d : Nat} {x : List PV} : Live (m.new d x) (.b d) := by simp [Live, Hp.new, upd]
theorem keeps_new {ok : Prop} {m : Hp} {d : Nat} {cs : List PV} {v : PV} (hv : v.dids = [.b d]) (h : ∀ r ∈ PV.didsL cs, Live m r) : Keeps m ⟨ok, v, m.new d cs⟩ := by
  refine ⟨fun r hr => ?_, fun i ds hi => ?_⟩
  · rw [hv] at hr; simp only [List.mem_singleton] at hr; subst hr; exact live_new_self
  · by_cases hd : d = i
    · subst hd
      simp [Hp.new, upd] at hi
      subst hi
      exact .inr fun r hr => live_new (h r hr)
    · left
      simpa [Hp.new, upd, hd] using hi

theorem v_look {z : PV} {vs : List PV} {ok : Bool} {i : Option Nat} {r : Ref} (hz : z.dids = []) (h : r ∈ (lookV z vs ok i).dids) : r ∈ PV.didsL vs := by
  unfold lookV at h
  split at h
  · split at h
    · simp only [PV.dids, PV.didsL, List.append_nil] at h; exact getD_ids h
    · exact getD_ids h
  · split at h
    · simp only [PV.dids, PV.didsL, List.append_nil, hz] at h; cases h
    · rw [hz] at h; cases h
theorem mapOf_live {s : St} (hr : RefsD s) {x : PV} (hx : ∀ r ∈ x.dids, Live s.m r) {c : MapC} (h : mapOf s.m x = some c) : ∀ r, (r ∈ PV.didsL c.ks ∨ r ∈ PV.didsL c.vs) → Live s.m r := by
  cases x with
  | rmap ks vs =>
    simp only [mapOf, Option.some.injEq] at h
    subst h
    intro r hh
    exact hx r (by simp only [PV.dids, List.mem_append]; exact hh)
  | mref b => exact hr.o b c h
  | _ => simp [mapOf] at h
theorem keeps_map {s : St} (hr : RefsD s) {o : Oper} (hok : (aop P o s.eval s.m).ok) : ∀ b c, (aop P o s.eval s.m).m.o b = some c → s.m.o b = some c ∨ ∀ r, (r ∈ PV.didsL c.ks ∨ r ∈ PV.didsL c.vs) → Live s.m r := by
  intro b c hb
  have hF := foot_aop hok
  have L := drefs_live hr o
  cases hw : (fp o.op).wo with
  | false => rw [hF.o1 hw] at hb; exact .inl hb
  | true =>
    obtain ⟨dst, op, ty, pos, af, guard⟩ := o
    cases op with
    | mapUpdate t x k v =>
      have hv : ∀ r ∈ (s.eval v).dids, Live s.m r := fun r h => L r (mem_refs (x := v) (by simp [Op.operands]) h)
      have hk : ∀ r ∈ (s.eval k).dids, Live s.m r := fun r h => L r (mem_refs (x := k) (by simp [Op.operands]) h)
      revert hok hb
      show (aMapUpdate P t (s.eval x) (s.eval k) (s.eval v) s.m).ok → (aMapUpdate P t (s.eval x) (s.eval k) (s.eval v) s.m).m.o b = some c → _
      unfold aMapUpdate
      split
      · rename_i b0 _
        split
        · rename_i ls zz c0 cs h1 h2 h3
          rw [h3] at hk
          split
          · intro _ hb
            simp only at hb
            by_cases e : b0 = b
            · subst e
              rw [upd_same] at hb
              cases hb
              refine .inr fun r hh => ?_
              rcases hh with hh | hh
              · exact hr.o b0 c0 h2 r (.inl hh)
              · obtain ⟨y, hy, hyr⟩ := PV.mem_didsL.1 hh
                rcases List.mem_or_eq_of_mem_set hy with hy | rfl
                · exact hr.o b0 c0 h2 r (.inr (PV.mem_didsL.2 ⟨y, hy, hyr⟩))
                · exact hv r (share_dids _ hyr)
            · rw [upd_ne _ _ e] at hb; exact .inl hb
          · intro _ hb
            simp only at hb
            by_cases e : b0 = b
            · subst e
              rw [upd_same] at hb
              cases hb
              refine .inr fun r hh => ?_
              rcases hh with hh | hh
              · obtain ⟨y, hy, hyr⟩ := PV.mem_didsL.1 hh
                rcases List.mem_append.1 hy with hy | hy
                · exact hr.o b0 c0 h2 r (.inl (PV.mem_didsL.2 ⟨y, hy, hyr⟩))
                · simp only [List.mem_singleton] at hy
                  subst hy
                  simp only [PV.dids] at hyr
                  exact hk r (by simp only [PV.dids]; exact share_didsL _ hyr)
              · obtain ⟨y, hy, hyr⟩ := PV.mem_didsL.1 hh
                rcases List.mem_append.1 hy with hy | hy
                · exact hr.o b0 c0 h2 r (.inr (PV.mem_didsL.2 ⟨y, hy, hyr⟩))
                · simp only [List.mem_singleton] at hy
                  subst hy
                  exact hv r (share_dids _ hyr)
            · rw [upd_ne _ _ e] at hb; exact .inl hb
          · exact fun h => h.elim
        · exact fun h => h.elim
      · exact fun h => h.elim
    | makeSlice t l c => cases hw
    | makeFunc f g h => unfold fp at hw; simp only at hw; split at hw <;> cases hw
    | call cc =>
      obtain ⟨cal, ar, ts⟩ := cc
      cases cal with
      | builtin bb => unfold fp at hw; simp only at hw; split at hw <;> cases hw
      | _ => cases hw
    | _ => cases hw

theorem keeps_aop {s : St} (hr : RefsD s) {o : Oper} (hok : (aop P o s.eval s.m).ok) : Keeps s.m (aop P o s.eval s.m) := by
  have hF := foot_aop hok
  have L := drefs_live hr o
  have nm : NoMem (aop P o s.eval) → (∀ r ∈ (aop P o s.eval s.m).v.dids, r ∈ drefsOf o s.eval) → Keeps s.m (aop P o s.eval s.m) := fun h hf => .same (h s.m s.m hok).1 fun r h => L r (hf r h)
  obtain ⟨dst, op, ty, pos, af, guard⟩ := o
  cases op with
  | move x => exact nm noMem_const fun r h => mem_refs (x := x) (by simp [Op.operands]) h
  | assign x => exact nm noMem_const fun r h => mem_refs (x := x) (by simp [Op.operands]) h
  | pick c x y => exact nm noMem_pick fun r h => (v_pick r h).elim (mem_refs (x := x) (by simp [Op.operands])) (mem_refs (x := y) (by simp [Op.operands]))
  | nilCheck x => exact nm noMem_nilCheck fun r h => mem_refs (x := x) (by simp [Op.operands]) (v_nilCheck r h)
  | binOp op t x y yt => exact nm noMem_bin fun r h => absurd h (v_none v_bin)
  | unOp op t x => exact nm noMem_un fun r h => absurd h (v_none v_un)
  | convert a b x => exact .same (conv_m hok) fun r h => absurd h (v_none v_conv)
  | field t x f => exact nm noMem_field fun r h => mem_refs (x := x) (by simp [Op.operands]) (v_field r h)
  | fieldAddr t x f => exact nm noMem_fieldAddr fun r h => mem_refs (x := x) (by simp [Op.operands]) (v_fieldAddr r h)
  | index t x i => exact nm noMem_index fun r h => mem_refs (x := x) (by simp [Op.operands]) (v_index r h)
  | indexAddr t x i => exact nm noMem_indexAddr fun r h => mem_refs (x := x) (by simp [Op.operands]) (v_indexAddr r h)
  | extract x i => exact nm noMem_extract fun r h => mem_refs (x := x) (by simp [Op.operands]) (v_extract r h)
  | lookup t x k ok =>
    have hop : aop P ⟨dst, .lookup t x k ok, ty, pos, af, guard⟩ s.eval s.m = aLookup P t (s.eval x) (s.eval k) ok s.m := rfl
    rw [hop] at hok ⊢
    refine .same (lookup_facts s.m s.m rfl hok).1 fun r h => ?_
    revert hok h
    unfold aLookup
    split
    · rename_i ls z c cs h1 h2 h3
      split
      · intro _ h
        obtain ⟨kt, et, fs, i, zv, t1, t2, t3, t4, t5, rfl, t6⟩ := tmap_spec h1
        exact mapOf_live hr (fun r h => L r (mem_refs (x := x) (by simp [Op.operands]) h)) h2 r (.inr (v_look (dids_ofVal _) h))
      · exact fun h => h.elim
    · exact fun h => h.elim
  | entry x =>
    have hop : aop P ⟨dst, .entry x, ty, pos, af, guard⟩ s.eval s.m = aEntry (s.eval x) s.m := rfl
    rw [hop] at hok ⊢
    refine .same (entry_facts s.m s.m rfl rfl hok).1 fun r h => ?_
    revert hok h
    unfold aEntry
    split
    · split
      · rename_i itc hit
        split
        · rename_i c i h2 h3
          intro _ h
          simp only [PV.dids, PV.didsL, List.append_nil, List.mem_append] at h
          unfold mapIt at h2
          cases hc : itc.c with
          | some d =>
            rw [hc] at h2
            simp only [Option.some.injEq] at h2
            subst h2
            exact absurd (h.imp getD_ids getD_ids) (hr.it _ itc d hit hc r)
          | none =>
            rw [hc] at h2
            exact hr.o _ c h2 r (h.imp getD_ids getD_ids)
        · exact fun h => h.elim
      · exact fun h => h.elim
    · exact fun h => h.elim
  | mapUpdate t x k v =>
    have hop : aop P ⟨dst, .mapUpdate t x k v, ty, pos, af, guard⟩ s.eval s.m = aMapUpdate P t (s.eval x) (s.eval k) (s.eval v) s.m := rfl
    rw [hop] at hok ⊢
    obtain ⟨e, _⟩ := update_facts s.m s.m rfl hok
    refine ⟨fun r h => ?_, fun i cs hi => .inl (by rw [e] at hi; exact hi)⟩
    revert hok h
    unfold aMapUpdate
    split
    · split
      · split
        · exact fun _ h => by simp [PV.dids, PV.didsL] at h
        · exact fun _ h => by simp [PV.dids, PV.didsL] at h
        · exact fun h => h.elim
      · exact fun h => h.elim
    · exact fun h => h.elim
  | build t parts =>
    refine nm noMem_build fun r h => ?_
    obtain ⟨x, hx, hr⟩ := v_build r h
    obtain ⟨y, hy, rfl⟩ := List.mem_map.1 hx
    exact mem_refs (x := y.2) (by simp [Op.operands]; exact ⟨y.1, Array.mem_toList_iff.1 hy⟩) hr
  | slice t x lo hi mx =>
    cases mx with
    | some _ => exact hok.elim
    | none => exact nm noMem_slice fun r h => mem_refs (x := x) (by simp [Op.operands]) (v_slice r h)
  | alloc t =>
    cases dst with
    | none => exact hok.elim
    | some d =>
      cases hz : tzero P t with
      | none => simp only [aop, hz] at hok; exact hok.elim
      | some z => simp only [aop, hz]; exact keeps_new rfl (by rw [zero_ids hz]; simp)
  | box t x =>
    cases dst with
    | none => exact hok.elim
    | some d => exact keeps_new rfl fun r h => L r (mem_refs (x := x) (by simp [Op.operands]) (cellsL_ids h))
  | load t x =>
    simp only [aop] at hok ⊢
    split at hok
    · rename_i ht
      rw [if_pos ht]
      revert hok
      unfold aLoad
      split
      · rename_i cs hx
        exact fun _ => .same rfl fun r h => L r (mem_refs (x := x) (by simp [Op.operands]) (by rw [hx]; simp only [PV.dids]; exact partPV_ids h))
      · split
        · rename_i cs hh
          exact fun _ => .same rfl fun r h => by
            obtain ⟨c, hc, hcr⟩ := PV.mem_didsL.1 (partPV_ids h)
            exact hr.h _ cs hh c hc r hcr
        · exact fun h => h.elim
      · rename_i id n z k off hx
        split
        · rename_i es hh
          exact fun _ => .same rfl fun r h => hr.v _ es hh r (by
            obtain ⟨c, hc, hcr⟩ := PV.mem_didsL.1 (partPV_ids h)
            exact getD_ids (cells_dids hc hcr))
        · exact fun h => h.elim
      · exact fun h => h.elim
    · exact hok.elim
  | store t x y =>
    simp only [aop] at hok ⊢
    split at hok
    · rename_i ht
      rw [if_pos ht]
      revert hok
      unfold aStore
      split
      · rename_i id off hx
        split
        · rename_i cs hh
          intro hok
          refine ⟨fun r h => by simp [PV.dids, PV.didsL] at h, fun i ds hi => ?_⟩
          have lv : ∀ r, Live s.m r → Live { s.m with h := upd s.m.h id (some (splice cs off (s.eval y).cells)) } r := fun r h => by
            cases r with
            | r i => exact h
            | b i => simp only [Live] at *; unfold upd; split <;> simp_all
          by_cases hd : id = i
          · subst hd
            simp [upd] at hi
            subst hi
            refine .inr fun r h => lv r ?_
            rcases splice_ids h with h | h
            · obtain ⟨c, hc, hcr⟩ := PV.mem_didsL.1 h
              exact hr.h id cs hh c hc r hcr
            · exact L r (mem_refs (x := y) (by simp [Op.operands]) (cellsL_ids h))
          · left; simpa [upd, hd] using hi
        · exact fun h => h.elim
      · split
        · exact fun _ => ⟨fun r h => by simp [PV.dids, PV.didsL] at h, fun i ds hi => .inl hi⟩
        · exact fun h => h.elim
      · exact fun h => h.elim
    · exact hok.elim
  | makeFunc fn first caps =>
    cases fn with
    | func f =>
      simp only [aop] at hok ⊢
      split at hok
      · rename_i hf
        rw [if_pos hf]
        refine ⟨fun r h => ?_, fun i cs hi => .inl (by simpa [frozenBy_h] using hi)⟩
        have : Live s.m r := by
          obtain ⟨c, hc, hcr⟩ := PV.mem_didsL.1 (by simpa [PV.dids] using h)
          obtain ⟨x, hx, rfl⟩ := List.mem_map.1 hc
          exact L r (mem_refs (x := x) (by simp [Op.operands]; right; exact Array.mem_toList_iff.1 hx) hcr)
        cases r with
        | b i => simpa [Live, frozenBy_h] using this
        | r i => simpa [Live, frozenBy_q] using this
      · exact hok.elim
    | _ => exact hok.elim
  | buildSlice t len parts =>
    cases dst with
    | none => exact hok.elim
    | some d =>
      cases he : telem P t with
      | none => simp only [aop, aBuildSlice, he] at hok; exact hok.elim
      | some ei =>
        simp only [aop, aBuildSlice, he]
        refine ⟨fun r h => ?_, fun i cs hi => .inl hi⟩
        simp only [PV.dids, List.mem_cons] at h
        rcases h with rfl | h
        · exact live_setq_self
        · obtain ⟨c, hc, hcr⟩ := PV.mem_didsL.1 h
          obtain ⟨x, hx, rfl⟩ := List.mem_map.1 hc
          obtain ⟨y, hy, rfl⟩ := List.mem_map.1 hx
          exact live_setq _ (L r (mem_refs (x := y.2) (by simp [Op.operands]; exact ⟨y.1, Array.mem_toList_iff.1 hy⟩) (share_dids _ hcr)))
  | makeSlice t l c =>
    cases dst with
    | none => exact hok.elim
    | some d =>
      by_cases hl : ∃ k, l = .const (.int k 0)
      · obtain ⟨k, rfl⟩ := hl
        have hop : aop P ⟨some d, .makeSlice t (.const (.int k 0)) c, ty, pos, af, guard⟩ s.eval s.m = aMakeRow P d t (s.eval c) s.m := rfl
        rw [hop] at hok ⊢
        revert hok
        unfold aMakeRow
        split
        · exact fun _ => ⟨fun r h => by simp [PV.dids, PV.didsL] at h; subst h; exact live_setq_self, fun i cs hi => .inl hi⟩
        · exact fun h => h.elim
      · have hop : aop P ⟨some d, .makeSlice t l c, ty, pos, af, guard⟩ s.eval s.m = aMakeFull P d t (s.eval l) (s.eval c) s.m := by
          unfold aop
          simp only
          split
          · rename_i k; exact absurd ⟨_, rfl⟩ hl
          · rfl
        rw [hop] at hok ⊢
        revert hok
        unfold aMakeFull
        split
        · split
          · rename_i z hz
            refine fun _ => ⟨fun r h => ?_, fun i cs hi => .inl hi⟩
            simp only [PV.dids, List.mem_cons] at h
            rcases h with rfl | h
            · exact live_setq_self
            · obtain ⟨c', hc, hcr⟩ := PV.mem_didsL.1 h
              rw [List.eq_of_mem_replicate hc, tz_ids hz] at hcr
              cases hcr
          · exact fun h => h.elim
        · exact fun h => h.elim
  | call c =>
    obtain ⟨callee, args, ts⟩ := c
    cases callee with
    | builtin b =>
      simp only [aop] at hok ⊢
      revert hok
      unfold aBuiltin
      split
      · split
        · exact fun hok => .same (mapLen_facts s.m s.m rfl hok).1 fun r h => absurd h (v_none (by unfold aMapLen; split <;> rfl))
        · exact fun hok => .same (noMem_len s.m s.m hok).1 fun r h => absurd h (v_none v_len)
      · rename_i t tx x y hts hxs
        have hx : ∀ r ∈ x.dids, Live s.m r := fun r h => by
          have : x ∈ args.toList.map s.eval := by rw [hxs]; simp
          obtain ⟨z, hz, rfl⟩ := List.mem_map.1 this
          exact L r (mem_refs (x := z) (by simp [Op.operands, Call.operands]; exact Array.mem_toList_iff.1 hz) h)
        have hy : ∀ r ∈ y.dids, Live s.m r := fun r h => by
          have : y ∈ args.toList.map s.eval := by rw [hxs]; simp
          obtain ⟨z, hz, rfl⟩ := List.mem_map.1 this
          exact L r (mem_refs (x := z) (by simp [Op.operands, Call.operands]; exact Array.mem_toList_iff.1 hz) h)
        have hys : ∀ ys, appended P tx y = some ys → ∀ r ∈ PV.didsL ys, Live s.m r := fun ys h r hr => by
          unfold appended at h
          split at h
          · cases h; exact hy r (sl_dids hr)
          · cases h
            obtain ⟨c, hc, hcr⟩ := PV.mem_didsL.1 hr
            unfold bytesPV at hc
            obtain ⟨z, hz, rfl⟩ := List.mem_map.1 hc
            simp [PV.dids] at hcr
          · cases h
        split
        · unfold aAppend
          split
          · rename_i ys _ _ hyy
            refine fun _ => ⟨fun r h => ?_, fun i cs hi => .inl hi⟩
            simp only [PV.dids, List.mem_cons] at h
            rcases h with rfl | h
            · exact live_setq_self
            · exact live_setq _ (hys _ (by assumption) r h)
          · split
            · refine fun _ => ⟨fun r h => ?_, fun i cs hi => .inl ?_⟩
              · simp only [PV.dids, List.mem_cons] at h
                rcases h with rfl | h
                · simp only
                  split <;> exact live_setq_self
                · have : Live s.m r := by
                    obtain ⟨c, hc, hcr⟩ := PV.mem_didsL.1 h
                    rcases List.mem_append.1 hc with hc | hc
                    · exact hx r (sl_dids (PV.mem_didsL.2 ⟨c, hc, hcr⟩))
                    · exact hys _ (by assumption) r (PV.mem_didsL.2 ⟨c, hc, hcr⟩)
                  simp only
                  split
                  · exact live_setq _ this
                  · exact live_setq _ (live_setq _ this)
              · simp only at hi
                split at hi <;> exact hi
            · exact fun h => h.elim
          · exact fun h => h.elim
        · exact fun h => h.elim
      · exact fun hok => .same (noMem_max s.m s.m hok).1 fun r h => absurd h (v_none v_max)
      · exact fun hok => .same (noMem_min s.m s.m hok).1 fun r h => absurd h (v_none v_min)
      · exact fun hok => .same (noMem_cpx s.m s.m hok).1 fun r h => absurd h (v_none v_cpx)
      · exact fun hok => .same (noMem_real s.m s.m hok).1 fun r h => absurd h (v_none v_real)
      · exact fun hok => .same (noMem_imag s.m s.m hok).1 fun r h => absurd h (v_none v_imag)
      · exact fun h => h.elim
    | _ => exact hok.elim
  | _ => exact hok.elim

theorem putPV_dids {x v : PV} {off : Nat} {r : Ref} (h : r ∈ (putPV x off v).dids) : r ∈ x.dids ∨ r ∈ v.dids := by
  unfold putPV at h
  split at h
  · exact .inr h
  · simp only [PV.dids] at h
    obtain ⟨c, hc, hcr⟩ := PV.mem_didsL.1 h
    simp only [splice, List.mem_append] at hc
    rcases hc with (hc | hc) | hc
    · exact .inl (cells_dids (List.mem_of_mem_take hc) hcr)
    · exact .inr (cells_dids hc hcr)
    · exact .inl (cells_dids (List.mem_of_mem_drop hc) hcr)
theorem keeps_vec {s : St} (hr : RefsD s) {o : Oper} (hok : (aop P o s.eval s.m).ok) : ∀ i es, (aop P o s.eval s.m).m.v i = some es → ∀ r ∈ PV.didsL es, Live s.m r := by
  intro i es hi
  have hF := foot_aop hok
  have L := drefs_live hr o
  by_cases hw : Wh o s.eval (.r i)
  · obtain ⟨dst, op, ty, pos, af, guard⟩ := o
    have hwh : (fp op).wh = true := by
      rcases hw with ⟨w, _⟩ | ⟨_, _, _, e⟩
      · exact w
      · cases e
    cases op with
    | store t x y =>
      have hy : ∀ r ∈ (s.eval y).dids, Live s.m r := fun r h => L r (mem_refs (x := y) (by simp [Op.operands]) h)
      revert hok hi
      show ((if tkn P t then aStore P t (s.eval x) (s.eval y) s.m else .fail).ok) → ((if tkn P t then aStore P t (s.eval x) (s.eval y) s.m else .fail).m.v i = some es) → _
      split
      · unfold aStore
        split
        · split
          · exact fun _ hi => hr.v i es hi
          · exact fun h => h.elim
        · rename_i id n z k off hxe
          split
          · rename_i es0 hv0
            intro _ hi
            by_cases e : id = i
            · subst e
              simp only [upd_same, Option.some.injEq] at hi
              subst hi
              intro r h
              obtain ⟨c, hc, hcr⟩ := PV.mem_didsL.1 h
              rcases List.mem_or_eq_of_mem_set hc with hc | rfl
              · exact hr.v _ _ hv0 r (PV.mem_didsL.2 ⟨c, hc, hcr⟩)
              · rcases putPV_dids hcr with h1 | h1
                · exact hr.v _ _ hv0 r (getD_ids h1)
                · exact hy r h1
            · simp only [upd_ne _ _ e] at hi
              exact hr.v i es hi
          · exact fun h => h.elim
        · exact fun h => h.elim
      · exact fun h => h.elim
    | makeSlice t l c => cases hwh
    | makeFunc f g h => unfold fp at hwh; simp only at hwh; split at hwh <;> cases hwh
    | call cc =>
      obtain ⟨cal, ar, ts⟩ := cc
      cases cal with
      | builtin bb => unfold fp at hwh; simp only at hwh; split at hwh <;> cases hwh
      | _ => cases hwh
    | _ => cases hwh
  · have : (aop P o s.eval s.m).m.v i = s.m.v i := hF.h1 (.r i) hw
    rw [this] at hi
    exact hr.v i es hi
theorem refs_yield {s s' : St} {o : Oper} (hr : RefsD s) (h : Yield P ops o s s') : RefsD s' := by
  have put : ∀ (m' : Hp) (v : PV), (∀ r, Live s.m r → Live m' r) → (∀ r ∈ v.dids, Live m' r) → (∀ i cs, m'.h i = some cs → s.m.h i = some cs ∨ ∀ r ∈ PV.didsL cs, Live m' r) → (∀ b c, m'.o b = some c → s.m.o b = some c ∨ ∀ r, (r ∈ PV.didsL c.ks ∨ r ∈ PV.didsL c.vs) → Live s.m r) → m'.io = s.m.io → (∀ i es, m'.v i = some es → ∀ r ∈ PV.didsL es, Live s.m r) → RefsD ((s.with m').put o.dst v) := fun m' v hl hv hh ho hio hvv => by
    have hit : m'.it = s.m.it := congrArg (fun x => x.1) hio
    have hom : m'.om = s.m.om := congrArg (fun x => x.2.1) hio
    refine ⟨fun i r h => ?_, fun i cs hi c hc r h => ?_, fun b c hc r h => ?_, fun b x c hx hc r h => ?_, fun i es hi r h => ?_, fun b c hc r h => ?_⟩
    · rw [put_m]
      by_cases hd : o.dst = some i
      · rw [hd] at h
        simp only [St.put, upd, if_true] at h
        exact hv r h
      · rw [put_fr hd] at h
        exact hl r (hr.fr i r h)
    · rw [put_m] at hi ⊢
      rcases hh i cs hi with h1 | h1
      · exact hl r (hr.h i cs h1 c hc r h)
      · exact h1 r (PV.mem_didsL.2 ⟨c, hc, h⟩)
    · rw [put_m] at hc ⊢
      rcases ho b c hc with h1 | h1
      · exact hl r (hr.o b c h1 r h)
      · exact hl r (h1 r h)
    · rw [put_m] at hx
      have hx : m'.it b = some x := hx
      rw [hit] at hx
      exact hr.it b x c hx hc r h
    · rw [put_m] at hi ⊢
      exact hl r (hvv i es hi r h)
    · rw [put_m] at hc ⊢
      have hc : m'.om b = some c := hc
      rw [hom] at hc
      exact hl r (hr.om b c hc r h)
  obtain ⟨_, h⟩ := h
  rcases h with ⟨_, v, m', hs, rfl⟩ | ⟨_, rfl⟩
  · have F := foot_step hs
    have hl : ∀ r, Live s.m r → Live m' r := fun r h => by
      cases r with
      | b i => exact F.hl i h
      | r i => exact F.ql i h
    rcases hs with ⟨h1, rfl, rfl⟩ | ⟨c, g, args, ho, hc, hp, rfl⟩
    · have K := keeps_aop hr h1
      exact put _ _ hl K.1 K.2 (keeps_map hr h1) F.i1 (keeps_vec hr h1)
    · exact put _ _ hl (by
        have e : v.dids = [] := by rcases hp with ⟨_, hp⟩ | ⟨_, _, _, _, _, _, _, _, _, hp, _⟩ <;> exact hp.2.1
        rw [e]; simp) (fun i cs hi => .inl hi) (fun b c hc => .inl hc) rfl hr.v
  · exact put s.m (.tup []) (fun r h => h) (by simp [PV.dids, PV.didsL]) (fun i cs hi => .inl hi) (fun b c hc => .inl hc) rfl hr.v
end
end Go.PL

namespace Go.PL
open Go.RowKit
set_option linter.unusedVariables false

section
variable {P : Program} {ops : Array Oper} {md : Region.Mode}

/-- whatever order is picked -/
def anyA (P : Program) (md : Region.Mode) (ops : Array Oper) (K : St → Prop) : Nat → Array Bool → St → Prop
  | 0, listed, s => Region.ready md ops listed = [] ∧ K s
  | fuel + 1, listed, s => (Region.ready md ops listed = [] → K s) ∧ ∀ i ∈ Region.ready md ops listed, ∃ o s', ops[i]? = some o ∧ Yield P ops o s s' ∧ anyA P md ops K fuel (listed.setIfInBounds i true) s'

theorem anyA_first {K : St → Prop} {i : Nat} {oi : Oper} (hi : ops[i]? = some oi) :
    ∀ (fuel : Nat) (listed : Array Bool) (s s1 : St), RefsD s →
      (∀ j oj, ops[j]? = some oj → j ≠ i → listed.getD j true = false → (∀ e ∈ oj.after, Region.binds md e = true → e.on ≠ i) → oi.apart ops oj = true ∧ compat oi.op oj.op = true) →
      i ∈ Region.ready md ops listed → Yield P ops oi s s1 →
      anyA P md ops K fuel (listed.setIfInBounds i true) s1 → anyA P md ops K (fuel + 1) listed s := by
  intro fuel
  induction fuel with
  | zero =>
    intro listed s s1 hR _ hr hy H
    refine ⟨fun h => (by rw [h] at hr; cases hr), fun j hj => ?_⟩
    by_cases hji : j = i
    · subst hji; exact ⟨oi, s1, hi, hy, H⟩
    · have := ready_mono hj hji
      rw [H.1] at this
      cases this
  | succ fuel ih =>
    intro listed s s1 hR hfree hr hy H
    refine ⟨fun h => (by rw [h] at hr; cases hr), fun j hj => ?_⟩
    by_cases hji : j = i
    · subst hji; exact ⟨oi, s1, hi, hy, H⟩
    · obtain ⟨oj, s2, hoj, hy2, h1⟩ := H.2 j (ready_mono hj hji)
      obtain ⟨hjun, oj', hoj', hall⟩ := mem_ready.1 hj
      rw [hoj] at hoj'; cases hoj'
      have hnot : ∀ e ∈ oj.after, Region.binds md e = true → e.on ≠ i := fun e he hb heq => by
        have h1 := hall e he hb
        have h0 := (mem_ready.1 hr).1
        rw [heq] at h1
        rcases Nat.lt_or_ge i listed.size with h' | h'
        · simp [h'] at h0 h1; rw [h0] at h1; cases h1
        · simp [Array.getElem?_eq_none h'] at h1
      obtain ⟨hap, hcp⟩ := hfree j oj hoj hji hjun hnot
      obtain ⟨s1', hya, hyb⟩ := yield_swap hR.refs hap hcp hy hy2
      have hfree' : ∀ k ok, ops[k]? = some ok → k ≠ i → (listed.setIfInBounds j true).getD k true = false →
          (∀ e ∈ ok.after, Region.binds md e = true → e.on ≠ i) → oi.apart ops ok = true ∧ compat oi.op ok.op = true := fun k ok hk hki hun hno => by
        refine hfree k ok hk hki ?_ hno
        by_cases hjk : j = k
        · subst hjk; exact hjun
        · rw [getD_set_ne true hjk] at hun; exact hun
      refine ⟨oj, s1', hoj, hya, ih (listed.setIfInBounds j true) s1' s2 (refs_yield hR hya) hfree' (ready_mono hr (Ne.symm hji)) hyb ?_⟩
      rw [Array.setIfInBounds_comm _ _ hji]
      exact h1

def freeA (md : Region.Mode) (ops : Array Oper) (listed : Array Bool) (i : Nat) : Bool :=
  match ops[i]? with
  | none => false
  | some oi => (List.range ops.size).all fun j => j == i || listed.getD j true || match ops[j]? with
      | some oj => oj.after.any (fun e => Region.binds md e && e.on == i) || (oi.apart ops oj && compat oi.op oj.op)
      | none => true

theorem freeA_spec {i : Nat} {oi : Oper} {listed : Array Bool} (hi : ops[i]? = some oi) (h : freeA md ops listed i = true) (j : Nat) (oj : Oper)
    (hj : ops[j]? = some oj) (hne : j ≠ i) (hun : listed.getD j true = false) (hno : ∀ e ∈ oj.after, Region.binds md e = true → e.on ≠ i) :
    oi.apart ops oj = true ∧ compat oi.op oj.op = true := by
  simp only [freeA, hi, List.all_eq_true, List.mem_range] at h
  have h1 := h j (Array.getElem?_eq_some_iff.1 hj).1
  simp only [hj, Bool.or_eq_true, beq_iff_eq, hne, false_or, hun, Bool.false_eq_true] at h1
  rcases h1 with h1 | h1
  · obtain ⟨e, he, hb⟩ := Array.any_eq_true'.1 h1
    simp only [Bool.and_eq_true, beq_iff_eq] at hb
    exact absurd hb.2 (hno e he hb.1)
  · simpa using h1

def lexFromA (md : Region.Mode) (ops : Array Oper) : Nat → Nat → Array Bool → Bool
  | 0, _, listed => (Region.ready md ops listed).isEmpty
  | fuel + 1, k, listed => (Region.ready md ops listed).contains k && freeA md ops listed k && lexFromA md ops fuel (k + 1) (listed.setIfInBounds k true)

/-- ONE WALK OF THE TEXT'S ORDER SERVES EVERY ORDER -/
def drawB (ops : Array Oper) : Bool := lexFromA .any ops ops.size 0 (Array.replicate ops.size false)

theorem anyA_lex {K : St → Prop} : ∀ (l : List Oper) (k : Nat) (listed : Array Bool) (s : St), RefsD s → (∀ j, l[j]? = ops[k + j]?) →
    lexFromA md ops l.length k listed = true → lexA P ops K l s → anyA P md ops K l.length listed s
  | [], _, _, _, _, _, hB, h => ⟨by simpa [lexFromA] using hB, h⟩
  | o :: l, k, listed, s, hR, hl, hB, h => by
    have h0 : ops[k]? = some o := by simpa using (hl 0).symm
    simp only [List.length_cons, lexFromA, Bool.and_eq_true] at hB
    obtain ⟨⟨hr, hf⟩, hB'⟩ := hB
    obtain ⟨hd, h⟩ := h
    have hl' : ∀ j, l[j]? = ops[(k + 1) + j]? := fun j => by have := hl (j + 1); simpa [Nat.add_assoc, Nat.add_comm 1 j] using this
    rcases h with ⟨hg, v, m', hst, hrest⟩ | ⟨hg, hrest⟩
    · have hy : Yield P ops o s ((s.with m').put o.dst v) := ⟨hd, .inl ⟨hg, v, m', hst, rfl⟩⟩
      exact anyA_first h0 l.length listed s _ hR (freeA_spec h0 hf) (by simpa using hr) hy (anyA_lex l (k + 1) _ _ (refs_yield hR hy) hl' hB' hrest)
    · have hy : Yield P ops o s (s.put o.dst (.tup [])) := ⟨hd, .inr ⟨hg, rfl⟩⟩
      exact anyA_first h0 l.length listed s _ hR (freeA_spec h0 hf) (by simpa using hr) hy (anyA_lex l (k + 1) _ _ (refs_yield hR hy) hl' hB' hrest)

theorem any_sound {K : St → Prop} {B : Frm} {Qc : Exit → Act → World → Prop} {S0 : Stable} {w0 : World} (hQ : ∀ s' S' M' a' w', K s' → Sim B S' M' s' a' w' → Ext B S0 S' w0 w' → Qc .normal a' w') :
    ∀ (fuel : Nat) (listed : Array Bool) (s : St), anyA P md ops K fuel listed s → ∀ S M a w, Sim B S M s a w → Ext B S0 S w0 w → wpAny P md ops Qc fuel listed a w
  | 0, _, s, h, S, M, a, w, hs, he => ⟨h.1, hQ s S M a w h.2 hs he⟩
  | fuel + 1, listed, s, h, S, M, a, w, hs, he => ⟨fun h0 => hQ s S M a w (h.1 h0) hs he, fun i hi => by
      obtain ⟨o, s', ho, hy, hn⟩ := h.2 i hi
      unfold wpOp
      simp only [ho]
      obtain ⟨hd, hy⟩ := hy
      rcases hy with ⟨hg, v, m', hst, rfl⟩ | ⟨hg, rfl⟩
      · rw [gd_ok hs hg, if_pos rfl]
        exact .inl (step_sound hs (dstOk_spec hd) hst _ _ fun u w' S' M' hs' he' => any_sound hQ fuel _ _ hn S' M' _ w' hs' (he.trans he'))
      · rw [gd_ok hs hg, if_neg (by simp)]
        exact any_sound hQ fuel _ _ hn S M _ w (skip_sim hs hd) he⟩

theorem awp_draw {id : Nat} {Q : Exit → St → Prop} {s : St} (hm : P.follows .mixedOrders = true) (hB : drawB ops = true) (h : lexA P ops (Q .normal) ops.toList s) : awp P (.region id ops true) Q s := fun B S M a w hs => by
  refine wp_region_any hm ?_
  have he : Ext B S S w { w with drawn := w.drawn + 1 } := ⟨SLe.refl _, fun _ _ => ⟨fun _ => rfl, rfl⟩, (BelowF.refl B w).drew⟩
  have hs' : Sim B S M s a { w with drawn := w.drawn + 1 } := hs.world rfl
  have := anyA_lex (P := P) (K := Q .normal) (md := .any) ops.toList 0 (Array.replicate ops.size false) s hs.refsD (by simp) (by simpa [drawB] using hB) h
  have := any_sound (B := B) (S0 := S) (w0 := w) (Qc := fun e a' w' => ∃ s' S' M', Q e s' ∧ Sim B S' M' s' a' w' ∧ Ext B S S' w w') (fun s' S' M' a' w' h1 h2 h3 => ⟨s', S', M', h1, h2, h3⟩) _ _ s this S M a _ hs' he
  simpa using this

theorem vDraw {id : Nat} {l : List Oper} {Q : Exit → St → Prop} {s : St} (hm : P.follows .mixedOrders = true) (hB : drawB l.toArray = true) (h : @vA P false ⟨Q .normal⟩ ⟨l⟩ ⟨l⟩ s) : awp P (.region id l.toArray true) Q s :=
  awp_draw hm hB (by simpa using vcA_lex l s h)
end
end Go.PL
