/- A logic of values for functions that only read and build, over the model (part 5): no statement of the seat is proved here. -/
import Derived.Test.YtbojhapdidieoaaPlD
import Derived.Still
import GoSem.ClaimChange
import Derived.WalkKit
import Derived.ProofKit
import Derived.OpenShut
import Derived.Carry
set_option linter.unusedSimpArgs false
set_option linter.unusedVariables false
namespace Go.PL
open Go.RowKit
set_option linter.unusedVariables false

/-- two operations of which the order is open: neither writes what the other one looks at -/
def compat (a b : Op) : Bool :=
  let x := fp a
  let y := fp b
  !(x.wh && (y.rh || y.wh)) && !(y.wh && (x.rh || x.wh)) && !(x.wz && (y.rz || y.wz)) && !(y.wz && (x.rz || x.wz)) && !(x.wq && (y.rq || y.wq || y.nq)) && !(y.wq && (x.rq || x.wq || x.nq)) && !(x.wo && (y.ro || y.wo)) && !(y.wo && (x.ro || x.wo))

section
variable {P : Program} {ops : Array Oper}

theorem aop_congr {ρ ρ' : Operand → PV} (o : Oper) (m : Hp) (h : ∀ x ∈ o.op.operands, ρ x = ρ' x) : aop P o ρ m = aop P o ρ' m := by
  obtain ⟨dst, op, ty, pos, af, guard⟩ := o
  have pairs : ∀ ps : Array (Nat × Operand), (∀ x ∈ (ps.toList.map (·.2)).toArray, ρ x = ρ' x) → (ps.toList.map fun x => (x.1, ρ x.2)) = (ps.toList.map fun x => (x.1, ρ' x.2)) := fun ps hp =>
    List.map_congr_left fun p hm => by rw [hp p.2 (by simp only [List.mem_toArray, List.mem_map]; exact ⟨p, hm, rfl⟩)]
  cases op with
  | build t ps => simp only [aop]; rw [pairs ps h]
  | buildSlice t n ps => simp only [aop]; rw [pairs ps h]
  | makeFunc fn first caps =>
    have : caps.toList.map ρ = caps.toList.map ρ' := List.map_congr_left fun x hx => h x (by simp [Op.operands]; right; simpa using hx)
    cases fn <;> simp only [aop, this]
  | makeSlice t l c =>
    have h1 : ρ l = ρ' l := h l (by simp [Op.operands])
    have h2 : ρ c = ρ' c := h c (by simp [Op.operands])
    simp only [aop, h1, h2]
  | slice t x lo hi mx =>
    have h1 : ρ x = ρ' x := h x (by simp [Op.operands])
    have h2 : lo.map ρ = lo.map ρ' := by cases lo with | none => rfl | some y => simp [h y (by simp [Op.operands])]
    have h3 : hi.map ρ = hi.map ρ' := by cases hi with | none => rfl | some y => simp [h y (by simp [Op.operands])]
    simp only [aop, h1, h2, h3]
  | call c =>
    obtain ⟨callee, args, ts⟩ := c
    cases callee with
    | builtin b =>
      have : args.toList.map ρ = args.toList.map ρ' := List.map_congr_left fun x hx => h x (by simp [Op.operands, Call.operands]; simpa using hx)
      simp only [aop, this]
    | _ => rfl
  | pick c x y =>
    simp only [aop, h c (by simp [Op.operands]), h x (by simp [Op.operands]), h y (by simp [Op.operands])]
  | alloc t => rfl
  | move x => simp only [aop, h x (by simp [Op.operands])]
  | assign x => simp only [aop, h x (by simp [Op.operands])]
  | box t x => simp only [aop, h x (by simp [Op.operands])]
  | load t x => simp only [aop, h x (by simp [Op.operands])]
  | store t x y => simp only [aop, h x (by simp [Op.operands]), h y (by simp [Op.operands])]
  | nilCheck x => simp only [aop, h x (by simp [Op.operands])]
  | binOp op t x y yt => simp only [aop, h x (by simp [Op.operands]), h y (by simp [Op.operands])]
  | unOp op t x => simp only [aop, h x (by simp [Op.operands])]
  | convert a b x => simp only [aop, h x (by simp [Op.operands])]
  | fieldAddr t x f => simp only [aop, h x (by simp [Op.operands])]
  | field t x f => simp only [aop, h x (by simp [Op.operands])]
  | indexAddr t x i => simp only [aop, h x (by simp [Op.operands]), h i (by simp [Op.operands])]
  | index t x i => simp only [aop, h x (by simp [Op.operands]), h i (by simp [Op.operands])]
  | extract x i => simp only [aop, h x (by simp [Op.operands])]
  | lookup t x k ok => simp only [aop, h x (by simp [Op.operands]), h k (by simp [Op.operands])]
  | mapUpdate t x k v => simp only [aop, h x (by simp [Op.operands]), h k (by simp [Op.operands]), h v (by simp [Op.operands])]
  | entry x => simp only [aop, h x (by simp [Op.operands])]
  | _ => rfl

theorem stepM_congr {ρ ρ' : Operand → PV} {o : Oper} {m m' : Hp} {v : PV} (h : ∀ x ∈ o.op.operands, ρ x = ρ' x) (hs : StepM P o ρ m v m') : StepM P o ρ' m v m' := by
  rcases hs with ⟨h1, h2, h3⟩ | ⟨c, g, args, ho, hc, hg, hp, rfl⟩
  · rw [aop_congr o m h] at h1 h2 h3; exact .inl ⟨h1, h2, h3⟩
  · refine .inr ⟨c, g, args, ho, ?_, hg, hp, rfl⟩
    rw [← hc]
    rw [ho] at h
    unfold calleeOf
    cases hcal : c.callee with
    | value f =>
      have e1 : ρ f = ρ' f := h f (by simp [Op.operands, Call.operands, hcal])
      have e2 : c.args.toList.map ρ' = c.args.toList.map ρ := List.map_congr_left fun x hx => (h x (by simp [Op.operands, Call.operands]; right; simpa using hx)).symm
      simp only [e1, e2]
    | _ => rfl

/-- what an operation does in a state -/
def Yield (P : Program) (ops : Array Oper) (o : Oper) (s s' : St) : Prop :=
  dstOk s.n o.dst ∧ ((gd ops s o = some true ∧ ∃ v m', StepM P o s.eval s.m v m' ∧ s' = (s.with m').put o.dst v) ∨ (gd ops s o = some false ∧ s' = s.put o.dst (.tup [])))

theorem put_n (s : St) (d : Option Nat) (v : PV) : (s.put d v).n = s.n := by cases d <;> rfl
theorem put_m (s : St) (d : Option Nat) (v : PV) : (s.put d v).m = s.m := by cases d <;> rfl
theorem put_with (s : St) (d : Option Nat) (v : PV) (m : Hp) : (s.put d v).with m = (s.with m).put d v := by cases d <;> rfl
theorem put_fr {s : St} {d : Option Nat} {v : PV} {i : Nat} (h : d ≠ some i) : (s.put d v).fr i = s.fr i := by
  cases d with
  | none => rfl
  | some d => exact upd_ne _ _ (fun e => h (by rw [e]))
theorem put_eval {s : St} {d : Option Nat} {v : PV} {x : Operand} (h : ∀ t, d = some t → x ≠ .tmp t) : (s.put d v).eval x = s.eval x := by
  cases x with
  | tmp t => exact put_fr (fun e => h t e rfl)
  | _ => rfl
theorem with_eval (s : St) (m : Hp) : (s.with m).eval = s.eval := by
  funext x; cases x <;> rfl
theorem put_comm (s : St) {x y : Option Nat} (u v : PV) (h : ∀ d, x = some d → y ≠ some d) : (s.put x u).put y v = (s.put y v).put x u := by
  cases x with
  | none => rfl
  | some d =>
    cases y with
    | none => rfl
    | some e =>
      have hne : d ≠ e := fun he => h d rfl (he ▸ rfl)
      simp only [St.put]
      congr 1
      funext i
      simp only [upd]
      by_cases h1 : e = i
      · by_cases h2 : d = i
        · exact absurd (h2.trans h1.symm) hne
        · simp [h1, h2]
      · simp [h1]

theorem put_gd {s : St} {o : Oper} {d : Option Nat} {v : PV} {m : Hp} (h : ∀ t, d = some t → t ∉ o.looksAt ops) : gd ops ((s.with m).put d v) o = gd ops s o := by
  unfold gd
  cases hg : o.guard with
  | none => rfl
  | some jw =>
    obtain ⟨j, want⟩ := jw
    simp only
    cases hd : (ops[j]?).bind (·.dst) with
    | none => rfl
    | some t =>
      simp only [put_n]
      have : d ≠ some t := fun e => h t e (by unfold Oper.looksAt; rw [hg]; simp [hd])
      rw [put_fr this]
      rfl

theorem looks_ops {o : Oper} {d : Option Nat} (h : ∀ t, d = some t → t ∉ o.looksAt ops) : ∀ x ∈ o.op.operands, ∀ t, d = some t → x ≠ .tmp t := fun x hx t ht e => by
  refine h t ht ?_
  subst e
  unfold Oper.looksAt
  exact List.mem_append_left _ (List.mem_filterMap.2 ⟨.tmp t, by simpa using hx, rfl⟩)

theorem refs_live {s : St} (hr : Refs s) (o : Oper) : ∀ r ∈ refsOf o s.eval, Live s.m r := fun r h => by
  unfold refsOf at h
  obtain ⟨x, _, hx⟩ := List.mem_flatMap.1 h
  cases x with
  | tmp t => exact hr.fr t r hx
  | const v => simp [St.eval, ids_ofVal] at hx
  | func f => simp [St.eval, PV.ids, PV.idsL] at hx
  | _ => simp [St.eval, PV.ids] at hx

theorem hp_ext {a b : Hp} (h1 : ∀ i, a.h i = b.h i) (h2 : ∀ i, a.z i = b.z i) (h3 : ∀ i, a.q i = b.q i) (h4 : a.o = b.o) (h5 : a.it = b.it) : a = b := by
  cases a; cases b; simp only [Hp.mk.injEq]; exact ⟨funext h1, funext h2, funext h3, h4, h5⟩

/-- two operations of which neither looks at what the other one writes may change places -/
theorem yield_swap {s s1 s2 : St} {oi oj : Oper} (hr : Refs s) (hap : oi.apart ops oj = true) (hcp : compat oi.op oj.op = true) (h1 : Yield P ops oi s s1) (h2 : Yield P ops oj s1 s2) :
    ∃ s1', Yield P ops oj s s1' ∧ Yield P ops oi s1' s2 := by
  obtain ⟨a1, a2, a3⟩ := Oper.apart_spec hap
  obtain ⟨d1, h1⟩ := h1
  obtain ⟨d2, h2⟩ := h2
  have n1 : s1.n = s.n := by rcases h1 with ⟨_, v, m', _, rfl⟩ | ⟨_, rfl⟩ <;> simp [put_n, St.with]
  rw [n1] at d2
  have ej : ∀ x ∈ oj.op.operands, s1.eval x = s.eval x := fun x hx => by
    rcases h1 with ⟨_, v, m', _, rfl⟩ | ⟨_, rfl⟩
    · rw [put_eval (looks_ops a1 x hx), with_eval]
    · rw [put_eval (looks_ops a1 x hx)]
  have gj : gd ops s1 oj = gd ops s oj := by
    rcases h1 with ⟨_, v, m', _, rfl⟩ | ⟨_, rfl⟩
    · exact put_gd a1
    · exact put_gd (m := s.m) a1
  have a2' : ∀ d, oj.dst = some d → oi.dst ≠ some d := fun d hd e => a2 d e hd
  rcases h1 with ⟨g1, vi, mi, st1, rfl⟩ | ⟨g1, rfl⟩
  · rcases h2 with ⟨g2, vj, mj, st2, rfl⟩ | ⟨g2, rfl⟩
    · -- both are carried out
      rw [put_m] at st2
      have st2' : StepM P oj s.eval mi vj mj := stepM_congr ej st2
      have F1 := foot_step st1
      have F2 := foot_step st2'
      have Li := refs_live hr oi
      have Lj := refs_live hr oj
      simp only [compat, Bool.and_eq_true, Bool.not_eq_true', Bool.and_eq_false_imp, Bool.or_eq_false_iff] at hcp
      obtain ⟨⟨⟨⟨⟨⟨⟨c1, c2⟩, c3⟩, c4⟩, c5⟩, c6⟩, c7⟩, c8⟩ := hcp
      have dne : ∀ i, oi.dst = some i → oj.dst = some i → False := fun i h h' => a2 i h h'
      -- what the second one makes anew was not there before the first one
      have nbj : (fp oj.op).nb = true → ∀ i, oj.dst = some i → s.m.h i = none := fun hb i hi => by
        have h0 := F2.hn hb i hi
        refine Decidable.byContradiction fun hne => ?_
        exact F1.hl i hne h0
      have nqj : (fp oj.op).nq = true → ∀ i, oj.dst = some i → s.m.q i = none := fun hb i hi => by
        have h0 := F2.qn hb i hi
        refine Decidable.byContradiction fun hne => ?_
        exact F1.ql i hne h0
      obtain ⟨ma, sta, ah, az, aq, ao, ai⟩ := F2.re s.m
        (fun hrh i hi => by
          refine (F1.h1 i ?_).symm
          rintro (⟨w, _⟩ | ⟨nb, hd⟩)
          · have := (c1 w).1; rw [hrh] at this; cases this
          · exact Lj _ hi (F1.hn nb i hd))
        (fun hrz i hi => by
          refine (F1.z1 i ?_).symm
          rintro (⟨w, _⟩ | ⟨nb, hd⟩)
          · have := (c3 w).1; rw [hrz] at this; cases this
          · exact Lj _ hi (F1.hn nb i hd))
        (fun hrq i hi => by
          refine (F1.q1 i ?_).symm
          rintro (⟨w, _⟩ | ⟨nq, hd⟩)
          · have := (c5 w).1.1; rw [hrq] at this; cases this
          · rcases hi with hi | hi
            · exact Lj _ hi (F1.qn nq i hd)
            · exact dne i hd hi)
        nbj nqj
        (fun hro => by
          refine (F1.o1 ?_).symm
          cases hw : (fp oi.op).wo with
          | false => rfl
          | true => have := (c7 hw).1; rw [hro] at this; cases this) F1.i1.symm
      obtain ⟨mb, stb, bh, bz, bq, bo, bi⟩ := F1.re ma
        (fun hrh i hi => by
          refine (ah i).2 ?_
          rintro (⟨w, _⟩ | ⟨nb, hd⟩)
          · have := (c2 w).1; rw [hrh] at this; cases this
          · exact Li _ hi (nbj nb i hd))
        (fun hrz i hi => by
          refine (az i).2 ?_
          rintro (⟨w, _⟩ | ⟨nb, hd⟩)
          · have := (c4 w).1; rw [hrz] at this; cases this
          · exact Li _ hi (nbj nb i hd))
        (fun hrq i hi => by
          refine (aq i).2 ?_
          rintro (⟨w, _⟩ | ⟨nq, hd⟩)
          · have := (c6 w).1.1; rw [hrq] at this; cases this
          · rcases hi with hi | hi
            · exact Li _ hi (nqj nq i hd)
            · exact dne i hi hd)
        (fun nb i hd => by
          refine ((ah i).2 ?_).trans (F1.hn nb i hd)
          rintro (⟨_, hi⟩ | ⟨_, hd'⟩)
          · exact Lj _ hi (F1.hn nb i hd)
          · exact dne i hd hd')
        (fun nq i hd => by
          refine ((aq i).2 ?_).trans (F1.qn nq i hd)
          rintro (⟨w, hi⟩ | ⟨_, hd'⟩)
          · have := (c6 w).2; rw [nq] at this; cases this
          · exact dne i hd hd')
        (fun hro => by
          refine ao.2 ?_
          cases hw : (fp oj.op).wo with
          | false => rfl
          | true => have := (c8 hw).1; rw [hro] at this; cases this) ai
      have em : mb = mj := by
        refine hp_ext (fun i => ?_) (fun i => ?_) (fun i => ?_) ?_ (by rw [bi, ai, F2.i1, F1.i1])
        · by_cases wi : Wh oi s.eval i
          · rw [(bh i).1 wi]
            refine (F2.h1 i ?_).symm
            rintro (⟨w, hi⟩ | ⟨nb, hd⟩)
            · rcases wi with ⟨w', _⟩ | ⟨nb', hd'⟩
              · have := (c1 w').2; rw [w] at this; cases this
              · exact Lj _ hi (F1.hn nb' i hd')
            · rcases wi with ⟨_, hi'⟩ | ⟨_, hd'⟩
              · exact Li _ hi' (nbj nb i hd)
              · exact dne i hd' hd
          · rw [(bh i).2 wi]
            by_cases wj : Wh oj s.eval i
            · exact (ah i).1 wj
            · rw [(ah i).2 wj, F2.h1 i wj, F1.h1 i wi]
        · by_cases wi : Wz oi s.eval i
          · rw [(bz i).1 wi]
            refine (F2.z1 i ?_).symm
            rintro (⟨w, hi⟩ | ⟨nb, hd⟩)
            · rcases wi with ⟨w', _⟩ | ⟨nb', hd'⟩
              · have := (c3 w').2; rw [w] at this; cases this
              · exact Lj _ hi (F1.hn nb' i hd')
            · rcases wi with ⟨_, hi'⟩ | ⟨_, hd'⟩
              · exact Li _ hi' (nbj nb i hd)
              · exact dne i hd' hd
          · rw [(bz i).2 wi]
            by_cases wj : Wz oj s.eval i
            · exact (az i).1 wj
            · rw [(az i).2 wj, F2.z1 i wj, F1.z1 i wi]
        · by_cases wi : Wq oi s.eval i
          · rw [(bq i).1 wi]
            refine (F2.q1 i ?_).symm
            rintro (⟨w, hi⟩ | ⟨nq, hd⟩)
            · rcases wi with ⟨w', _⟩ | ⟨nq', hd'⟩
              · have := (c5 w').1.2; rw [w] at this; cases this
              · have := (c6 w).2; rw [nq'] at this; cases this
            · rcases wi with ⟨w', _⟩ | ⟨_, hd'⟩
              · have := (c5 w').2; rw [nq] at this; cases this
              · exact dne i hd' hd
          · rw [(bq i).2 wi]
            by_cases wj : Wq oj s.eval i
            · exact (aq i).1 wj
            · rw [(aq i).2 wj, F2.q1 i wj, F1.q1 i wi]
        · cases hwi : (fp oi.op).wo with
          | true =>
            rw [bo.1 hwi]
            refine (F2.o1 ?_).symm
            cases hwj : (fp oj.op).wo with
            | false => rfl
            | true => have := (c7 hwi).2; rw [hwj] at this; cases this
          | false =>
            rw [bo.2 hwi]
            cases hwj : (fp oj.op).wo with
            | true => exact ao.1 hwj
            | false => rw [ao.2 hwj, F2.o1 hwj, F1.o1 hwi]
      subst em
      refine ⟨(s.with ma).put oj.dst vj, ⟨d2, .inl ⟨by rw [← gj]; exact g2, vj, ma, sta, rfl⟩⟩, by rw [put_n]; exact d1, .inl ⟨by rw [put_gd a3]; exact g1, vi, mb, ?_, ?_⟩⟩
      · rw [put_m]
        refine stepM_congr (fun x hx => ?_) stb
        rw [put_eval (looks_ops a3 x hx), with_eval]
      · rw [put_with, put_with, put_comm _ _ _ a2]; rfl
    · refine ⟨s.put oj.dst (.tup []), ⟨d2, .inr ⟨by rw [← gj]; exact g2, rfl⟩⟩, by rw [put_n]; exact d1, .inl ⟨by rw [show s.put oj.dst (.tup []) = (s.with s.m).put oj.dst (.tup []) from rfl, put_gd a3]; exact g1, vi, mi, ?_, ?_⟩⟩
      · rw [put_m]
        exact stepM_congr (fun x hx => by rw [put_eval (looks_ops a3 x hx)]) st1
      · rw [put_with, put_comm _ _ _ a2]
  · rcases h2 with ⟨g2, vj, mj, st2, rfl⟩ | ⟨g2, rfl⟩
    · rw [put_m] at st2
      refine ⟨(s.with mj).put oj.dst vj, ⟨d2, .inl ⟨by rw [← gj]; exact g2, vj, mj, stepM_congr ej st2, rfl⟩⟩, by rw [put_n]; exact d1, .inr ⟨by rw [put_gd a3]; exact g1, ?_⟩⟩
      rw [put_with, put_comm _ _ _ a2]
    · refine ⟨s.put oj.dst (.tup []), ⟨d2, .inr ⟨by rw [← gj]; exact g2, rfl⟩⟩, by rw [put_n]; exact d1, .inr ⟨by rw [show s.put oj.dst (.tup []) = (s.with s.m).put oj.dst (.tup []) from rfl, put_gd a3]; exact g1, ?_⟩⟩
      rw [put_comm _ _ _ a2]
end
end Go.PL

namespace Go.PL
open Go.RowKit
set_option linter.unusedVariables false

section
variable {P : Program} {ops : Array Oper}

theorem PV.mem_didsL {id : Ref} : ∀ {cs : List PV}, id ∈ PV.didsL cs ↔ ∃ c ∈ cs, id ∈ c.dids
  | [] => by simp [PV.didsL]
  | c :: cs => by simp [PV.didsL, PV.mem_didsL (cs := cs)]
theorem didsL_sub {l l' : List PV} (h : ∀ c ∈ l, c ∈ l') {i : Ref} (hi : i ∈ PV.didsL l) : i ∈ PV.didsL l' := by
  obtain ⟨c, hc, hr⟩ := PV.mem_didsL.1 hi
  exact PV.mem_didsL.2 ⟨c, h c hc, hr⟩
mutual
theorem ids_dids : ∀ (p : PV) {r : Ref}, r ∈ p.ids → r ∈ p.dids
  | .ptr _ _, r, h => h
  | .osl _ _ _ _, r, h => h
  | .sl t es, r, h => by cases t <;> simp [PV.ids] at h; subst h; simp [PV.dids]
  | .agg cs, r, h => by simp only [PV.ids, PV.dids] at *; exact idsL_didsL cs h
  | .tup cs, r, h => by simp only [PV.ids, PV.dids] at *; exact idsL_didsL cs h
  | .fn _ cs, r, h => by simp only [PV.ids, PV.dids] at *; exact idsL_didsL cs h
  | .any, r, h => by simp [PV.ids] at h
  | .int _ _, r, h => by simp [PV.ids] at h
  | .bool _, r, h => by simp [PV.ids] at h
  | .str _, r, h => by simp [PV.ids] at h
  | .flt _ _, r, h => by simp [PV.ids] at h
  | .cpx _ _ _, r, h => by simp [PV.ids] at h
  | .rptr _, r, h => by simp [PV.ids] at h
  | .nilp, r, h => by simp [PV.ids] at h
  | .nilfn, r, h => by simp [PV.ids] at h
  | .nilmap, r, h => by simp [PV.ids] at h
  | .mref _, r, h => by simp [PV.ids] at h
  | .rmap _ _, r, h => by simp [PV.ids] at h
  | .iptr _, r, h => by simp [PV.ids] at h
theorem idsL_didsL : ∀ (cs : List PV) {r : Ref}, r ∈ PV.idsL cs → r ∈ PV.didsL cs
  | [], r, h => by simp [PV.idsL] at h
  | c :: cs, r, h => by
    simp only [PV.idsL, PV.didsL, List.mem_append] at *
    exact h.imp (ids_dids c) (idsL_didsL cs)
end
theorem dids_ofAtom (v : Value) : (ofAtom v).dids = [] := by unfold ofAtom; split <;> rfl
theorem didsL_ofAtom (l : List Value) : PV.didsL (l.map ofAtom) = [] := by
  induction l with
  | nil => rfl
  | cons a l ih => simp [PV.didsL, dids_ofAtom, ih]
theorem dids_ofVal (v : Value) : (ofVal v).dids = [] := by
  unfold ofVal
  split
  · simp [PV.dids, didsL_ofAtom]
  · split <;> rfl
  · exact dids_ofAtom _
theorem sl_dids {t : Tok} {es : List PV} {r : Ref} (h : r ∈ PV.didsL es) : r ∈ (PV.sl t es).dids := by
  cases t <;> simp [PV.dids, h]
theorem cells_dids {p c : PV} (hc : c ∈ p.cells) {k : Ref} (hk : k ∈ c.dids) : k ∈ p.dids := by
  cases p with
  | agg cs => simp only [PV.cells] at hc; simp only [PV.dids]; exact PV.mem_didsL.2 ⟨c, hc, hk⟩
  | _ => simp only [PV.cells, List.mem_singleton] at hc; subst hc; exact hk
theorem getD_ids {cs : List PV} {o : Nat} {r : Ref} (h : r ∈ (cs.getD o .any).dids) : r ∈ PV.didsL cs := by
  rw [List.getD_eq_getElem?_getD] at h
  cases hg : cs[o]? with
  | none => rw [hg] at h; simp [PV.dids] at h
  | some c => rw [hg] at h; exact PV.mem_didsL.2 ⟨c, List.mem_of_getElem? hg, h⟩

theorem partPV_ids {ag : Bool} {sz : Nat} {cs : List PV} {o : Nat} {r : Ref} (h : r ∈ (partPV ag sz cs o).dids) : r ∈ PV.didsL cs := by
  unfold partPV at h
  split at h
  · simp only [PV.dids] at h
    exact didsL_sub (fun c hc => List.mem_of_mem_drop (List.mem_of_mem_take hc)) h
  · exact getD_ids h

theorem splice_ids {cs ns : List PV} {o : Nat} {r : Ref} (h : r ∈ PV.didsL (splice cs o ns)) : r ∈ PV.didsL cs ∨ r ∈ PV.didsL ns := by
  obtain ⟨c, hc, hr⟩ := PV.mem_didsL.1 h
  unfold splice at hc
  rw [List.mem_append, List.mem_append] at hc
  rcases hc with (hc | hc) | hc
  · exact .inl (PV.mem_didsL.2 ⟨c, List.mem_of_mem_take hc, hr⟩)
  · exact .inr (PV.mem_didsL.2 ⟨c, hc, hr⟩)
  · exact .inl (PV.mem_didsL.2 ⟨c, List.mem_of_mem_drop hc, hr⟩)

theorem cellsL_ids {p : PV} {r : Ref} (h : r ∈ PV.didsL p.cells) : r ∈ p.dids := by
  obtain ⟨c, hc, hr⟩ := PV.mem_didsL.1 h
  exact cells_dids hc hr

theorem fill_ids {place : Nat → Option (Nat × Nat)} : ∀ (l : List (Nat × PV)) (cs cs' : List PV), fillPV place cs l = some cs' → ∀ r ∈ PV.didsL cs', r ∈ PV.didsL cs ∨ ∃ x ∈ l, r ∈ x.2.dids
  | [], cs, cs', h, r, hr => by
    simp only [fillPV, Option.some.injEq] at h; subst h; exact .inl hr
  | (i, p) :: rest, cs, cs', h, r, hr => by
    simp only [fillPV] at h
    split at h
    · cases h
    · split at h
      · rcases fill_ids rest _ _ h r hr with h1 | ⟨x, hx, h1⟩
        · rcases splice_ids h1 with h2 | h2
          · exact .inl h2
          · exact .inr ⟨(i, p), by simp, cellsL_ids h2⟩
        · exact .inr ⟨x, by simp [hx], h1⟩
      · cases h

theorem zero_ids {t : TypeId} {z : List PV} (h : tzero P t = some z) : PV.didsL z = [] := by
  unfold tzero aMakeFull.tbdz at h
  split at h
  · split at h
    · split at h
      · simp only [Option.some.injEq] at h
        subst h
        rw [List.eq_nil_iff_forall_not_mem]
        intro r hr
        have := cellsL_ids hr
        rw [dids_ofVal] at this
        cases this
      · cases h
    · cases h
  · cases h

theorem ofVal_cells_ids (v : Value) : PV.didsL (ofVal v).cells = [] := by
  rw [List.eq_nil_iff_forall_not_mem]
  intro r hr
  have := cellsL_ids hr
  rw [dids_ofVal] at this
  cases this

/-- what the operands lean on, all that lies below them too -/
def drefsOf (o : Oper) (ρ : Operand → PV) : List Ref := o.op.operands.toList.flatMap fun x => (ρ x).dids

/-- what the value of an operation leans on -/
def Okv (o : Oper) (ρ : Operand → PV) (a : ARes) : Prop := ∀ r ∈ a.v.dids, r ∈ drefsOf o ρ

theorem mem_refs {o : Oper} {ρ : Operand → PV} {x : Operand} {r : Ref} (hx : x ∈ o.op.operands.toList) (h : r ∈ (ρ x).dids) : r ∈ drefsOf o ρ := List.mem_flatMap.2 ⟨x, hx, h⟩

theorem fail_ids {r : Ref} : r ∉ (ARes.fail).v.dids := by simp [ARes.fail, PV.dids]
theorem v_field {t : TypeId} {x : PV} {f : Nat} {m : Hp} : ∀ r ∈ (aField P t x f m).v.dids, r ∈ x.dids := by
  intro r; unfold aField; split
  · exact fun h => by simpa [PV.dids] using partPV_ids h
  · exact fun h => absurd h fail_ids
theorem drop_ids {cs : List PV} {n : Nat} {r : Ref} (h : r ∈ PV.didsL (cs.drop n)) : r ∈ PV.didsL cs := didsL_sub (fun c hc => List.mem_of_mem_drop hc) h
theorem v_fieldAddr {t : TypeId} {x : PV} {f : Nat} {m : Hp} : ∀ r ∈ (aFieldAddr P t x f m).v.dids, r ∈ x.dids := by
  intro r; unfold aFieldAddr; split
  · exact fun h => h
  · exact fun h => by simp only [PV.dids] at *; exact drop_ids h
  · exact fun h => absurd h fail_ids
theorem v_index {t : TypeId} {x i : PV} {m : Hp} : ∀ r ∈ (aIndex P t x i m).v.dids, r ∈ x.dids := by
  intro r; unfold aIndex; split
  · exact fun h => by simpa [PV.dids] using partPV_ids h
  · exact fun h => by simp [PV.dids] at h
  · exact fun h => absurd h fail_ids
theorem v_indexAddr {t : TypeId} {x i : PV} {m : Hp} : ∀ r ∈ (aIndexAddr P t x i m).v.dids, r ∈ x.dids := by
  intro r; unfold aIndexAddr; split
  · exact fun h => by simp only [PV.dids] at h; exact sl_dids (getD_ids (cellsL_ids h))
  · exact fun h => h
  · exact fun h => h
  · exact fun h => by simp only [PV.dids] at *; exact drop_ids h
  · exact fun h => absurd h fail_ids
theorem v_none {a : ARes} (h : a.v.dids = []) {r : Ref} : r ∉ a.v.dids := by rw [h]; simp
theorem v_int {op : BinOp} {k k' : IntKind} {x y : Int} {m : Hp} : (aInt op k k' x y m).v.dids = [] := by
  unfold aInt; split <;> rfl
theorem v_str {op : BinOp} {x y : List UInt8} {m : Hp} : (aStr op x y m).v.dids = [] := by
  unfold aStr; split <;> rfl
theorem v_eq {b : Bool} {r : Option Bool} {m : Hp} : (aEq b r m).v.dids = [] := by
  unfold aEq; split <;> rfl
theorem v_eql {b : Bool} {t : TypeId} {x y : PV} {m : Hp} : (aEql P b t x y m).v.dids = [] := by
  unfold aEql; repeat' split
  all_goals first | rfl | exact v_eq
theorem v_bin {op : BinOp} {t : TypeId} {x y : PV} {m : Hp} : (aBin P op t x y m).v.dids = [] := by
  unfold aBin; repeat' split
  all_goals first | rfl | exact v_int | exact v_str | exact v_eql
theorem v_un {op : UnOp} {x : PV} {m : Hp} : (aUn op x m).v.dids = [] := by
  unfold aUn; split <;> rfl
theorem v_conv {a b : TypeId} {x : PV} {m : Hp} : (aConv P a b x m).v.dids = [] := by
  unfold aConv; split <;> first | rfl | (split <;> first | rfl | (split <;> rfl))
theorem v_len {t : TypeId} {x : PV} {m : Hp} : (aLen P t x m).v.dids = [] := by
  unfold aLen; split <;> rfl
theorem v_max {x y : PV} {m : Hp} : (aMax x y m).v.dids = [] := by
  unfold aMax; split <;> rfl
theorem v_min {x y : PV} {m : Hp} : (aMin x y m).v.dids = [] := by
  unfold aMin; split <;> rfl
theorem v_extract {x : PV} {i : Nat} {m : Hp} : ∀ r ∈ (aExtract x i m).v.dids, r ∈ x.dids := by
  intro r; unfold aExtract; split
  · exact fun h => by simpa [PV.dids] using getD_ids h
  · exact fun h => absurd h fail_ids
theorem v_nilCheck {x : PV} {m : Hp} : ∀ r ∈ (aNilCheck x m).v.dids, r ∈ x.dids := by
  intro r; unfold aNilCheck; split <;> first | exact fun h => h | exact fun h => absurd h fail_ids
theorem v_pick {c x y : PV} {m : Hp} : ∀ r ∈ (aPick c x y m).v.dids, r ∈ x.dids ∨ r ∈ y.dids := by
  intro r; unfold aPick; split <;> first | exact fun h => .inl h | exact fun h => .inr h | exact fun h => absurd h fail_ids
theorem v_build {t : TypeId} {l : List (Nat × PV)} {m : Hp} : ∀ r ∈ (aBuild P t l m).v.dids, ∃ x ∈ l, r ∈ x.2.dids := by
  intro r
  have key : ∀ {z : List PV} {pl cs}, PV.didsL z = [] → fillPV pl z l = some cs → r ∈ PV.didsL cs → ∃ x ∈ l, r ∈ x.2.dids := fun hz hf hr => by
    rcases fill_ids _ _ _ hf r hr with h | h
    · rw [hz] at h; cases h
    · exact h
  have tz : ∀ fs z, tbd P t = .str fs z → PV.didsL z = [] := fun fs z h => by
    unfold tbd at h
    repeat' split at h
    all_goals first | (cases h; exact ofVal_cells_ids _) | cases h
  have tz2 : ∀ n z, tbd P t = .arr n z → PV.didsL z = [] := fun fs z h => by
    unfold tbd at h
    repeat' split at h
    all_goals first | (cases h; exact ofVal_cells_ids _) | cases h
  unfold aBuild
  split
  · rename_i fs z hz
    split
    · rename_i cs hf; exact fun h => key (tz _ _ hz) hf (by simpa [PV.dids] using h)
    · exact fun h => absurd h fail_ids
  · rename_i fs z hz
    split
    · rename_i cs hf; exact fun h => key (tz2 _ _ hz) hf (by simpa [PV.dids] using h)
    · exact fun h => absurd h fail_ids
  · exact fun h => absurd h fail_ids
theorem v_slice {t : TypeId} {x : PV} {lo hi : Option PV} {m : Hp} : ∀ r ∈ (aSlice P t x lo hi m).v.dids, r ∈ x.dids := by
  intro r; unfold aSlice; repeat' split
  all_goals first | exact fun h => h | exact fun h => absurd h fail_ids | (exact fun h => sl_dids (didsL_sub (fun c hc => List.mem_of_mem_drop (List.mem_of_mem_take hc)) h)) | exact fun h => by simp [PV.dids] at h
end
end Go.PL

namespace Go.PL
open Go.RowKit
set_option linter.unusedVariables false

section
variable {P : Program} {ops : Array Oper}

/-- what is told leans on what is there, all that lies below too -/
structure RefsD (s : St) : Prop where
  fr : ∀ i r, r ∈ (s.fr i).dids → Live s.m r
  h : ∀ i cs, s.m.h i = some cs → ∀ c ∈ cs, ∀ r ∈ c.dids, Live s.m r
  o : ∀ b c, s.m.o b = some c → ∀ r, (r ∈ PV.didsL c.ks ∨ r ∈ PV.didsL c.vs) → Live s.m r

theorem RefsD.refs {s : St} (h : RefsD s) : Refs s := ⟨fun i r hr => h.fr i r (ids_dids _ hr), fun i cs hi c hc r hr => h.h i cs hi c hc r (ids_dids _ hr)⟩

theorem Rep.clean_dids {S : Stable} {v : Value} {p : PV} (r : Rep S v p) : ∀ k, k ∉ p.dids := by
  have go : ∀ (cs : List PV), (∀ i, i < cs.length → ∀ k, k ∉ (cs.getD i .any).dids) → ∀ k, k ∉ PV.didsL cs := fun cs h k hk => by
    obtain ⟨c, hc, hkc⟩ := PV.mem_didsL.1 hk
    obtain ⟨j, hj, rfl⟩ := List.getElem_of_mem hc
    have := h j hj k; rw [getD_lt hj] at this; exact this hkc
  induction r with
  | agg vs cs hl _ ih => intro k hk; exact go cs ih k (by simpa [PV.dids] using hk)
  | tup vs cs hl _ ih => intro k hk; exact go cs ih k (by simpa [PV.dids] using hk)
  | fn f vs cs hl _ ih => intro k hk; exact go cs ih k (by simpa [PV.dids] using hk)
  | rptr b o cs vals hS _ ih => intro k hk; exact go cs ih k (by simpa [PV.dids] using hk)
  | rmap b es ks vs h1 h2 h3 h4 h5 h6 ihK ihV =>
    intro k hk
    simp only [PV.dids, List.mem_append] at hk
    rcases hk with hk | hk
    · exact go ks ihK k hk
    · exact go vs (fun i hi => ihV i (by omega)) k hk
  | sl b o cap sz es vals hsz hcap hS _ ih =>
    intro k hk
    refine go es (fun i hi k hk => ?_) k (by simpa [PV.dids] using hk)
    have hc := go (es.getD i .any).cells (fun j hj => ih i j hi (by rw [hsz i hi] at hj; exact hj)) k
    refine hc ?_
    cases hp : es.getD i .any with
    | agg cs => rw [hp] at hk; simpa [PV.cells, PV.dids] using hk
    | _ => rw [hp] at hk; simpa [PV.cells, PV.didsL] using hk
  | _ => intro k hk; simp [PV.dids, PV.didsL] at hk

theorem RepS.dids_ids {S : Stable} {M : Maps} {q : Rows} {v : Value} {p : PV} (r : RepS S M q v p) : ∀ k ∈ p.dids, k ∈ p.ids := by
  have go : ∀ (cs : List PV), (∀ i, i < cs.length → ∀ k ∈ (cs.getD i .any).dids, k ∈ (cs.getD i .any).ids) → ∀ k ∈ PV.didsL cs, k ∈ PV.idsL cs := fun cs h k hk => by
    obtain ⟨c, hc, hkc⟩ := PV.mem_didsL.1 hk
    obtain ⟨j, hj, rfl⟩ := List.getElem_of_mem hc
    have := h j hj k; rw [getD_lt hj] at this; exact PV.mem_idsL.2 ⟨_, hc, this hkc⟩
  induction r with
  | clean r => exact fun k hk => absurd hk (r.clean_dids k)
  | ptr id off => exact fun k hk => hk
  | osl id off len cap sz hc => exact fun k hk => hk
  | row id v es r t =>
    intro k hk
    simp only [PV.dids, List.mem_cons] at hk
    rcases hk with rfl | hk
    · simp [PV.ids]
    · exact absurd (by simpa [PV.dids] using hk) (r.clean_dids k)
  | agg vs cs hl _ ih => intro k hk; simp only [PV.dids, PV.ids] at *; exact go cs ih k hk
  | tup vs cs hl _ ih => intro k hk; simp only [PV.dids, PV.ids] at *; exact go cs ih k hk
  | fn f vs cs hl _ ih => intro k hk; simp only [PV.dids, PV.ids] at *; exact go cs ih k hk
theorem Sim.refsD {B : Frm} {S : Stable} {M : Maps} {s : St} {a : Act} {w : World} (hs : Sim B S M s a w) : RefsD s := by
  refine ⟨fun i r hr => hs.ids i r ((hs.fr i).dids_ids r hr), fun i cs hi c hc r hr => ?_, fun b c hc r hr => ?_⟩
  rotate_left
  · obtain ⟨_, _, es, e1, e2, e3, e4, e5, e6⟩ := hs.stable.o b c hc
    exfalso
    rcases hr with hr | hr
    · obtain ⟨x, hx, hxr⟩ := PV.mem_didsL.1 hr
      obtain ⟨j, hj, rfl⟩ := List.getElem_of_mem hx
      have := (e5 j hj).clean_dids r
      rw [getD_lt hj] at this
      exact this hxr
    · obtain ⟨x, hx, hxr⟩ := PV.mem_didsL.1 hr
      obtain ⟨j, hj, rfl⟩ := List.getElem_of_mem hx
      have := (e6 j (by omega)).clean_dids r
      rw [getD_lt hj] at this
      exact this hxr
  have hb := hs.blk i cs hi
  obtain ⟨j, hj, rfl⟩ := List.getElem_of_mem hc
  cases hz : s.m.z i with
  | false =>
    rw [hz] at hb
    obtain ⟨_, _, ⟨vs, ty, h3, h4, h5⟩, h6⟩ := hb
    have := (h5 j hj).dids_ids r
    rw [getD_lt hj] at this
    exact h6 _ (List.getElem_mem hj) r (this hr)
  | true =>
    rw [hz] at hb
    obtain ⟨vals, hv⟩ := hb
    have := (hv j hj).2
    rw [getD_lt hj] at this
    exact absurd hr (this.clean_dids r)
theorem drefs_live {s : St} (hr : RefsD s) (o : Oper) : ∀ r ∈ drefsOf o s.eval, Live s.m r := fun r h => by
  unfold drefsOf at h
  obtain ⟨x, _, hx⟩ := List.mem_flatMap.1 h
  cases x with
  | tmp t => exact hr.fr t r hx
  | const v => simp [St.eval, dids_ofVal] at hx
  | func f => simp [St.eval, PV.dids, PV.didsL] at hx
  | _ => simp [St.eval, PV.dids] at hx

mutual
theorem share_dids : ∀ (p : PV) {r : Ref}, r ∈ p.share.dids → r ∈ p.dids
  | .ptr _ _, r, h => h
  | .osl _ _ _ _, r, h => h
  | .sl t es, r, h => by simp only [PV.share, PV.dids] at h; exact sl_dids h
  | .agg cs, r, h => by simp only [PV.share, PV.dids] at *; exact share_didsL cs h
  | .tup cs, r, h => by simp only [PV.share, PV.dids] at *; exact share_didsL cs h
  | .fn _ cs, r, h => by simp only [PV.share, PV.dids] at *; exact share_didsL cs h
  | .any, r, h => h
  | .int _ _, r, h => h
  | .bool _, r, h => h
  | .str _, r, h => h
  | .flt _ _, r, h => h
  | .cpx _ _ _, r, h => h
  | .rptr _, r, h => h
  | .nilp, r, h => h
  | .nilfn, r, h => h
  | .nilmap, r, h => h
  | .mref _, r, h => h
  | .rmap _ _, r, h => h
  | .iptr _, r, h => h
theorem share_didsL : ∀ (cs : List PV) {r : Ref}, r ∈ PV.didsL (PV.shareL cs) → r ∈ PV.didsL cs
  | [], r, h => h
  | c :: cs, r, h => by
    simp only [PV.shareL, PV.didsL, List.mem_append] at *
    exact h.imp (share_dids c) (share_didsL cs)
end

/-- what is made leans on what is there -/
def Keeps (m : Hp) (a : ARes) : Prop := (∀ r ∈ a.v.dids, Live a.m r) ∧ ∀ i cs, a.m.h i = some cs → m.h i = some cs ∨ ∀ r ∈ PV.didsL cs, Live a.m r

theorem Keeps.same {m : Hp} {a : ARes} (he : a.m = m) (h : ∀ r ∈ a.v.dids, Live m r) : Keeps m a := ⟨by rw [he]; exact h, fun i cs hi => .inl (by rw [he] at hi; exact hi)⟩
theorem live_setq {m : Hp} {d : Nat} {x : Row} {r : Ref} (h : Live m r) : Live (m.setq d x) r := by
  cases r with
  | b i => exact h
  | r i =>
    simp only [Live, Hp.setq] at *
    unfold upd; split <;> simp_all
theorem live_new {m : Hp} {d : Nat} {x : List PV} {r : Ref} (h : Live m r) : Live (m.new d x) r := by
  cases r with
  | r i => exact h
  | b i =>
    simp only [Live, Hp.new] at *
    unfold upd; split <;> simp_all
theorem live_setq_self {m : Hp} {d : Nat} {x : Row} : Live (m.setq d x) (.r d) := by simp [Live, Hp.setq, upd]
theorem live_new_self {m : Hp} {d : Nat} {x : List PV} : Live (m.new d x) (.b d) := by simp [Live, Hp.new, upd]
theorem keeps_new {ok : Prop} {m : Hp} {d : Nat} {cs : List PV} {v : PV} (hv : v.dids = [.b d]) (h : ∀ r ∈ PV.didsL cs, Live m r) : Keeps m ⟨ok, v, m.new d cs⟩ := by
  refine ⟨fun r hr => ?_, fun i ds hi => ?_⟩
  · rw [hv] at hr; simp only [List.mem_singleton] at hr; subst hr; exact live_new_self
  · by_cases hd : d = i
    · subst hd
      simp [Hp.new, upd] at hi
      subst hi
      exact .inr fun r hr => live_new (h r hr)
    · left
      simpa [Hp.new, upd, hd] using hi

theorem v_look {z : PV} {vs : List PV} {ok : Bool} {i : Option Nat} {r : Ref} (hz : z.dids = []) (h : r ∈ (lookV z vs ok i).dids) : r ∈ PV.didsL vs := by
  unfold lookV at h
  split at h
  · split at h
    · simp only [PV.dids, PV.didsL, List.append_nil] at h; exact getD_ids h
    · exact getD_ids h
  · split at h
    · simp only [PV.dids, PV.didsL, List.append_nil, hz] at h; cases h
    · rw [hz] at h; cases h
theorem mapOf_live {s : St} (hr : RefsD s) {x : PV} (hx : ∀ r ∈ x.dids, Live s.m r) {c : MapC} (h : mapOf s.m x = some c) : ∀ r, (r ∈ PV.didsL c.ks ∨ r ∈ PV.didsL c.vs) → Live s.m r := by
  cases x with
  | rmap ks vs =>
    simp only [mapOf, Option.some.injEq] at h
    subst h
    intro r hh
    exact hx r (by simp only [PV.dids, List.mem_append]; exact hh)
  | mref b => exact hr.o b c h
  | _ => simp [mapOf] at h
theorem keeps_map {s : St} (hr : RefsD s) {o : Oper} (hok : (aop P o s.eval s.m).ok) : ∀ b c, (aop P o s.eval s.m).m.o b = some c → s.m.o b = some c ∨ ∀ r, (r ∈ PV.didsL c.ks ∨ r ∈ PV.didsL c.vs) → Live s.m r := by
  intro b c hb
  have hF := foot_aop hok
  have L := drefs_live hr o
  cases hw : (fp o.op).wo with
  | false => rw [hF.o1 hw] at hb; exact .inl hb
  | true =>
    obtain ⟨dst, op, ty, pos, af, guard⟩ := o
    cases op with
    | mapUpdate t x k v =>
      have hv : ∀ r ∈ (s.eval v).dids, Live s.m r := fun r h => L r (mem_refs (x := v) (by simp [Op.operands]) h)
      have hk : ∀ r ∈ (s.eval k).dids, Live s.m r := fun r h => L r (mem_refs (x := k) (by simp [Op.operands]) h)
      revert hok hb
      show (aMapUpdate P t (s.eval x) (s.eval k) (s.eval v) s.m).ok → (aMapUpdate P t (s.eval x) (s.eval k) (s.eval v) s.m).m.o b = some c → _
      unfold aMapUpdate
      split
      · rename_i b0 _
        split
        · rename_i ls zz c0 cs h1 h2 h3
          rw [h3] at hk
          split
          · intro _ hb
            simp only at hb
            by_cases e : b0 = b
            · subst e
              rw [upd_same] at hb
              cases hb
              refine .inr fun r hh => ?_
              rcases hh with hh | hh
              · exact hr.o b0 c0 h2 r (.inl hh)
              · obtain ⟨y, hy, hyr⟩ := PV.mem_didsL.1 hh
                rcases List.mem_or_eq_of_mem_set hy with hy | rfl
                · exact hr.o b0 c0 h2 r (.inr (PV.mem_didsL.2 ⟨y, hy, hyr⟩))
                · exact hv r (share_dids _ hyr)
            · rw [upd_ne _ _ e] at hb; exact .inl hb
          · intro _ hb
            simp only at hb
            by_cases e : b0 = b
            · subst e
              rw [upd_same] at hb
              cases hb
              refine .inr fun r hh => ?_
              rcases hh with hh | hh
              · obtain ⟨y, hy, hyr⟩ := PV.mem_didsL.1 hh
                rcases List.mem_append.1 hy with hy | hy
                · exact hr.o b0 c0 h2 r (.inl (PV.mem_didsL.2 ⟨y, hy, hyr⟩))
                · simp only [List.mem_singleton] at hy
                  subst hy
                  simp only [PV.dids] at hyr
                  exact hk r (by simp only [PV.dids]; exact share_didsL _ hyr)
              · obtain ⟨y, hy, hyr⟩ := PV.mem_didsL.1 hh
                rcases List.mem_append.1 hy with hy | hy
                · exact hr.o b0 c0 h2 r (.inr (PV.mem_didsL.2 ⟨y, hy, hyr⟩))
                · simp only [List.mem_singleton] at hy
                  subst hy
                  exact hv r (share_dids _ hyr)
            · rw [upd_ne _ _ e] at hb; exact .inl hb
          · exact fun h => h.elim
        · exact fun h => h.elim
      · exact fun h => h.elim
    | makeSlice t l c => unfold fp at hw; simp only at hw; split at hw <;> cases hw
    | makeFunc f g h => unfold fp at hw; simp only at hw; split at hw <;> cases hw
    | call cc =>
      obtain ⟨cal, ar, ts⟩ := cc
      cases cal with
      | builtin bb => unfold fp at hw; simp only at hw; split at hw <;> cases hw
      | _ => cases hw
    | _ => cases hw

theorem keeps_aop {s : St} (hr : RefsD s) {o : Oper} (hok : (aop P o s.eval s.m).ok) : Keeps s.m (aop P o s.eval s.m) := by
  have hF := foot_aop hok
  have L := drefs_live hr o
  have nm : NoMem (aop P o s.eval) → (∀ r ∈ (aop P o s.eval s.m).v.dids, r ∈ drefsOf o s.eval) → Keeps s.m (aop P o s.eval s.m) := fun h hf => .same (h s.m s.m hok).1 fun r h => L r (hf r h)
  obtain ⟨dst, op, ty, pos, af, guard⟩ := o
  cases op with
  | move x => exact nm noMem_const fun r h => mem_refs (x := x) (by simp [Op.operands]) h
  | assign x => exact nm noMem_const fun r h => mem_refs (x := x) (by simp [Op.operands]) h
  | pick c x y => exact nm noMem_pick fun r h => (v_pick r h).elim (mem_refs (x := x) (by simp [Op.operands])) (mem_refs (x := y) (by simp [Op.operands]))
  | nilCheck x => exact nm noMem_nilCheck fun r h => mem_refs (x := x) (by simp [Op.operands]) (v_nilCheck r h)
  | binOp op t x y yt => exact nm noMem_bin fun r h => absurd h (v_none v_bin)
  | unOp op t x => exact nm noMem_un fun r h => absurd h (v_none v_un)
  | convert a b x => exact .same (conv_m hok) fun r h => absurd h (v_none v_conv)
  | field t x f => exact nm noMem_field fun r h => mem_refs (x := x) (by simp [Op.operands]) (v_field r h)
  | fieldAddr t x f => exact nm noMem_fieldAddr fun r h => mem_refs (x := x) (by simp [Op.operands]) (v_fieldAddr r h)
  | index t x i => exact nm noMem_index fun r h => mem_refs (x := x) (by simp [Op.operands]) (v_index r h)
  | indexAddr t x i => exact nm noMem_indexAddr fun r h => mem_refs (x := x) (by simp [Op.operands]) (v_indexAddr r h)
  | extract x i => exact nm noMem_extract fun r h => mem_refs (x := x) (by simp [Op.operands]) (v_extract r h)
  | lookup t x k ok =>
    have hop : aop P ⟨dst, .lookup t x k ok, ty, pos, af, guard⟩ s.eval s.m = aLookup P t (s.eval x) (s.eval k) ok s.m := rfl
    rw [hop] at hok ⊢
    refine .same (lookup_facts s.m s.m rfl hok).1 fun r h => ?_
    revert hok h
    unfold aLookup
    split
    · rename_i ls z c cs h1 h2 h3
      split
      · intro _ h
        obtain ⟨kt, et, fs, i, zv, t1, t2, t3, t4, t5, rfl, t6⟩ := tmap_spec h1
        exact mapOf_live hr (fun r h => L r (mem_refs (x := x) (by simp [Op.operands]) h)) h2 r (.inr (v_look (dids_ofVal _) h))
      · exact fun h => h.elim
    · exact fun h => h.elim
  | entry x =>
    have hop : aop P ⟨dst, .entry x, ty, pos, af, guard⟩ s.eval s.m = aEntry (s.eval x) s.m := rfl
    rw [hop] at hok ⊢
    refine .same (entry_facts s.m s.m rfl rfl hok).1 fun r h => ?_
    revert hok h
    unfold aEntry
    split
    · split
      · split
        · rename_i c i h2 h3
          intro _ h
          simp only [PV.dids, PV.didsL, List.append_nil, List.mem_append] at h
          exact hr.o _ c h2 r (h.imp getD_ids getD_ids)
        · exact fun h => h.elim
      · exact fun h => h.elim
    · exact fun h => h.elim
  | mapUpdate t x k v =>
    have hop : aop P ⟨dst, .mapUpdate t x k v, ty, pos, af, guard⟩ s.eval s.m = aMapUpdate P t (s.eval x) (s.eval k) (s.eval v) s.m := rfl
    rw [hop] at hok ⊢
    obtain ⟨e, _⟩ := update_facts s.m s.m rfl hok
    refine ⟨fun r h => ?_, fun i cs hi => .inl (by rw [e] at hi; exact hi)⟩
    revert hok h
    unfold aMapUpdate
    split
    · split
      · split
        · exact fun _ h => by simp [PV.dids, PV.didsL] at h
        · exact fun _ h => by simp [PV.dids, PV.didsL] at h
        · exact fun h => h.elim
      · exact fun h => h.elim
    · exact fun h => h.elim
  | build t parts =>
    refine nm noMem_build fun r h => ?_
    obtain ⟨x, hx, hr⟩ := v_build r h
    obtain ⟨y, hy, rfl⟩ := List.mem_map.1 hx
    exact mem_refs (x := y.2) (by simp [Op.operands]; exact ⟨y.1, Array.mem_toList_iff.1 hy⟩) hr
  | slice t x lo hi mx =>
    cases mx with
    | some _ => exact hok.elim
    | none => exact nm noMem_slice fun r h => mem_refs (x := x) (by simp [Op.operands]) (v_slice r h)
  | alloc t =>
    cases dst with
    | none => exact hok.elim
    | some d =>
      cases hz : tzero P t with
      | none => simp only [aop, hz] at hok; exact hok.elim
      | some z => simp only [aop, hz]; exact keeps_new rfl (by rw [zero_ids hz]; simp)
  | box t x =>
    cases dst with
    | none => exact hok.elim
    | some d => exact keeps_new rfl fun r h => L r (mem_refs (x := x) (by simp [Op.operands]) (cellsL_ids h))
  | load t x =>
    simp only [aop] at hok ⊢
    split at hok
    · rename_i ht
      rw [if_pos ht]
      revert hok
      unfold aLoad
      split
      · rename_i cs hx
        exact fun _ => .same rfl fun r h => L r (mem_refs (x := x) (by simp [Op.operands]) (by rw [hx]; simp only [PV.dids]; exact partPV_ids h))
      · split
        · rename_i cs hh
          exact fun _ => .same rfl fun r h => by
            obtain ⟨c, hc, hcr⟩ := PV.mem_didsL.1 (partPV_ids h)
            exact hr.h _ cs hh c hc r hcr
        · exact fun h => h.elim
      · exact fun h => h.elim
    · exact hok.elim
  | store t x y =>
    simp only [aop] at hok ⊢
    split at hok
    · rename_i ht
      rw [if_pos ht]
      revert hok
      unfold aStore
      split
      · rename_i id off hx
        split
        · rename_i cs hh
          intro hok
          refine ⟨fun r h => by simp [PV.dids, PV.didsL] at h, fun i ds hi => ?_⟩
          have lv : ∀ r, Live s.m r → Live { s.m with h := upd s.m.h id (some (splice cs off (s.eval y).cells)) } r := fun r h => by
            cases r with
            | r i => exact h
            | b i => simp only [Live] at *; unfold upd; split <;> simp_all
          by_cases hd : id = i
          · subst hd
            simp [upd] at hi
            subst hi
            refine .inr fun r h => lv r ?_
            rcases splice_ids h with h | h
            · obtain ⟨c, hc, hcr⟩ := PV.mem_didsL.1 h
              exact hr.h id cs hh c hc r hcr
            · exact L r (mem_refs (x := y) (by simp [Op.operands]) (cellsL_ids h))
          · left; simpa [upd, hd] using hi
        · exact fun h => h.elim
      · exact fun h => h.elim
    · exact hok.elim
  | makeFunc fn first caps =>
    cases fn with
    | func f =>
      simp only [aop] at hok ⊢
      split at hok
      · rename_i hf
        rw [if_pos hf]
        refine ⟨fun r h => ?_, fun i cs hi => .inl (by simpa [frozenBy_h] using hi)⟩
        have : Live s.m r := by
          obtain ⟨c, hc, hcr⟩ := PV.mem_didsL.1 (by simpa [PV.dids] using h)
          obtain ⟨x, hx, rfl⟩ := List.mem_map.1 hc
          exact L r (mem_refs (x := x) (by simp [Op.operands]; right; exact Array.mem_toList_iff.1 hx) hcr)
        cases r with
        | b i => simpa [Live, frozenBy_h] using this
        | r i => simpa [Live, frozenBy_q] using this
      · exact hok.elim
    | _ => exact hok.elim
  | buildSlice t len parts =>
    cases dst with
    | none => exact hok.elim
    | some d =>
      cases he : telem P t with
      | none => simp only [aop, aBuildSlice, he] at hok; exact hok.elim
      | some ei =>
        simp only [aop, aBuildSlice, he]
        refine ⟨fun r h => ?_, fun i cs hi => .inl hi⟩
        simp only [PV.dids, List.mem_cons] at h
        rcases h with rfl | h
        · exact live_setq_self
        · obtain ⟨c, hc, hcr⟩ := PV.mem_didsL.1 h
          obtain ⟨x, hx, rfl⟩ := List.mem_map.1 hc
          obtain ⟨y, hy, rfl⟩ := List.mem_map.1 hx
          exact live_setq (L r (mem_refs (x := y.2) (by simp [Op.operands]; exact ⟨y.1, Array.mem_toList_iff.1 hy⟩) (share_dids _ hcr)))
  | makeSlice t l c =>
    cases dst with
    | none => exact hok.elim
    | some d =>
      by_cases hl : ∃ k, l = .const (.int k 0)
      · obtain ⟨k, rfl⟩ := hl
        have hop : aop P ⟨some d, .makeSlice t (.const (.int k 0)) c, ty, pos, af, guard⟩ s.eval s.m = aMakeRow P d t (s.eval c) s.m := rfl
        rw [hop] at hok ⊢
        revert hok
        unfold aMakeRow
        split
        · exact fun _ => ⟨fun r h => by simp [PV.dids, PV.didsL] at h; subst h; exact live_setq_self, fun i cs hi => .inl hi⟩
        · exact fun h => h.elim
      · have hop : aop P ⟨some d, .makeSlice t l c, ty, pos, af, guard⟩ s.eval s.m = aMakeFull P d t (s.eval l) (s.eval c) s.m := by
          unfold aop
          simp only
          split
          · rename_i k; exact absurd ⟨_, rfl⟩ hl
          · rfl
        rw [hop] at hok ⊢
        revert hok
        unfold aMakeFull
        split
        · split
          · rename_i z hz
            refine fun _ => keeps_new rfl fun r h => ?_
            have hz' : PV.didsL z = [] := zero_ids (P := P) hz
            obtain ⟨c', hc, hcr⟩ := PV.mem_didsL.1 h
            obtain ⟨z', hz2, hc⟩ := List.mem_flatten.1 hc
            rw [List.eq_of_mem_replicate hz2] at hc
            have := PV.mem_didsL.2 ⟨c', hc, hcr⟩
            rw [hz'] at this; cases this
          · exact fun h => h.elim
        · exact fun h => h.elim
  | call c =>
    obtain ⟨callee, args, ts⟩ := c
    cases callee with
    | builtin b =>
      simp only [aop] at hok ⊢
      revert hok
      unfold aBuiltin
      split
      · split
        · exact fun hok => .same (mapLen_facts s.m s.m rfl hok).1 fun r h => absurd h (v_none (by unfold aMapLen; split <;> rfl))
        · exact fun hok => .same (noMem_len s.m s.m hok).1 fun r h => absurd h (v_none v_len)
      · rename_i t tx x y hts hxs
        have hx : ∀ r ∈ x.dids, Live s.m r := fun r h => by
          have : x ∈ args.toList.map s.eval := by rw [hxs]; simp
          obtain ⟨z, hz, rfl⟩ := List.mem_map.1 this
          exact L r (mem_refs (x := z) (by simp [Op.operands, Call.operands]; exact Array.mem_toList_iff.1 hz) h)
        have hy : ∀ r ∈ y.dids, Live s.m r := fun r h => by
          have : y ∈ args.toList.map s.eval := by rw [hxs]; simp
          obtain ⟨z, hz, rfl⟩ := List.mem_map.1 this
          exact L r (mem_refs (x := z) (by simp [Op.operands, Call.operands]; exact Array.mem_toList_iff.1 hz) h)
        have hys : ∀ ys, appended P tx y = some ys → ∀ r ∈ PV.didsL ys, Live s.m r := fun ys h r hr => by
          unfold appended at h
          split at h
          · cases h; exact hy r (sl_dids hr)
          · cases h
            obtain ⟨c, hc, hcr⟩ := PV.mem_didsL.1 hr
            unfold bytesPV at hc
            obtain ⟨z, hz, rfl⟩ := List.mem_map.1 hc
            simp [PV.dids] at hcr
          · cases h
        split
        · unfold aAppend
          split
          · rename_i ys _ _ hyy
            refine fun _ => ⟨fun r h => ?_, fun i cs hi => .inl hi⟩
            simp only [PV.dids, List.mem_cons] at h
            rcases h with rfl | h
            · exact live_setq_self
            · exact live_setq (hys _ (by assumption) r h)
          · split
            · refine fun _ => ⟨fun r h => ?_, fun i cs hi => .inl ?_⟩
              · simp only [PV.dids, List.mem_cons] at h
                rcases h with rfl | h
                · simp only
                  split <;> exact live_setq_self
                · have : Live s.m r := by
                    obtain ⟨c, hc, hcr⟩ := PV.mem_didsL.1 h
                    rcases List.mem_append.1 hc with hc | hc
                    · exact hx r (sl_dids (PV.mem_didsL.2 ⟨c, hc, hcr⟩))
                    · exact hys _ (by assumption) r (PV.mem_didsL.2 ⟨c, hc, hcr⟩)
                  simp only
                  split
                  · exact live_setq this
                  · exact live_setq (live_setq this)
              · simp only at hi
                split at hi <;> exact hi
            · exact fun h => h.elim
          · exact fun h => h.elim
        · exact fun h => h.elim
      · exact fun hok => .same (noMem_max s.m s.m hok).1 fun r h => absurd h (v_none v_max)
      · exact fun hok => .same (noMem_min s.m s.m hok).1 fun r h => absurd h (v_none v_min)
      · exact fun h => h.elim
    | _ => exact hok.elim
  | _ => exact hok.elim

theorem refs_yield {s s' : St} {o : Oper} (hr : RefsD s) (h : Yield P ops o s s') : RefsD s' := by
  have put : ∀ (m' : Hp) (v : PV), (∀ r, Live s.m r → Live m' r) → (∀ r ∈ v.dids, Live m' r) → (∀ i cs, m'.h i = some cs → s.m.h i = some cs ∨ ∀ r ∈ PV.didsL cs, Live m' r) → (∀ b c, m'.o b = some c → s.m.o b = some c ∨ ∀ r, (r ∈ PV.didsL c.ks ∨ r ∈ PV.didsL c.vs) → Live s.m r) → RefsD ((s.with m').put o.dst v) := fun m' v hl hv hh ho => by
    refine ⟨fun i r h => ?_, fun i cs hi c hc r h => ?_, fun b c hc r h => ?_⟩
    · rw [put_m]
      by_cases hd : o.dst = some i
      · rw [hd] at h
        simp only [St.put, upd, if_true] at h
        exact hv r h
      · rw [put_fr hd] at h
        exact hl r (hr.fr i r h)
    · rw [put_m] at hi ⊢
      rcases hh i cs hi with h1 | h1
      · exact hl r (hr.h i cs h1 c hc r h)
      · exact h1 r (PV.mem_didsL.2 ⟨c, hc, h⟩)
    · rw [put_m] at hc ⊢
      rcases ho b c hc with h1 | h1
      · exact hl r (hr.o b c h1 r h)
      · exact hl r (h1 r h)
  obtain ⟨_, h⟩ := h
  rcases h with ⟨_, v, m', hs, rfl⟩ | ⟨_, rfl⟩
  · have F := foot_step hs
    have hl : ∀ r, Live s.m r → Live m' r := fun r h => by
      cases r with
      | b i => exact F.hl i h
      | r i => exact F.ql i h
    rcases hs with ⟨h1, rfl, rfl⟩ | ⟨c, g, args, ho, hc, hg, hp, rfl⟩
    · have K := keeps_aop hr h1
      exact put _ _ hl K.1 K.2 (keeps_map hr h1)
    · exact put _ _ hl (by rw [hp.2.1]; simp) (fun i cs hi => .inl hi) (fun b c hc => .inl hc)
  · exact put s.m (.tup []) (fun r h => h) (by simp [PV.dids, PV.didsL]) (fun i cs hi => .inl hi) (fun b c hc => .inl hc)
end
end Go.PL

namespace Go.PL
open Go.RowKit
set_option linter.unusedVariables false

section
variable {P : Program} {ops : Array Oper} {md : Region.Mode}

/-- whatever order is picked -/
def anyA (P : Program) (md : Region.Mode) (ops : Array Oper) (K : St → Prop) : Nat → Array Bool → St → Prop
  | 0, listed, s => Region.ready md ops listed = [] ∧ K s
  | fuel + 1, listed, s => (Region.ready md ops listed = [] → K s) ∧ ∀ i ∈ Region.ready md ops listed, ∃ o s', ops[i]? = some o ∧ Yield P ops o s s' ∧ anyA P md ops K fuel (listed.setIfInBounds i true) s'

theorem anyA_first {K : St → Prop} {i : Nat} {oi : Oper} (hi : ops[i]? = some oi) :
    ∀ (fuel : Nat) (listed : Array Bool) (s s1 : St), RefsD s →
      (∀ j oj, ops[j]? = some oj → j ≠ i → listed.getD j true = false → (∀ e ∈ oj.after, Region.binds md e = true → e.on ≠ i) → oi.apart ops oj = true ∧ compat oi.op oj.op = true) →
      i ∈ Region.ready md ops listed → Yield P ops oi s s1 →
      anyA P md ops K fuel (listed.setIfInBounds i true) s1 → anyA P md ops K (fuel + 1) listed s := by
  intro fuel
  induction fuel with
  | zero =>
    intro listed s s1 hR _ hr hy H
    refine ⟨fun h => (by rw [h] at hr; cases hr), fun j hj => ?_⟩
    by_cases hji : j = i
    · subst hji; exact ⟨oi, s1, hi, hy, H⟩
    · have := ready_mono hj hji
      rw [H.1] at this
      cases this
  | succ fuel ih =>
    intro listed s s1 hR hfree hr hy H
    refine ⟨fun h => (by rw [h] at hr; cases hr), fun j hj => ?_⟩
    by_cases hji : j = i
    · subst hji; exact ⟨oi, s1, hi, hy, H⟩
    · obtain ⟨oj, s2, hoj, hy2, h1⟩ := H.2 j (ready_mono hj hji)
      obtain ⟨hjun, oj', hoj', hall⟩ := mem_ready.1 hj
      rw [hoj] at hoj'; cases hoj'
      have hnot : ∀ e ∈ oj.after, Region.binds md e = true → e.on ≠ i := fun e he hb heq => by
        have h1 := hall e he hb
        have h0 := (mem_ready.1 hr).1
        rw [heq] at h1
        rcases Nat.lt_or_ge i listed.size with h' | h'
        · simp [h'] at h0 h1; rw [h0] at h1; cases h1
        · simp [Array.getElem?_eq_none h'] at h1
      obtain ⟨hap, hcp⟩ := hfree j oj hoj hji hjun hnot
      obtain ⟨s1', hya, hyb⟩ := yield_swap hR.refs hap hcp hy hy2
      have hfree' : ∀ k ok, ops[k]? = some ok → k ≠ i → (listed.setIfInBounds j true).getD k true = false →
          (∀ e ∈ ok.after, Region.binds md e = true → e.on ≠ i) → oi.apart ops ok = true ∧ compat oi.op ok.op = true := fun k ok hk hki hun hno => by
        refine hfree k ok hk hki ?_ hno
        by_cases hjk : j = k
        · subst hjk; exact hjun
        · rw [getD_set_ne true hjk] at hun; exact hun
      refine ⟨oj, s1', hoj, hya, ih (listed.setIfInBounds j true) s1' s2 (refs_yield hR hya) hfree' (ready_mono hr (Ne.symm hji)) hyb ?_⟩
      rw [Array.setIfInBounds_comm _ _ hji]
      exact h1

def freeA (md : Region.Mode) (ops : Array Oper) (listed : Array Bool) (i : Nat) : Bool :=
  match ops[i]? with
  | none => false
  | some oi => (List.range ops.size).all fun j => j == i || listed.getD j true || match ops[j]? with
      | some oj => oj.after.any (fun e => Region.binds md e && e.on == i) || (oi.apart ops oj && compat oi.op oj.op)
      | none => true

theorem freeA_spec {i : Nat} {oi : Oper} {listed : Array Bool} (hi : ops[i]? = some oi) (h : freeA md ops listed i = true) (j : Nat) (oj : Oper)
    (hj : ops[j]? = some oj) (hne : j ≠ i) (hun : listed.getD j true = false) (hno : ∀ e ∈ oj.after, Region.binds md e = true → e.on ≠ i) :
    oi.apart ops oj = true ∧ compat oi.op oj.op = true := by
  simp only [freeA, hi, List.all_eq_true, List.mem_range] at h
  have h1 := h j (Array.getElem?_eq_some_iff.1 hj).1
  simp only [hj, Bool.or_eq_true, beq_iff_eq, hne, false_or, hun, Bool.false_eq_true] at h1
  rcases h1 with h1 | h1
  · obtain ⟨e, he, hb⟩ := Array.any_eq_true'.1 h1
    simp only [Bool.and_eq_true, beq_iff_eq] at hb
    exact absurd hb.2 (hno e he hb.1)
  · simpa using h1

def lexFromA (md : Region.Mode) (ops : Array Oper) : Nat → Nat → Array Bool → Bool
  | 0, _, listed => (Region.ready md ops listed).isEmpty
  | fuel + 1, k, listed => (Region.ready md ops listed).contains k && freeA md ops listed k && lexFromA md ops fuel (k + 1) (listed.setIfInBounds k true)

/-- ONE WALK OF THE TEXT'S ORDER SERVES EVERY ORDER -/
def drawB (ops : Array Oper) : Bool := lexFromA .any ops ops.size 0 (Array.replicate ops.size false)

theorem anyA_lex {K : St → Prop} : ∀ (l : List Oper) (k : Nat) (listed : Array Bool) (s : St), RefsD s → (∀ j, l[j]? = ops[k + j]?) →
    lexFromA md ops l.length k listed = true → lexA P ops K l s → anyA P md ops K l.length listed s
  | [], _, _, _, _, _, hB, h => ⟨by simpa [lexFromA] using hB, h⟩
  | o :: l, k, listed, s, hR, hl, hB, h => by
    have h0 : ops[k]? = some o := by simpa using (hl 0).symm
    simp only [List.length_cons, lexFromA, Bool.and_eq_true] at hB
    obtain ⟨⟨hr, hf⟩, hB'⟩ := hB
    obtain ⟨hd, h⟩ := h
    have hl' : ∀ j, l[j]? = ops[(k + 1) + j]? := fun j => by have := hl (j + 1); simpa [Nat.add_assoc, Nat.add_comm 1 j] using this
    rcases h with ⟨hg, v, m', hst, hrest⟩ | ⟨hg, hrest⟩
    · have hy : Yield P ops o s ((s.with m').put o.dst v) := ⟨hd, .inl ⟨hg, v, m', hst, rfl⟩⟩
      exact anyA_first h0 l.length listed s _ hR (freeA_spec h0 hf) (by simpa using hr) hy (anyA_lex l (k + 1) _ _ (refs_yield hR hy) hl' hB' hrest)
    · have hy : Yield P ops o s (s.put o.dst (.tup [])) := ⟨hd, .inr ⟨hg, rfl⟩⟩
      exact anyA_first h0 l.length listed s _ hR (freeA_spec h0 hf) (by simpa using hr) hy (anyA_lex l (k + 1) _ _ (refs_yield hR hy) hl' hB' hrest)

theorem any_sound {K : St → Prop} {B : Frm} {Qc : Exit → Act → World → Prop} {S0 : Stable} {w0 : World} (hQ : ∀ s' S' M' a' w', K s' → Sim B S' M' s' a' w' → Ext B S0 S' w0 w' → Qc .normal a' w') :
    ∀ (fuel : Nat) (listed : Array Bool) (s : St), anyA P md ops K fuel listed s → ∀ S M a w, Sim B S M s a w → Ext B S0 S w0 w → wpAny P md ops Qc fuel listed a w
  | 0, _, s, h, S, M, a, w, hs, he => ⟨h.1, hQ s S M a w h.2 hs he⟩
  | fuel + 1, listed, s, h, S, M, a, w, hs, he => ⟨fun h0 => hQ s S M a w (h.1 h0) hs he, fun i hi => by
      obtain ⟨o, s', ho, hy, hn⟩ := h.2 i hi
      unfold wpOp
      simp only [ho]
      obtain ⟨hd, hy⟩ := hy
      rcases hy with ⟨hg, v, m', hst, rfl⟩ | ⟨hg, rfl⟩
      · rw [gd_ok hs hg, if_pos rfl]
        exact .inl (step_sound hs (dstOk_spec hd) hst _ _ fun u w' S' M' hs' he' => any_sound hQ fuel _ _ hn S' M' _ w' hs' (he.trans he'))
      · rw [gd_ok hs hg, if_neg (by simp)]
        exact any_sound hQ fuel _ _ hn S M _ w (skip_sim hs hd) he⟩

theorem awp_draw {id : Nat} {Q : Exit → St → Prop} {s : St} (hm : P.follows .mixedOrders = true) (hB : drawB ops = true) (h : lexA P ops (Q .normal) ops.toList s) : awp P (.region id ops true) Q s := fun B S M a w hs => by
  refine wp_region_any hm ?_
  have he : Ext B S S w { w with drawn := w.drawn + 1 } := ⟨SLe.refl _, fun _ _ => ⟨fun _ => rfl, rfl⟩, (BelowF.refl B w).drew⟩
  have hs' : Sim B S M s a { w with drawn := w.drawn + 1 } := hs.world rfl
  have := anyA_lex (P := P) (K := Q .normal) (md := .any) ops.toList 0 (Array.replicate ops.size false) s hs.refsD (by simp) (by simpa [drawB] using hB) h
  have := any_sound (B := B) (S0 := S) (w0 := w) (Qc := fun e a' w' => ∃ s' S' M', Q e s' ∧ Sim B S' M' s' a' w' ∧ Ext B S S' w w') (fun s' S' M' a' w' h1 h2 h3 => ⟨s', S', M', h1, h2, h3⟩) _ _ s this S M a _ hs' he
  simpa using this

theorem vDraw {id : Nat} {l : List Oper} {Q : Exit → St → Prop} {s : St} (hm : P.follows .mixedOrders = true) (hB : drawB l.toArray = true) (h : @vA P false ⟨Q .normal⟩ ⟨l⟩ ⟨l⟩ s) : awp P (.region id l.toArray true) Q s :=
  awp_draw hm hB (by simpa using vcA_lex l s h)
end
end Go.PL

namespace Go.PL
open Go.RowKit
set_option linter.unusedVariables false

/-- a value out of its cells -/
def asPV (ag : Bool) (ds : List PV) : PV := if ag then .agg ds else ds.getD 0 .any

theorem nb_true {b : Bool} (h : (!b) = false) : b = true := by cases b <;> simp_all
/-- a pointer to nothing, a slice of nothing: not told -/
def oddB (P : Program) (t : TypeId) : Bool :=
  match P.underlying t with
  | some (.slice e) => !(decide (0 < P.cellsOf e) && (tagg P e || P.cellsOf e == 1))
  | some (.pointer e) => !decide (0 < P.cellsOf e)
  | _ => false
mutual
/-- the cells of a value of a type, told of values -/
inductive PT (P : Program) : TypeId → List PV → Prop
  | bool {t : TypeId} (h : P.underlying t = some .bool) (b : Bool) : PT P t [.bool b]
  | int {t : TypeId} {k : IntKind} (h : P.underlying t = some (.int k)) (n : Int) (h1 : k.min ≤ n) (h2 : n ≤ k.max) : PT P t [.int k n]
  | flt {t : TypeId} {k : FloatKind} (h : P.underlying t = some (.float k)) (b : Nat) (hw : (Lit.float k b).wf = true) : PT P t [.flt k b]
  | str {t : TypeId} (h : P.underlying t = some .string) (l : List UInt8) (hl : l.length ≤ maxLen) : PT P t [.str l]
  | nilp {t e : TypeId} (h : P.underlying t = some (.pointer e)) : PT P t [.nilp]
  | ptr {t e : TypeId} (h : P.underlying t = some (.pointer e)) (cs : List PV) (hp : PT P e cs) : PT P t [.rptr cs]
  | sl {t e : TypeId} (h : P.underlying t = some (.slice e)) (n : Nat) (hn : n ≤ maxLen) (f : Nat → List PV) (hp : ∀ i, i < n → PT P e (f i)) : PT P t [.sl .no ((List.range n).map fun i => asPV (tagg P e) (f i))]
  | str' {t : TypeId} {fs : Array Field} (h : P.underlying t = some (.struct fs)) (cs : List PV) (hp : PTs P (fs.toList.map (·.type)) cs) : PT P t cs
  | arr {t e : TypeId} {n : Nat} (h : P.underlying t = some (.array n e)) (cs : List PV) (hp : PTs P (List.replicate n e) cs) : PT P t cs
  | odd {t : TypeId} (h : oddB P t = true) : PT P t [.any]
  | any {t : TypeId} (h : ∀ d, P.underlying t = some d → (match d with | .interface _ | .map _ _ | .func .. | .chan .. | .unsafePointer => True | _ => False)) : PT P t [.any]
inductive PTs (P : Program) : List TypeId → List PV → Prop
  | nil : PTs P [] []
  | cons {t : TypeId} {ts : List TypeId} {a b : List PV} (h : PT P t a) (hs : PTs P ts b) : PTs P (t :: ts) (a ++ b)
end

/-- the type's cells lie as its parts say -/
def offsOk (P : Program) : Nat → List Field → Option Nat
  | o, [] => some o
  | o, f :: fs => if f.offset = o then offsOk P (o + P.cellsOf f.type) fs else none
def layB (P : Program) (t : TypeId) : Bool :=
  match P.underlying t with
  | some (.struct fs) => offsOk P 0 fs.toList == some (P.cellsOf t) && fs.toList.all fun f => decide (f.type < P.types.size)
  | some (.array n e) => P.cellsOf t == n * P.cellsOf e && decide (e < P.types.size)
  | some (.slice e) => decide (e < P.types.size)
  | some (.pointer e) => decide (e < P.types.size)
  | _ => true
def layAll (P : Program) : Bool := (List.range P.types.size).all (layB P)

def RepC (S : Stable) (vs : List Value) (ps : List PV) : Prop := vs.length = ps.length ∧ ∀ i, i < ps.length → Rep S (vs.getD i undef) (ps.getD i .any)

section
variable {P : Program} {S : Stable}

theorem RepC.nil : RepC S [] [] := ⟨rfl, fun i hi => by simp at hi⟩
theorem RepC.one {v : Value} {p : PV} (h : Rep S v p) : RepC S [v] [p] := ⟨rfl, fun i hi => by
  have : i = 0 := by simpa using hi
  subst this; exact h⟩
theorem RepC.append {vs ws : List Value} {ps qs : List PV} (h : RepC S vs ps) (h' : RepC S ws qs) : RepC S (vs ++ ws) (ps ++ qs) := by
  refine ⟨by simp [h.1, h'.1], fun i hi => ?_⟩
  by_cases h1 : i < ps.length
  · rw [getD_append_left (by rw [h.1]; exact h1), getD_append_left h1]; exact h.2 i h1
  · have h1' : ps.length ≤ i := by omega
    have h2 := h'.2 (i - ps.length) (by simp at hi; omega)
    have e1 : (vs ++ ws).getD i undef = ws.getD (i - ps.length) undef := by
      simp only [List.getD_eq_getElem?_getD]; rw [List.getElem?_append_right (by rw [h.1]; exact h1'), h.1]
    have e2 : (ps ++ qs).getD i .any = qs.getD (i - ps.length) .any := by
      simp only [List.getD_eq_getElem?_getD]; rw [List.getElem?_append_right h1']
    rw [e1, e2]; exact h2

/-- every cell of a world -/
def cellsOf (w : World) : Stable := ⟨fun b o => w.cell? ⟨b, o, none⟩, fun _ => none⟩

theorem lay_of {t : TypeId} (hl : layAll P = true) (h : t < P.types.size) : layB P t = true :=
  List.all_eq_true.1 hl t (List.mem_range.2 h)

theorem mapM_some {α β : Type} {f : α → Option β} : ∀ {l : List α} {xs : List β}, l.mapM f = some xs → ∀ a ∈ l, ∃ x, f a = some x
  | [], _, _, a, ha => by cases ha
  | b :: l, xs, h, a, ha => by
    rw [List.mapM_cons] at h
    cases hb : f b with
    | none => rw [hb] at h; cases h
    | some y =>
      rw [hb] at h
      cases hl : l.mapM f with
      | none => rw [hl] at h; cases h
      | some ys =>
        rcases List.mem_cons.1 ha with rfl | ha
        · exact ⟨y, hb⟩
        · exact mapM_some hl a ha

theorem cells_some {w : World} {base : Nat} {a : Addr} {n : Nat} {cs : List Value} (h : w.cells? base a n = some cs) : cs.length = n ∧ ∀ i, i < n → w.cell? (a.add i) = some (cs.getD i undef) := by
  unfold World.cells? at h
  split at h
  · have go : ∀ (l : List Nat) (cs : List Value), (l.mapM fun i => w.cell? (a.add i)) = some cs → cs.length = l.length ∧ ∀ i, i < l.length → w.cell? (a.add (l.getD i 0)) = some (cs.getD i undef) := by
      intro l
      induction l with
      | nil => intro cs h; simp at h; subst h; simp
      | cons b l ih =>
        intro cs h
        rw [List.mapM_cons] at h
        cases hb : w.cell? (a.add b) with
        | none => rw [hb] at h; cases h
        | some y =>
          rw [hb] at h
          cases hl : (l.mapM fun i => w.cell? (a.add i)) with
          | none => rw [hl] at h; cases h
          | some ys =>
            rw [hl] at h
            simp at h
            subst h
            obtain ⟨h1, h2⟩ := ih ys hl
            refine ⟨by simp [h1], fun i hi => ?_⟩
            cases i with
            | zero => simpa using hb
            | succ i => simpa using h2 i (by simpa using hi)
    obtain ⟨h1, h2⟩ := go _ _ h
    refine ⟨by simpa using h1, fun i hi => ?_⟩
    have := h2 i (by simpa using hi)
    simpa [List.getD_eq_getElem?_getD, hi] using this
  · cases h


/-- the cells of a struct's fields, one behind the other -/
theorem struct_pts {g : TypeId → List Value → Prop} (hg : ∀ t cs, t < P.types.size → g t cs → ∃ ps, RepC S cs ps ∧ PT P t ps) : ∀ (fs : List Field) (o n : Nat) (cs : List Value), offsOk P o fs = some n → cs.length = n →
    (∀ f ∈ fs, f.type < P.types.size) → (∀ f ∈ fs, g f.type ((cs.drop f.offset).take (P.cellsOf f.type))) → ∃ ps, RepC S (cs.drop o) ps ∧ PTs P (fs.map (·.type)) ps
  | [], o, n, cs, ho, hn, _, _ => by
    simp only [offsOk, Option.some.injEq] at ho
    subst ho
    rw [List.drop_eq_nil_of_le (by omega)]
    exact ⟨[], .nil, .nil⟩
  | f :: fs, o, n, cs, ho, hn, hlt, h => by
    simp only [offsOk] at ho
    split at ho
    · rename_i hof
      obtain ⟨ps, h1, h2⟩ := struct_pts hg fs _ n cs ho hn (fun f hf => hlt f (by simp [hf])) (fun f hf => h f (by simp [hf]))
      obtain ⟨qs, h3, h4⟩ := hg _ _ (hlt f (by simp)) (h f (by simp))
      rw [hof] at h3
      refine ⟨qs ++ ps, ?_, .cons h4 h2⟩
      have := h3.append h1
      rwa [show cs.drop (o + P.cellsOf f.type) = (cs.drop o).drop (P.cellsOf f.type) by rw [List.drop_drop], List.take_append_drop] at this
    · cases ho

theorem array_pts {g : TypeId → List Value → Prop} (hg : ∀ t cs, t < P.types.size → g t cs → ∃ ps, RepC S cs ps ∧ PT P t ps) {e : TypeId} (he : e < P.types.size) : ∀ (n k : Nat) (cs : List Value), cs.length = (k + n) * P.cellsOf e →
    (∀ i, i < k + n → g e ((cs.drop (i * P.cellsOf e)).take (P.cellsOf e))) → ∃ ps, RepC S (cs.drop (k * P.cellsOf e)) ps ∧ PTs P (List.replicate n e) ps
  | 0, k, cs, hn, _ => by
    rw [List.drop_eq_nil_of_le (by rw [hn, Nat.add_zero]; exact Nat.le_refl _)]
    exact ⟨[], .nil, .nil⟩
  | n + 1, k, cs, hn, h => by
    obtain ⟨ps, h1, h2⟩ := array_pts hg he n (k + 1) cs (by rw [hn]; congr 1; omega) (fun i hi => h i (by omega))
    obtain ⟨qs, h3, h4⟩ := hg _ _ he (h k (by omega))
    refine ⟨qs ++ ps, ?_, .cons h4 h2⟩
    have := h3.append h1
    rwa [show cs.drop ((k + 1) * P.cellsOf e) = (cs.drop (k * P.cellsOf e)).drop (P.cellsOf e) by rw [List.drop_drop, Nat.succ_mul], List.take_append_drop] at this

theorem PT.noAgg {t : TypeId} {ps : List PV} (h : PT P t ps) (ha : tagg P t = false) (h1 : ps.length = 1) : (ps.getD 0 .any).cells = ps := by
  cases h with
  | str' h => unfold tagg at ha; rw [h] at ha; cases ha
  | arr h => unfold tagg at ha; rw [h] at ha; cases ha
  | _ => rfl

theorem asPV_cells {t : TypeId} {ps : List PV} (h : PT P t ps) (h1 : tagg P t = true ∨ ps.length = 1) : (asPV (tagg P t) ps).cells = ps := by
  unfold asPV
  cases ha : tagg P t with
  | true => rfl
  | false => exact h.noAgg ha (by simpa [ha] using h1)

theorem spot_none {w : World} {a : Addr} {v : Value} (h : w.cell? a = some v) : a = ⟨a.block, a.off, none⟩ := by
  obtain ⟨b, o, s⟩ := a
  unfold World.cell? at h
  split at h
  · split at h
    · cases h
    · cases s <;> simp_all
  · cases h

theorem add_zero (a : Addr) : a.add 0 = a := by unfold Addr.add; simp
theorem trod_pt {H : Type} {enc : TypeId × Value → H} {w : World} {base : Nat} {spare : Nat → Bool} {held : Bool} (hl : layAll P = true) :
    ∀ (fuel : Nat) (t : TypeId) (cs : List Value) (x : DataW H × List MemPlace), t < P.types.size → DataW.trod enc P w base spare held fuel t cs = some x → ∃ ps, RepC (cellsOf w) cs ps ∧ PT P t ps := by
  intro fuel
  induction fuel with
  | zero => intro t cs x _ h; cases h
  | succ fuel ih =>
    intro t cs x ht h
    have lay := lay_of hl ht
    have any : ∀ {v : Value}, (∀ d, P.underlying t = some d → (match d with | .interface _ | .map _ _ | .func .. | .chan .. | .unsafePointer => True | _ => False)) → ∃ ps, RepC (cellsOf w) [v] ps ∧ PT P t ps := fun h => ⟨_, .one (.any _), .any h⟩
    have anyd : ∀ {v : Value} {d : TypeDesc}, P.underlying t = some d → (match d with | .interface _ | .map _ _ | .func .. | .chan .. | .unsafePointer => True | _ => False) → ∃ ps, RepC (cellsOf w) [v] ps ∧ PT P t ps := fun h1 h2 => any fun d hd => by rw [h1] at hd; cases hd; exact h2
    unfold DataW.trod at h
    split at h
    · rename_i hu; exact ⟨_, .one (.bool _), .bool hu _⟩
    · rename_i hu
      split at h
      · rename_i hk
        obtain ⟨rfl, hw⟩ := hk
        simp only [Lit.wf, Bool.and_eq_true, decide_eq_true_eq] at hw
        exact ⟨_, .one (.int _ _), .int hu _ hw.1 hw.2⟩
      · cases h
    · rename_i hu
      split at h
      · rename_i hk
        obtain ⟨rfl, hw⟩ := hk
        exact ⟨_, .one (.flt _ _), .flt hu _ hw⟩
      · cases h
    · rename_i s hu
      split at h
      · rename_i hk
        obtain ⟨⟨l⟩⟩ := s
        exact ⟨_, .one (.str l), .str hu l hk⟩
      · cases h
    · rename_i hu; exact ⟨_, .one .nilp, .nilp hu⟩
    · rename_i e a hu
      by_cases hod : oddB P t = true
      · exact ⟨_, .one (.any _), .odd hod⟩
      have lay0 : decide (0 < P.cellsOf e) = true := by
        have : oddB P t = false := by simpa using hod
        unfold oddB at this
        rw [hu] at this
        exact nb_true this
      simp only [layB, hu, decide_eq_true_eq] at lay lay0
      obtain ⟨x', hx, _⟩ := Option.map_eq_some_iff.1 h
      obtain ⟨ds, hc, hx⟩ := Option.bind_eq_some_iff.1 hx
      obtain ⟨ps, h1, h2⟩ := ih _ _ _ lay hx
      obtain ⟨h3, h4⟩ := cells_some hc
      have ha : a = ⟨a.block, a.off, none⟩ := spot_none (add_zero a ▸ h4 0 lay0)
      refine ⟨[.rptr ps], .one ?_, .ptr hu ps h2⟩
      rw [ha]
      refine .rptr _ _ ps (fun j => ds.getD j undef) (fun j hj => ?_) (fun j hj => h1.2 j hj)
      have := h4 j (by rw [← h3, h1.1]; exact hj)
      rw [ha, add_none] at this
      exact this
    · rename_i hu; exact ⟨_, .one (.sl0 none 0), .sl hu 0 (Nat.zero_le _) (fun _ => []) (fun i hi => by omega)⟩
    · rename_i e a len cap hu
      by_cases hod : oddB P t = true
      · exact ⟨_, .one (.any _), .odd hod⟩
      have lay0 : (decide (0 < P.cellsOf e) && (tagg P e || P.cellsOf e == 1)) = true := by
        have : oddB P t = false := by simpa using hod
        unfold oddB at this
        rw [hu] at this
        exact nb_true this
      simp only [layB, hu, decide_eq_true_eq] at lay
      simp only [Bool.and_eq_true, decide_eq_true_eq, Bool.or_eq_true, beq_iff_eq] at lay0
      obtain ⟨l1, l2⟩ := lay0
      have l3 := lay
      simp only at h
      split at h
      · rename_i hb
        obtain ⟨elems, he, h⟩ := Option.bind_eq_some_iff.1 h
        have el : ∀ i, i < len → ∃ ds ps, w.cells? base (a.add (i * P.cellsOf e)) (P.cellsOf e) = some ds ∧ RepC (cellsOf w) ds ps ∧ PT P e ps := fun i hi => by
          obtain ⟨y, hy⟩ := mapM_some he i (List.mem_range.2 hi)
          obtain ⟨ds, hc, hx⟩ := Option.bind_eq_some_iff.1 hy
          obtain ⟨ps, h1, h2⟩ := ih _ _ _ l3 hx
          exact ⟨ds, ps, hc, h1, h2⟩
        obtain ⟨F, hF⟩ : ∃ F : Nat → List Value × List PV, ∀ i, i < len → w.cells? base (a.add (i * P.cellsOf e)) (P.cellsOf e) = some (F i).1 ∧ RepC (cellsOf w) (F i).1 (F i).2 ∧ PT P e (F i).2 := by
          classical
          refine ⟨fun i => if h : i < len then ((el i h).choose, (el i h).choose_spec.choose) else ([], []), fun i hi => ?_⟩
          simp only [hi, dif_pos]
          exact (el i hi).choose_spec.choose_spec
        refine ⟨_, .one ?_, .sl hu len (by omega) (fun i => (F i).2) fun i hi => (hF i hi).2.2⟩
        have hes : ∀ i, i < len → ((List.range len).map fun i => asPV (tagg P e) (F i).2).getD i .any = asPV (tagg P e) (F i).2 := fun i hi => by simp [List.getD_eq_getElem?_getD, hi]
        have hcl : ∀ i, i < len → (asPV (tagg P e) (F i).2).cells = (F i).2 := fun i hi => by
          obtain ⟨h1, h2, h3⟩ := hF i hi
          refine asPV_cells h3 (l2.imp id fun h => ?_)
          rw [← h2.1, (cells_some h1).1, h]
        by_cases h0 : len = 0
        · subst h0; exact .sl0 _ _
        · have hp0 : 0 < len := by omega
          have ha : a = ⟨a.block, a.off, none⟩ := by
            have := (cells_some (hF 0 hp0).1).2 0 l1
            rw [Nat.zero_mul, add_zero, add_zero] at this
            exact spot_none this
          have key := Rep.sl (S := cellsOf w) a.block a.off cap (P.cellsOf e) ((List.range len).map fun i => asPV (tagg P e) (F i).2) (fun i j => (F i).1.getD j undef)
            (fun i hi => by
              have hi : i < len := by simpa using hi
              rw [hes i hi, hcl i hi, ← (hF i hi).2.1.1, (cells_some (hF i hi).1).1])
            (by simp; exact hb.2.1)
            (fun i j hi hj => by
              have hi : i < len := by simpa using hi
              have := (cells_some (hF i hi).1).2 j hj
              rw [ha, add_none, add_none] at this
              exact this)
            (fun i j hi hj => by
              have hi : i < len := by simpa using hi
              rw [hes i hi, hcl i hi]
              exact (hF i hi).2.1.2 j (by rw [← (hF i hi).2.1.1, (cells_some (hF i hi).1).1]; exact hj))
          rw [List.length_map, List.length_range, ← ha] at key
          exact key
      · cases h
    · rename_i fs hu
      simp only [layB, hu, Bool.and_eq_true, beq_iff_eq, List.all_eq_true, decide_eq_true_eq] at lay
      split at h
      · rename_i hn
        obtain ⟨xs, hx, _⟩ := Option.map_eq_some_iff.1 h
        obtain ⟨ps, h1, h2⟩ := struct_pts (S := cellsOf w) (g := fun t cs => ∃ x, DataW.trod enc P w base spare held fuel t cs = some x) (fun t cs ht ⟨x, hx⟩ => ih t cs x ht hx) fs.toList 0 _ _ lay.1 hn lay.2 (fun f hf => mapM_some hx f hf)
        exact ⟨ps, by simpa using h1, .str' hu ps h2⟩
      · cases h
    · rename_i n e hu
      simp only [layB, hu, Bool.and_eq_true, beq_iff_eq, decide_eq_true_eq] at lay
      split at h
      · rename_i hn
        obtain ⟨xs, hx, _⟩ := Option.map_eq_some_iff.1 h
        obtain ⟨ps, h1, h2⟩ := array_pts (S := cellsOf w) (g := fun t cs => ∃ x, DataW.trod enc P w base spare held fuel t cs = some x) (fun t cs ht ⟨x, hx⟩ => ih t cs x ht hx) lay.2 n 0 _ (by rw [hn, lay.1]; simp) (fun i hi => mapM_some hx i (by simpa using hi))
        exact ⟨ps, by simpa using h1, .arr hu ps h2⟩
      · cases h
    all_goals first | (cases h; done) | (rename_i hu; exact anyd hu trivial) | (rename_i hu _; exact anyd hu trivial) | skip
end
end Go.PL

namespace Go.PL
open Go.ChangeShapes Go.WideShapes Go.ChangeAt Go.RowKit
set_option linter.unusedVariables false

/-- an argument of a type, told of values -/
def PA (P : Program) (t : TypeId) (p : PV) : Prop := ∃ cs, PT P t cs ∧ p = asPV (tagg P t) cs
inductive PAs (P : Program) : List TypeId → List PV → Prop
  | nil : PAs P [] []
  | cons {t : TypeId} {ts : List TypeId} {p : PV} {ps : List PV} (h : PA P t p) (hs : PAs P ts ps) : PAs P (t :: ts) (p :: ps)

section
variable {P : Program} {H : Type} {enc : TypeId × Value → H}

theorem noAgg_of_ok {W : World} {base : Nat} {t : TypeId} {v : Value} (ha : tagg P t = false) (hd : ∃ d, P.underlying t = some d) (h : Value.okWide P W .any base t v) : v.cells.toList = [v] := by
  obtain ⟨d, hd⟩ := hd
  cases v with
  | agg cs =>
    exfalso
    unfold Value.okWide at h
    unfold tagg at ha
    rw [hd] at ha h
    cases d <;> simp [Cell.okWide, Cell.ok, hd] at h ha
  | _ => rfl

theorem read_arg {W : World} {base : Nat} {t : TypeId} {v : Value} {d : DataW H} {ps : List MemPlace} (hl : layAll P = true) (ht : t < P.types.size) (hok : Value.okWide P W .any base t v)
    (h : DataW.Trod enc P W 0 (fun _ => true) true t v d ps) : ∃ p, Rep (cellsOf W) v p ∧ PA P t p := by
  obtain ⟨n, hn⟩ := h
  obtain ⟨cs, h1, h2⟩ := trod_pt hl n t _ _ ht hn
  have hd : ∃ d, P.underlying t = some d := by
    cases n with
    | zero => cases hn
    | succ n =>
      cases hu : P.underlying t with
      | none => unfold DataW.trod at hn; rw [hu] at hn; simp at hn
      | some d => exact ⟨d, rfl⟩
  refine ⟨_, ?_, cs, h2, rfl⟩
  unfold asPV
  cases ha : tagg P t with
  | true =>
    obtain ⟨d, hd⟩ := hd
    have : ∃ c, v = .agg c := by
      unfold tagg at ha
      unfold Value.okWide at hok
      rw [hd] at ha hok
      cases d <;> simp at ha
      · obtain ⟨c, hc, _⟩ := hok; exact ⟨c, hc⟩
      · obtain ⟨c, hc, _⟩ := hok; exact ⟨c, hc⟩
    obtain ⟨⟨c⟩, rfl⟩ := this
    exact .agg c cs h1.1 h1.2
  | false =>
    rw [noAgg_of_ok ha hd hok] at h1
    have := h1.2 0 (by rw [← h1.1]; simp)
    simpa using this

theorem read_args {W : World} {base : Nat} (hl : layAll P = true) : ∀ (ts : List TypeId) (vs : List Value) (ds : List (DataW H)) (ps : List MemPlace), (∀ t ∈ ts, t < P.types.size) →
    (∀ (j : Nat) t v, ts[j]? = some t → vs[j]? = some v → Value.okWide P W .any base t v) → DataW.TrodAll enc P W 0 (fun _ => true) true ts vs ds ps →
    ∃ qs, RepC (cellsOf W) vs qs ∧ PAs P ts qs ∧ ds.length = ts.length
  | [], [], [], ps, _, _, h => ⟨[], .nil, .nil, rfl⟩
  | t :: ts, v :: vs, d :: ds, ps, hlt, hok, h => by
    obtain ⟨p, q, h1, h2, rfl⟩ := h
    obtain ⟨x, hx, hp⟩ := read_arg hl (hlt t (by simp)) (hok 0 t v rfl rfl) h1
    obtain ⟨qs, h3, h4, h5⟩ := read_args hl ts vs ds q (fun t ht => hlt t (by simp [ht])) (fun j t v h1 h2 => hok (j + 1) t v (by simpa using h1) (by simpa using h2)) h2
    exact ⟨x :: qs, (RepC.one hx).append h3, .cons hp h4, by simp [h5]⟩
  | [], _ :: _, _, _, _, _, h => by simp [DataW.TrodAll] at h
  | [], [], _ :: _, _, _, _, h => by simp [DataW.TrodAll] at h
  | _ :: _, [], _, _, _, _, h => by simp [DataW.TrodAll] at h
  | _ :: _, _ :: _, [], _, _, _, h => by simp [DataW.TrodAll] at h

theorem stays_args {W W' : World} {sp : Nat → Bool} (hl : laidOutB P = true) (hb : Below W.heap.size W W') : ∀ (ts : List TypeId) (vs : List Value) (ds : List (DataW H)) (ps : List MemPlace), (∀ t ∈ ts, t < P.types.size ∧ P.readableRec t = true) →
    (∀ x ∈ ps, x.block < W.heap.size) → (∀ x ∈ ps, sp x.block = true) → DataW.TrodAll enc P W 0 (fun _ => true) true ts vs ds ps → DataW.TrodAll enc P W' 0 sp true ts vs ds ps
  | [], [], [], ps, _, _, _, h => h
  | t :: ts, v :: vs, d :: ds, ps, ht, hlt, hsp, h => by
    obtain ⟨p, q, h1, h2, rfl⟩ := h
    exact ⟨p, q, WideElems.Trod_stays hl (ht t (by simp)).2 (ht t (by simp)).1 h1 (fun x hx => hb.same (hlt x (by simp [hx]))) (fun x hx => hsp x (by simp [hx])),
      stays_args hl hb ts vs ds q (fun t h => ht t (by simp [h])) (fun x hx => hlt x (by simp [hx])) (fun x hx => hsp x (by simp [hx])) h2, rfl⟩
  | [], _ :: _, _, _, _, _, _, h => by simp [DataW.TrodAll] at h
  | [], [], _ :: _, _, _, _, _, h => by simp [DataW.TrodAll] at h
  | _ :: _, [], _, _, _, _, _, h => by simp [DataW.TrodAll] at h
  | _ :: _, _ :: _, [], _, _, _, _, h => by simp [DataW.TrodAll] at h

/-- A LAW WITHOUT EFFECT, for the rows' template 'true; the input reads as it did' -/
theorem contract_of_pure {f : FuncId} {fn : Func} {s : ChangeSpec} {tb : TypeId} {fresh handsOn again : Bool} (hl : layAll P = true) (hlaid : laidOutB P = true) (hvars : s.vars = [])
    (ht : ∀ t ∈ fn.params.toList, t < P.types.size ∧ P.readableRec t = true) (hres : fn.resultTypes = #[tb]) (hb : P.underlying tb = some .bool)
    (hfn : ∀ ds : List (DataW H), ds.length = fn.params.toList.length → s.fn H ds = { results := [.lit (.bool true)], args := ds })
    (hp : ∀ ps, PAs P fn.params.toList ps → PL.Pure P f ps (.bool true))
    (W : World) (base : Nat) (args : Array Value) (ds gs : List (DataW H)) (before : List MemPlace)
    (hval : ∀ (j : Nat) t v, fn.params[j]? = some t → args[j]? = some v → Value.okWide P W .any base t v)
    (hW : DataW.Whole enc P fn.params.toList s.vars false W args.toList ds gs before) :
    Calls P f args W fun e W' => ∃ v, e = .returned v ∧ s.post enc P fn false fresh handsOn again W args v W' := by
  have hW0 := hW
  obtain ⟨p, q, hA, hV, hpq, hfz, hnd⟩ := hW
  rw [hvars] at hV
  obtain ⟨rfl, rfl⟩ := trodVars_none hV
  obtain ⟨qs, h1, h2, h3⟩ := read_args hl _ _ _ _ (fun t h => (ht t h).1) (fun j t v a b => hval j t v (by simpa using a) (by simpa using b)) hA
  obtain ⟨_, _, hcalls⟩ := hp qs h2
  have := hcalls W (cellsOf W) args.toList ⟨fun b o v h => h, fun b es h => by cases h⟩ h1.1 h1.2
  have ea : (⟨args.toList⟩ : Array Value) = args := rfl
  rw [ea] at this
  refine this.mono fun e W' ⟨v, S', he, hr, _, _, _, hB⟩ => ?_
  subst he
  have hv : v = .bool true := by cases hr; rfl
  subst hv
  have hlt := hW0.lt
  have hps : before = p ++ [] := hpq
  rw [List.append_nil] at hps
  subst hps
  have hf := hfn ds h3
  have hone : (Value.bool true).resultList 1 = [.bool true] := rfl
  have hT : ∀ (sp : Nat → Bool), (∀ x ∈ before, sp x.block = true) → DataW.TrodAll enc P W' 0 sp true fn.params.toList args.toList ds before := fun sp hsp => stays_args hlaid hB _ _ _ _ ht hlt hsp hA
  have hR : ∀ (b : Nat) (sp : Nat → Bool) (hd : Bool), DataW.TrodAll enc P W' b sp hd fn.resultTypes.toList ((Value.bool true).resultList fn.resultTypes.size) [.lit (.bool true)] [] := fun b sp hd => by
    rw [hres]
    exact trodAll_cons_mk (shut_bool hb true) trodAll_mk0
  have hVs : ∀ sp : Nat → Bool, DataW.TrodVars enc P W' sp s.vars ([] : List (DataW H)) [] := fun sp => by rw [hvars]; exact rfl
  refine ⟨_, rfl, ds, [], before, [], before, [], hW0, ?_, ?_, ?_, World.keptBut_mono (fun p hp => ⟨hp, .inr (.inl hp)⟩) (hB.frame _), fun _ => ⟨ok_one hres hone (okWide_bool_mk hb true), ?_⟩⟩
  · rw [List.append_nil, hf]; exact hR _ _ _
  · rw [List.append_nil, hf]; exact hT _ (fun x hx => by simpa using hlt x hx)
  · rw [List.append_nil, hf]; exact hVs _
  · refine ⟨_, _, ([] ++ before) ++ [], ⟨[] ++ before, [], trodAll_append (hT _ fun _ _ => rfl) (hR _ _ _), hVs _, rfl, ?_, fun h => by cases h⟩, ?_⟩
    · intro b off hp
      have hp : MemPlace.cell b off ∈ before := by simpa using hp
      rw [hB.frozen (hlt _ hp)]
      exact hfz b off (by simpa using hp)
    · intro x hx _
      simpa using hx
end
end Go.PL

namespace Go.PL
set_option linter.unusedVariables false
section
variable {P : Program}
theorem PT.arr_inv {t e : TypeId} {n : Nat} {cs : List PV} (hu : P.underlying t = some (.array n e)) (h : PT P t cs) : PTs P (List.replicate n e) cs := by
  cases h with
  | arr h' _ hp => rw [hu] at h'; cases h'; exact hp
  | any h' => exact (h' _ hu).elim
  | odd h' => simp [oddB, hu] at h'
  | bool h' _ => rw [hu] at h'; cases h'
  | int h' => rw [hu] at h'; cases h'
  | flt h' _ => rw [hu] at h'; cases h'
  | str h' _ => rw [hu] at h'; cases h'
  | nilp h' => rw [hu] at h'; cases h'
  | ptr h' _ => rw [hu] at h'; cases h'
  | sl h' _ => rw [hu] at h'; cases h'
  | str' h' _ => rw [hu] at h'; cases h'
theorem PT.struct_inv {t : TypeId} {fs : Array Field} {cs : List PV} (hu : P.underlying t = some (.struct fs)) (h : PT P t cs) : PTs P (fs.toList.map (·.type)) cs := by
  cases h with
  | str' h' _ hp => rw [hu] at h'; cases h'; exact hp
  | any h' => exact (h' _ hu).elim
  | odd h' => simp [oddB, hu] at h'
  | bool h' _ => rw [hu] at h'; cases h'
  | int h' => rw [hu] at h'; cases h'
  | flt h' _ => rw [hu] at h'; cases h'
  | str h' _ => rw [hu] at h'; cases h'
  | nilp h' => rw [hu] at h'; cases h'
  | ptr h' _ => rw [hu] at h'; cases h'
  | sl h' _ => rw [hu] at h'; cases h'
  | arr h' _ => rw [hu] at h'; cases h'
theorem PT.int_inv {t : TypeId} {k : IntKind} {cs : List PV} (hu : P.underlying t = some (.int k)) (h : PT P t cs) : ∃ n, cs = [.int k n] ∧ k.min ≤ n ∧ n ≤ k.max := by
  cases h with
  | int h' n h1 h2 => rw [hu] at h'; cases h'; exact ⟨n, rfl, h1, h2⟩
  | any h' => exact (h' _ hu).elim
  | odd h' => simp [oddB, hu] at h'
  | bool h' _ => rw [hu] at h'; cases h'
  | flt h' _ => rw [hu] at h'; cases h'
  | str h' _ => rw [hu] at h'; cases h'
  | nilp h' => rw [hu] at h'; cases h'
  | ptr h' _ => rw [hu] at h'; cases h'
  | sl h' _ => rw [hu] at h'; cases h'
  | str' h' _ => rw [hu] at h'; cases h'
  | arr h' _ => rw [hu] at h'; cases h'
theorem PT.bool_inv {t : TypeId} {cs : List PV} (hu : P.underlying t = some .bool) (h : PT P t cs) : ∃ b, cs = [.bool b] := by
  cases h with
  | bool h' b => exact ⟨b, rfl⟩
  | any h' => exact (h' _ hu).elim
  | odd h' => simp [oddB, hu] at h'
  | int h' => rw [hu] at h'; cases h'
  | flt h' _ => rw [hu] at h'; cases h'
  | str h' _ => rw [hu] at h'; cases h'
  | nilp h' => rw [hu] at h'; cases h'
  | ptr h' _ => rw [hu] at h'; cases h'
  | sl h' _ => rw [hu] at h'; cases h'
  | str' h' _ => rw [hu] at h'; cases h'
  | arr h' _ => rw [hu] at h'; cases h'
theorem PT.string_inv {t : TypeId} {cs : List PV} (hu : P.underlying t = some .string) (h : PT P t cs) : ∃ l, cs = [.str l] ∧ l.length ≤ maxLen := by
  cases h with
  | str h' l hl => exact ⟨l, rfl, hl⟩
  | any h' => exact (h' _ hu).elim
  | odd h' => simp [oddB, hu] at h'
  | bool h' _ => rw [hu] at h'; cases h'
  | int h' => rw [hu] at h'; cases h'
  | flt h' _ => rw [hu] at h'; cases h'
  | nilp h' => rw [hu] at h'; cases h'
  | ptr h' _ => rw [hu] at h'; cases h'
  | sl h' _ => rw [hu] at h'; cases h'
  | str' h' _ => rw [hu] at h'; cases h'
  | arr h' _ => rw [hu] at h'; cases h'
theorem PT.slice_inv {t e : TypeId} {cs : List PV} (ho : oddB P t = false) (hu : P.underlying t = some (.slice e)) (h : PT P t cs) : ∃ l, cs = [.sl .no l] ∧ l.length ≤ maxLen ∧ ∀ p ∈ l, PA P e p := by
  cases h with
  | sl h' n hn f hp =>
    rw [hu] at h'; cases h'
    refine ⟨_, rfl, by simpa using hn, fun p hp' => ?_⟩
    obtain ⟨i, hi, rfl⟩ := List.mem_map.1 hp'
    exact ⟨f i, hp i (by simpa using hi), rfl⟩
  | any h' => exact (h' _ hu).elim
  | odd h' => rw [ho] at h'; cases h'
  | bool h' _ => rw [hu] at h'; cases h'
  | int h' => rw [hu] at h'; cases h'
  | flt h' _ => rw [hu] at h'; cases h'
  | str h' _ => rw [hu] at h'; cases h'
  | nilp h' => rw [hu] at h'; cases h'
  | ptr h' _ => rw [hu] at h'; cases h'
  | str' h' _ => rw [hu] at h'; cases h'
  | arr h' _ => rw [hu] at h'; cases h'
theorem PTs.cons_inv {t : TypeId} {ts : List TypeId} {cs : List PV} (h : PTs P (t :: ts) cs) : ∃ a b, cs = a ++ b ∧ PT P t a ∧ PTs P ts b := by
  cases h with
  | cons h hs => exact ⟨_, _, rfl, h, hs⟩
theorem PTs.nil_inv {cs : List PV} (h : PTs P [] cs) : cs = [] := by cases h; rfl
theorem PAs.cons_inv {t : TypeId} {ts : List TypeId} {cs : List PV} (h : PAs P (t :: ts) cs) : ∃ a b, cs = a :: b ∧ PA P t a ∧ PAs P ts b := by
  cases h with
  | cons h hs => exact ⟨_, _, rfl, h, hs⟩
theorem PAs.nil_inv {cs : List PV} (h : PAs P [] cs) : cs = [] := by cases h; rfl
/-- a value of an aggregate type, by its cells -/
theorem PA.agg {t : TypeId} {p : PV} (ha : tagg P t = true) (h : PA P t p) : ∃ cs, p = .agg cs ∧ PT P t cs := by
  obtain ⟨cs, h1, h2⟩ := h
  rw [ha] at h2
  exact ⟨cs, h2, h1⟩
theorem PA.one {t : TypeId} {p : PV} (ha : tagg P t = false) (h : PA P t p) : ∃ cs, p = cs.getD 0 .any ∧ PT P t cs := by
  obtain ⟨cs, h1, h2⟩ := h
  rw [ha] at h2
  exact ⟨cs, h2, h1⟩
theorem PA.int {t : TypeId} {k : IntKind} {p : PV} (hu : P.underlying t = some (.int k)) (h : PA P t p) : ∃ n, p = .int k n ∧ k.min ≤ n ∧ n ≤ k.max := by
  obtain ⟨cs, h1, h2⟩ := PA.one (by simp [tagg, hu]) h
  obtain ⟨n, rfl, h3⟩ := PT.int_inv hu h2
  exact ⟨n, h1, h3⟩
theorem PA.string {t : TypeId} {p : PV} (hu : P.underlying t = some .string) (h : PA P t p) : ∃ l, p = .str l ∧ l.length ≤ maxLen := by
  obtain ⟨cs, h1, h2⟩ := PA.one (by simp [tagg, hu]) h
  obtain ⟨n, rfl, h3⟩ := PT.string_inv hu h2
  exact ⟨n, h1, h3⟩
theorem PA.bool {t : TypeId} {p : PV} (hu : P.underlying t = some .bool) (h : PA P t p) : ∃ b, p = .bool b := by
  obtain ⟨cs, h1, h2⟩ := PA.one (by simp [tagg, hu]) h
  obtain ⟨n, rfl⟩ := PT.bool_inv hu h2
  exact ⟨n, h1⟩
theorem PA.slice {t e : TypeId} {p : PV} (ho : oddB P t = false) (hu : P.underlying t = some (.slice e)) (h : PA P t p) : ∃ l, p = .sl .no l ∧ l.length ≤ maxLen ∧ ∀ p ∈ l, PA P e p := by
  obtain ⟨cs, h1, h2⟩ := PA.one (by simp [tagg, hu]) h
  obtain ⟨n, rfl, h3⟩ := PT.slice_inv ho hu h2
  exact ⟨n, h1, h3⟩
/-- a list of which each element is told by something, told by a list of these -/
theorem all_told {α : Type} {enc : α → PV} {Q : α → Prop} : ∀ {l : List PV}, (∀ p ∈ l, ∃ x, p = enc x ∧ Q x) → ∃ xs : List α, l = xs.map enc ∧ ∀ x ∈ xs, Q x
  | [], _ => ⟨[], rfl, fun x hx => by cases hx⟩
  | p :: l, h => by
    obtain ⟨x, rfl, hq⟩ := h p (by simp)
    obtain ⟨xs, rfl, hxs⟩ := all_told (l := l) (fun p hp => h p (by simp [hp]))
    exact ⟨x :: xs, rfl, fun y hy => by
      rcases List.mem_cons.1 hy with e | e
      · rw [e]; exact hq
      · exact hxs y e⟩
/-- an array of integers -/
theorem PTs.ints {e : TypeId} {k : IntKind} (hu : P.underlying e = some (.int k)) : ∀ {n : Nat} {cs : List PV}, PTs P (List.replicate n e) cs → ∃ l : List Int, cs = l.map (.int k) ∧ l.length = n ∧ ∀ x ∈ l, k.min ≤ x ∧ x ≤ k.max
  | 0, cs, h => ⟨[], h.nil_inv, rfl, fun x hx => by cases hx⟩
  | n + 1, cs, h => by
    obtain ⟨a, b, rfl, h1, h2⟩ := h.cons_inv
    obtain ⟨x, rfl, hx⟩ := h1.int_inv hu
    obtain ⟨l, rfl, hl, hr⟩ := PTs.ints hu h2
    exact ⟨x :: l, rfl, by simp [hl], fun y hy => by
      rcases List.mem_cons.1 hy with e | e
      · rw [e]; exact hx
      · exact hr y e⟩
end
end Go.PL
