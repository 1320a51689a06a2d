/- Contracts of functions and laws of this seat, each for every input that it names: lemmas of the proof. -/
import Derived.Test.YtnadlkjmdimjkaaGreatXBp
set_option linter.unusedSimpArgs false
set_option linter.unusedVariables false
set_option linter.unusedSimpArgs false
set_option linter.unusedVariables false
namespace Go.Proofs.YtnadlkjmdimjkaaGreat
open Go.PL
def keptL : List Ln → Rf → Bool
  | [], r => true
  | x :: xs, r => if keptM x r = false then false else if (traceM x r).2 = false then false else keptL xs (traceM x r).1
theorem keptL_cons (x : Ln) (xs : List Ln) (r : Rf) : keptL (x :: xs) r = if keptM x r = false then false else if (traceM x r).2 = false then false else keptL xs (traceM x r).1 := rfl
def keptT (m : List Eg) (a b : Tg) (r : Rf) : Bool := if pathC m a b ≠ 0 then false else keptL (rowM m a b).1 r
structure TrS (row : List Ln) (f : List Ln → Rf → Rf × Bool) (r0 : Rf) where
  k : Nat
  r : Rf
  hk : k ≤ row.length
  h : f (row.drop k) r = f row r0
structure KpS (row : List Ln) (r0 : Rf) where
  k : Nat
  r : Rf
  hk : k ≤ row.length
  h : keptL (row.drop k) r = keptL row r0
theorem row_ok {m : List Eg} {a b : Tg} (hm : OkM m) : (rowM m a b).1.length ≤ 1000 ∧ ∀ x ∈ (rowM m a b).1, OkLn x := by
  unfold rowM
  split
  · simp
  · rename_i h
    have hl := legs_len m a b hm
    unfold pathM at hl
    rw [if_neg h] at hl
    refine ⟨by simp only at hl; simp [lenses]; omega, fun x hx => ?_⟩
    obtain ⟨y, _, rfl⟩ := List.mem_map.1 hx
    exact okLens hm y
def kpc (x : Bool) (c : Int) : PV := .tup [.bool x, .int .i64 c]
theorem kpc_dids (x : Bool) (c : Int) : (kpc x c).dids = [] := rfl
set_option maxRecDepth 20000 in
set_option maxHeartbeats 16000000 in
theorem KeptTo_pure (m : List Eg) (a b : Tg) (r : Rf) (hm : OkM m) (hr : RightM m) : PL.Pure Tryz.prog 43 [tr (treeOf m), tg a, tg b, ref r] (kpc (keptT m a b r) (pathC m a b)) := by
  have hR := Row_pure m a b hm hr
  obtain ⟨hrl, hro⟩ := row_ok (a := a) (b := b) hm
  have hc2 : (rowM m a b).2 = pathC m a b := by unfold rowM; split <;> simp_all
  unfold keptT
  by_cases hc : pathC m a b = 0
  · rw [if_neg (fun h => h hc)]
    rw [hc] at hc2
    generalize hrow : rowM m a b = rw0 at *
    obtain ⟨row, c0⟩ := rw0
    simp only at hc2 hrl hro ⊢
    subst hc2
    rw [hc]
    refine PL.Pure.of_v Tryz.func43 (by decide) rfl Tryz.ntmps43 Tryz.results43 (by simp) (kpc_dids _ _) ?_
    simp only [go_sem, tr, tg, ref]
    refine vScopeM (ι := KpS row r) 50 (fun x => [(7, .ptr 7 0), (10, lnss row), (12, .int .i64 (x.k : Int))]) (fun x => [(7, [.int .i64 x.r.sc, .str x.r.gr, .str x.r.nm], false)]) (fun x => []) (fun x => row.length - x.k) 0 _ (by exact rfl) (fun x => ⟨(forall_cons rfl (forall_cons rfl (forall_cons rfl (forall_nil)))), forall_cons rfl forall_nil⟩) (fun x => ?_) (fun cut => ?_)
    · obtain ⟨k, r1, hk, h⟩ := x
      simp only
      by_cases he : k = row.length
      · have hb : ((k : Int) == (row.length : Int)) = true := by simp [he]
        have hd : keptL row r = true := by rw [← h, he, List.drop_length]; rfl
        simp only [go_sem, lnss, List.length_map, hb, hd, kpc]
      · have hb : ((k : Int) == (row.length : Int)) = false := by simp; omega
        have hka : k < row.length := by omega
        have i0 : (0 : Int) ≤ (k : Int) := by omega
        have i1 : (k : Int) < (row.length : Int) := by omega
        have w1 : IntKind.i64.wrap ((k : Int) + 1) = ((k + 1 : Nat) : Int) := by rw [w64 (by omega)]; rfl
        have hT := Trace_pure (row.getD k default) r1 (hro _ (getD_mem (d := default) hka))
        have hK := Kept_pure (row.getD k default) r1 (hro _ (getD_mem (d := default) hka))
        rw [drop_ln hka, keptL_cons] at h
        cases hy : keptM (row.getD k default) r1
        · rw [if_pos hy] at h
          rw [hy] at hK
          simp only [go_sem, lnss, List.length_map, hb]
          refine vDrawQ (by kernel_rfl) (by kernel_rfl) ?_
          simp only [go_sem, getD_ln hka, lns, i0, i1]
          refine vCall_of (hK) ?_ ?_ ?_; (focus simp only [go_sem, lns, ref]); (focus simp only [go_sem, lns, ref])
          simp only [go_sem, ← h, kpc]
        rw [if_neg (by rw [hy]; simp)] at h
        rw [hy] at hK
        cases hz : (traceM (row.getD k default) r1).2
        · rw [if_pos hz] at h
          simp only [go_sem, lnss, List.length_map, hb]
          refine vDrawQ (by kernel_rfl) (by kernel_rfl) ?_
          simp only [go_sem, getD_ln hka, lns, i0, i1]
          refine vCall_of (hK) ?_ ?_ ?_; (focus simp only [go_sem, lns, ref]); (focus simp only [go_sem, lns, ref])
          simp only [go_sem]
          refine vDrawQ (by kernel_rfl) (by kernel_rfl) ?_
          simp only [go_sem, getD_ln hka, lns, i0, i1, List.length_map]
          refine vCall_of (hT) ?_ ?_ ?_; (focus simp only [go_sem, lns, ref]); (focus simp only [go_sem, lns, ref])
          simp only [go_sem, refb, ref, hz, ← h, kpc]
        · rw [if_neg (by rw [hz]; simp)] at h
          simp only [go_sem, lnss, List.length_map, hb]
          refine vDrawQ (by kernel_rfl) (by kernel_rfl) ?_
          simp only [go_sem, getD_ln hka, lns, i0, i1]
          refine vCall_of (hK) ?_ ?_ ?_; (focus simp only [go_sem, lns, ref]); (focus simp only [go_sem, lns, ref])
          simp only [go_sem]
          refine vDrawQ (by kernel_rfl) (by kernel_rfl) ?_
          simp only [go_sem, getD_ln hka, lns, i0, i1, List.length_map]
          refine vCall_of (hT) ?_ ?_ ?_; (focus simp only [go_sem, lns, ref]); (focus simp only [go_sem, lns, ref])
          simp only [go_sem, refb, ref, hz, w1]
          exact ⟨⟨k + 1, (traceM (row.getD k default) r1).1, by omega, h⟩, by show row.length - (k + 1) < row.length - k; omega, ⟨rfl, (forall_cons rfl (forall_cons rfl (forall_cons rfl (forall_nil)))), forall_cons ⟨rfl, rfl⟩ forall_nil, forall_nil⟩⟩
    · simp only [go_sem]
      refine vCall_of (hR) ?_ ?_ ?_; (focus simp only [go_sem, tr, tg]); (focus simp only [go_sem, tr, tg])
      simp only [go_sem, lnsc]
      exact awp_label_seq (cut ⟨0, r, Nat.zero_le _, rfl⟩ _ ⟨rfl, (forall_cons rfl (forall_cons rfl (forall_cons rfl (forall_nil)))), forall_cons ⟨rfl, rfl⟩ forall_nil, forall_nil⟩)
  · rw [if_pos hc]
    have hc' : (pathC m a b != 0) = true := by simpa using hc
    have hcr : rowM m a b = ([], pathC m a b) := by unfold rowM; rw [if_pos hc]
    rw [hcr] at hR
    refine PL.Pure.of_v Tryz.func43 (by decide) rfl Tryz.ntmps43 Tryz.results43 (by simp) (kpc_dids _ _) ?_
    simp only [go_sem, tr, tg, ref]
    refine vScope0 ?_
    simp only [go_sem]
    refine vCall_of (hR) ?_ ?_ ?_; (focus simp only [go_sem, tr, tg]); (focus simp only [go_sem, tr, tg])
    simp only [go_sem, lnsc, lnss, hc', kpc]
end Go.Proofs.YtnadlkjmdimjkaaGreat

set_option linter.unusedSimpArgs false
set_option linter.unusedVariables false
set_option linter.unusedSimpArgs false
set_option linter.unusedVariables false
namespace Go.Proofs.YtnadlkjmdimjkaaGreat
open Go.PL
theorem arr_places {l cs : List Fd} {x : Ln} (hk : x.kind = 1 ∨ x.kind = 2 ∨ x.kind = 3 ∨ x.kind = 4 ∨ x.kind = 5 ∨ x.kind = 6 ∨ x.kind = 7 ∨ x.kind = 8 ∨ x.kind = 9 ∨ x.kind = 10) (h : arrM l x = (cs, true)) : cs.map (·.at') = comesR x := by
  obtain ⟨kind, at0, nm, ot, fac, fd, fo, ba⟩ := x
  simp only at hk
  rcases hk with rfl | rfl | rfl | rfl | rfl | rfl | rfl | rfl | rfl | rfl
  all_goals
    simp only [arrM, mergedM, comesR, Int.reduceEq, if_false, if_true, List.getD_cons_zero] at h ⊢
    (repeat' split at h)
    all_goals
      simp only [Prod.mk.injEq, Bool.false_eq_true, and_false, reduceCtorEq] at h
      try (rw [← h.1]; rfl)
/-- two lenses that lead to and back between two schemas -/
structure Pair (l m : List Fd) (x y : Ln) : Prop where
  a : applyM l x = (m, 0)
  b : applyM m y = (l, 0)
  g : goesR y = comesR x
  c : comesR y = goesR x
theorem Pair.back {l m : List Fd} {x y : Ln} (h : Pair l m x y) : Pair m l y x := ⟨h.b, h.a, h.c.symm, h.g.symm⟩
def On (l : List Fd) (r : Rf) : Prop := ∃ f ∈ l, f.at' = r
theorem any_goes {l : List Rf} {r : Rf} : (l.any fun a => decide (r = a)) = true ↔ r ∈ l := by
  simp [List.any_eq_true]
theorem Pair.right {l m : List Fd} {x y : Ln} (h : Pair l m x y) : rightLn x = true := (apply_fwd h.a).2.1
/-- what comes is on the far side -/
theorem Pair.comes {l m : List Fd} {x y : Ln} (h : Pair l m x y) : ∀ r ∈ comesR x, On m r := by
  obtain ⟨hm, hy, cs, l1, h1, h2, h3⟩ := apply_fwd h.b
  obtain ⟨a1, a2, a3, a4, a5⟩ := go_fwd hm h2
  rw [← h.g]; exact a3
theorem trace_stay {x : Ln} {r : Rf} (hx : rightLn x = true) (h : r ∉ goesR x) : traceM x r = (r, true) := by
  have : ((goesR x).any fun a => decide (r = a)) = false := by
    rw [Bool.eq_false_iff]; exact fun e => h (any_goes.1 e)
  unfold traceM
  rw [hx, if_neg (by simp), if_pos this]
theorem trace_go {x : Ln} {r : Rf} (hx : rightLn x = true) (h : r ∈ goesR x) : traceM x r = if (comesR x).length = 0 then (default, false) else ((comesR x).getD 0 default, true) := by
  unfold traceM
  rw [hx, if_neg (by simp), if_neg (by rw [any_goes.2 h]; simp)]
/-- a row of lenses with those that lead back -/
inductive Pairs : List Fd → List Fd → List Ln → List Ln → Prop
  | nil (l : List Fd) : Pairs l l [] []
  | cons {l m n : List Fd} {x y : Ln} {xs ys : List Ln} (h : Pair l m x y) (hs : Pairs m n xs ys) : Pairs l n (x :: xs) (ys ++ [y])
theorem Pairs.append {l m n : List Fd} {xs ys us vs : List Ln} (h1 : Pairs l m xs ys) (h2 : Pairs m n us vs) : Pairs l n (xs ++ us) (vs ++ ys) := by
  induction h1 with
  | nil => simpa using h2
  | cons h hs ih => rw [← List.append_assoc]; exact .cons h (ih h2)
theorem Pairs.back {l m : List Fd} {xs ys : List Ln} (h : Pairs l m xs ys) : Pairs m l ys xs := by
  induction h with
  | nil => exact .nil _
  | cons h hs ih => exact ih.append (.cons h.back (.nil _))
end Go.Proofs.YtnadlkjmdimjkaaGreat

set_option linter.unusedSimpArgs false
set_option linter.unusedVariables false
set_option linter.unusedSimpArgs false
set_option linter.unusedVariables false
namespace Go.Proofs.YtnadlkjmdimjkaaGreat
open Go.PL
/-- the state of a tag, and its schema, by its way -/
def stateM (m : List Eg) (id : Tg) : Int × List Fd :=
  if id ≠ default ∧ findE m id = none then (0, []) else match wayM m id with
    | none => (1, [])
    | some w => match foldA w rootL with
      | none => (3, [])
      | some fs => (2, fs)
theorem sch_state (m : List Eg) (id : Tg) : schM (treeOf m) id = if (stateM m id).1 = 3 then ([], 16) else if (stateM m id).1 ≠ 2 then ([], 13) else ((stateM m id).2, 0) := by
  unfold stateM schM
  by_cases hd : id = default
  · subst hd
    have h1 : wayM m default = some [] := wayM_iff.2 .root
    simp [atN, rootN, h1, foldA]
  · rw [atN_tree m id hd]
    cases hf : findE m id with
    | none =>
      have hn : id ≠ default ∧ (none : Option Eg) = none := ⟨hd, rfl⟩
      rw [if_pos hn]
      rfl
    | some e =>
      obtain ⟨h1, h2⟩ := findE_id hf
      have hn : ¬ (id ≠ default ∧ (some e : Option Eg) = none) := fun h => by cases h.2
      rw [if_neg hn]
      simp only [Option.map_some, Option.getD_some, nodeOf, ← h1]
      have key : ∀ (w : Option (List Eg)), (if (nodeW e w).st = 2 then ((nodeW e w).sch, (0 : Int)) else if (nodeW e w).st = 3 then ([], 16) else ([], 13)) =
          (fun s : Int × List Fd => if s.1 = 3 then (([] : List Fd), (16 : Int)) else if s.1 ≠ 2 then ([], 13) else (s.2, 0)) (match w with | none => (1, []) | some w => match foldA w rootL with | none => (3, []) | some fs => (2, fs)) := by
        intro w
        cases w with
        | none => rfl
        | some w =>
          have k2 : ∀ F : Option (List Fd), (fun (n : Nd) (s : Int × List Fd) => (if n.st = 2 then (n.sch, (0 : Int)) else if n.st = 3 then ([], 16) else ([], 13)) = (if s.1 = 3 then (([] : List Fd), (16 : Int)) else if s.1 ≠ 2 then ([], 13) else (s.2, 0)))
              (match F with | none => ⟨e, 3, [], 0⟩ | some fs => ⟨e, 2, fs, w.length⟩) (match F with | none => (3, []) | some fs => (2, fs)) := by
            intro F
            cases F <;> rfl
          exact k2 (foldA w rootL)
      exact key (wayM m id)
theorem foldA_next {e : Eg} {w : List Eg} (fs : List Fd) : foldA (e :: w) fs = if (applyM fs e.ln).2 = 0 then foldA w (applyM fs e.ln).1 else none := by
  by_cases h : (applyM fs e.ln).2 = 0
  · simp [foldA, h]
  · simp [foldA, h]
theorem find_no {l : List Fd} {r : Rf} (h : idx (atF r) l = -1) : findF l r = (default, 6) := by unfold findF; rw [h]; rfl
theorem find_at {l : List Fd} {r : Rf} {i : Nat} (h : idx (atF r) l = (i : Int)) : findF l r = (l.getD i default, 0) := by
  unfold findF; rw [h, if_neg (by omega)]; simp
/-- the fields at places, and what is left without them -/
def pickF (l : List Fd) (r : Rf) : Fd := (findF l r).1
def restM : List Rf → List Fd → List Fd
  | [], l => l
  | r :: rs, l => restM rs (withoutM l r).1
theorem restM_snoc : ∀ (rs : List Rf) (r : Rf) (l : List Fd), restM (rs ++ [r]) l = (withoutM (restM rs l) r).1
  | [], r, l => rfl
  | x :: rs, r, l => by simp only [List.cons_append, restM]; exact restM_snoc rs r _
theorem okRest : ∀ (rs : List Rf) {l : List Fd}, OkFs l → OkFs (restM rs l)
  | [], l, h => h
  | r :: rs, l, h => okRest rs (okWithout h r)
theorem goAll_rest : ∀ (rs : List Rf) {l : List Fd}, rightL l = true → rs.Nodup → (∀ r ∈ rs, (findF l r).2 = 0) → goAll rs l = some (restM rs l)
  | [], l, _, _, _ => rfl
  | r :: rs, l, hr, hn, hf => by
    obtain ⟨h1, h2⟩ := find_zero (hf r (by simp))
    have w0 := wo_bwd hr ⟨_, h1, h2⟩
    obtain ⟨_, _, w3, w4, _⟩ := wo_fwd w0
    simp only [goAll, w0, ne_eq, not_true_eq_false, if_false, restM]
    rw [List.nodup_cons] at hn
    refine goAll_rest rs w3 hn.2 fun x hx => ?_
    obtain ⟨g1, g2⟩ := find_zero (hf x (by simp [hx]))
    have hm : (findF l x).1 ∈ (withoutM l r).1 := (w4 _).2 ⟨g1, fun e => hn.1 (by rw [← e, g2]; exact hx)⟩
    have := find_mem (right_iff.1 w3).2.1 hm
    rw [g2] at this
    rw [this]
theorem goAll_none {rs : List Rf} {l : List Fd} (hr : rightL l = true) {r : Rf} (h : r ∈ rs) (hf : (findF l r).2 ≠ 0) : goAll rs l = none := by
  cases hg : goAll rs l with
  | none => rfl
  | some m =>
    obtain ⟨f, hfm, e⟩ := (go_fwd hr hg).2.2.1 r h
    have := find_mem (right_iff.1 hr).2.1 hfm
    rw [e] at this
    rw [this] at hf
    exact absurd rfl hf
/-- a field more -/
def putR (l : List Fd) (f : Fd) (ok : Bool) : List Fd × Bool := ((withM l f).1, ok && decide ((withM l f).2 = 0))
theorem right_enum {f : Fd} (h : rightF f = true) (hk : f.kind = 3) : f.worth = 0 := by
  simp [rightF, hk] at h
  exact h.2.1
theorem right_cnt {r : Rf} {w : Int} (h : ¬ w < 1048577) : rightF ⟨r, 1, [], [], w⟩ = false := by
  simp [rightF, h]
def movedF (f : Fd) (r : Rf) : Fd := ⟨r, f.kind, f.df, f.cases', f.worth⟩
/-- what comes, told as the chapter tells it -/
def endR (x : Ln) (was rest : List Fd) : List Fd × Bool :=
  if x.kind = 2 then putR rest x.fd true
  else if x.kind = 3 then (rest, decide (was.getD 0 default = x.fd))
  else if x.kind = 6 then
    putR (putR rest ⟨named x.at' x.nm, 1, [], [], (was.getD 0 default).worth⟩ (decide ((was.getD 0 default).kind = 1) && decide (IntKind.i64.wrap ((was.getD 0 default).worth * x.fac) < 1048577))).1
      ⟨named x.at' x.ot, 1, [], [], IntKind.i64.wrap ((was.getD 0 default).worth * x.fac)⟩
      (putR rest ⟨named x.at' x.nm, 1, [], [], (was.getD 0 default).worth⟩ (decide ((was.getD 0 default).kind = 1) && decide (IntKind.i64.wrap ((was.getD 0 default).worth * x.fac) < 1048577))).2
  else if x.kind = 7 then putR rest ⟨x.at', 4, [], [], 0⟩ (decide ((was.getD 0 default).kind = 2) && decide ((was.getD 0 default).df = x.ot))
  else if x.kind = 8 then putR rest ⟨x.at', 3, x.ot, fromsM x.ba, 0⟩ ((decide ((was.getD 0 default).kind = 3) && decide ((was.getD 0 default).df = x.nm)) && decide ((was.getD 0 default).cases' = fromsM x.fo))
  else if x.kind = 9 then putR rest ⟨x.at', 1, [], [], (was.getD 0 default).worth⟩ ((decide ((was.getD 0 default).kind = 1) && decide ((was.getD 1 default).kind = 1)) && decide ((was.getD 1 default).worth = IntKind.i64.wrap ((was.getD 0 default).worth * x.fac)))
  else if x.kind = 10 then putR rest ⟨x.at', 2, x.ot, [], 0⟩ (decide ((was.getD 0 default).kind = 4))
  else putR rest (movedF (was.getD 0 default) ((comesR x).getD 0 default)) true
def outR (y : List Fd × Bool) : List Fd × Int := if y.2 = false then ([], 16) else (y.1, 0)
def outO (y : Option (List Fd)) : List Fd × Int := match y with | none => ([], 16) | some m => (m, 0)
theorem put1 (rest : List Fd) (f : Fd) (ok : Bool) : outO (if ok = false then none else comeAll [f] rest) = outR (putR rest f ok) := by
  unfold outO outR putR
  cases ok
  · simp
  · by_cases h : (withM rest f).2 = 0
    · simp [comeAll, h]
    · simp [comeAll, h]
theorem put0 (rest : List Fd) (f : Fd) : outO (comeAll [f] rest) = outR (putR rest f true) := put1 rest f true
theorem goes_nodup {x : Ln} (h : rightLn x = true) : (goesR x).Nodup := by
  unfold goesR
  split
  · simp
  split
  · simp
  split
  · rename_i h9
    simp only [List.nodup_cons, List.mem_singleton, List.not_mem_nil, not_false_eq_true, List.nodup_nil, and_true]
    intro e
    have e2 : x.nm = x.ot := by simpa [named] using congrArg (fun r : Rf => r.nm) e
    simp [rightLn, h9, e2] at h
  · simp
theorem apply_ref {l : List Fd} {x : Ln} (hl : rightL l = true) (hx : rightLn x = true) :
    applyM l x = if ∃ r ∈ goesR x, (findF l r).2 ≠ 0 then ([], 16) else outR (endR x ((goesR x).map (pickF l)) (restM (goesR x) l)) := by
  have hk := (rightLn_kind hx).1
  unfold applyM
  rw [if_neg (by simp [hl, hx])]
  show outO (applyR l x) = _
  split
  · rename_i h
    obtain ⟨r, hr, hf⟩ := h
    unfold applyR
    rw [goAll_none hl hr hf]
    split <;> rfl
  · rename_i h
    have hall : ∀ r ∈ goesR x, (findF l r).2 = 0 := fun r hr => by
      refine Decidable.byContradiction fun hn => h ⟨r, hr, hn⟩
    have hg := goAll_rest (goesR x) hl (goes_nodup hx) hall
    have hp : ∀ r ∈ goesR x, rightF (pickF l r) = true ∧ (pickF l r).at' = r := fun r hr => by
      obtain ⟨h1, h2⟩ := find_zero (hall r hr)
      exact ⟨(right_iff.1 hl).2.2 _ h1, h2⟩
    have pk : ∀ r, (findF l r).1 = pickF l r := fun _ => rfl
    unfold applyR
    rw [hg, Option.bind_some]
    clear hg h
    generalize restM (goesR x) l = rest
    have one : ∀ r ∈ goesR x, (findF l r).2 = 0 ∧ rightF (pickF l r) = true ∧ (pickF l r).at' = r := fun r hr => ⟨hall r hr, hp r hr⟩
    clear hall hp
    obtain ⟨kind, at', nm, ot, fac, fd, fo, ba⟩ := x
    simp only at hk
    rcases hk with rfl | rfl | rfl | rfl | rfl | rfl | rfl | rfl | rfl | rfl
    · obtain ⟨f0, -, -⟩ := one at' (by simp [goesR])
      simp only [arrM, goesR, comesR, endR, pk, f0, List.map_cons, List.map_nil, List.getD_cons_zero, movedF, Int.reduceEq, if_true, if_false, ne_eq, not_true_eq_false, not_false_eq_true, reduceCtorEq, decide_true, Bool.true_and]
      first | exact put1 _ _ _ | exact put0 _ _
    · simp only [arrM, goesR, comesR, endR, Int.reduceEq, if_true, if_false, ne_eq, not_true_eq_false, not_false_eq_true, reduceCtorEq, decide_true, Bool.true_and]
      first | exact put1 _ _ _ | exact put0 _ _
    · obtain ⟨f0, -, -⟩ := one fd.at' (by simp [goesR])
      simp only [arrM, goesR, endR, pk, f0, List.map_cons, List.map_nil, List.getD_cons_zero, Int.reduceEq, if_true, if_false, ne_eq, not_true_eq_false, not_false_eq_true, reduceCtorEq, decide_true, Bool.true_and]
      by_cases e : pickF l fd.at' = fd
      · simp [e, outO, outR, comeAll]
      · simp [e, outO, outR]
    · obtain ⟨f0, -, -⟩ := one at' (by simp [goesR])
      simp only [arrM, goesR, comesR, endR, pk, f0, List.map_cons, List.map_nil, List.getD_cons_zero, movedF, Int.reduceEq, if_true, if_false, ne_eq, not_true_eq_false, not_false_eq_true, reduceCtorEq, decide_true, Bool.true_and]
      first | exact put1 _ _ _ | exact put0 _ _
    · obtain ⟨f0, -, -⟩ := one at' (by simp [goesR])
      simp only [arrM, goesR, comesR, endR, pk, f0, List.map_cons, List.map_nil, List.getD_cons_zero, movedF, Int.reduceEq, if_true, if_false, ne_eq, not_true_eq_false, not_false_eq_true, reduceCtorEq, decide_true, Bool.true_and]
      first | exact put1 _ _ _ | exact put0 _ _
    · obtain ⟨f0, -, -⟩ := one at' (by simp [goesR])
      simp only [arrM, goesR, comesR, endR, pk, f0, List.map_cons, List.map_nil, List.getD_cons_zero, Int.reduceEq, if_true, if_false, ne_eq, not_true_eq_false, not_false_eq_true, reduceCtorEq, decide_true, Bool.true_and]
      generalize pickF l at' = f
      by_cases hw : IntKind.i64.wrap (f.worth * fac) < 1048577
      · by_cases h1 : f.kind = 1
        · by_cases w1 : (withM rest ⟨named at' nm, 1, [], [], f.worth⟩).2 = 0
          · by_cases w2 : (withM (withM rest ⟨named at' nm, 1, [], [], f.worth⟩).1 ⟨named at' ot, 1, [], [], IntKind.i64.wrap (f.worth * fac)⟩).2 = 0
            · simp [putR, outO, outR, comeAll, hw, h1, w1, w2]
            · simp [putR, outO, outR, comeAll, hw, h1, w1, w2]
          · simp [putR, outO, outR, comeAll, hw, h1, w1]
        · simp [putR, outO, outR, comeAll, hw, h1]
      · have w2 : ∀ m, (withM m ⟨named at' ot, 1, [], [], IntKind.i64.wrap (f.worth * fac)⟩).2 ≠ 0 := fun m => by
          unfold withM
          rw [if_pos (.inr (right_cnt hw))]
          decide
        have e : outR (putR (putR rest ⟨named at' nm, 1, [], [], f.worth⟩ (decide (f.kind = 1) && decide (IntKind.i64.wrap (f.worth * fac) < 1048577))).1 ⟨named at' ot, 1, [], [], IntKind.i64.wrap (f.worth * fac)⟩ (putR rest ⟨named at' nm, 1, [], [], f.worth⟩ (decide (f.kind = 1) && decide (IntKind.i64.wrap (f.worth * fac) < 1048577))).2) = ([], 16) := by
          simp [putR, outR, hw]
        rw [e]
        by_cases h1 : f.kind = 1
        · simp [outO, comeAll, h1, w2]
        · simp [outO, h1]
    · obtain ⟨f0, -, -⟩ := one at' (by simp [goesR])
      simp only [arrM, goesR, comesR, endR, pk, f0, List.map_cons, List.map_nil, List.getD_cons_zero, movedF, Int.reduceEq, if_true, if_false, ne_eq, not_true_eq_false, not_false_eq_true, reduceCtorEq, decide_true, Bool.true_and]
      first | exact put1 _ _ _ | exact put0 _ _
    · obtain ⟨f0, f1, f2⟩ := one at' (by simp [goesR])
      have e8 : decide (pickF l at' = ⟨at', 3, nm, fromsM fo, 0⟩) = ((decide ((pickF l at').kind = 3) && decide ((pickF l at').df = nm)) && decide ((pickF l at').cases' = fromsM fo)) := by
        generalize pickF l at' = f at *
        by_cases k3 : f.kind = 3
        · have w0 := right_enum f1 k3
          obtain ⟨a, b, c, d, e⟩ := f
          simp only at k3 w0 f2
          subst k3 w0 f2
          simp
        · have : ¬ f = ⟨at', 3, nm, fromsM fo, 0⟩ := fun e => k3 (by rw [e])
          simp [this, k3]
      simp only [arrM, goesR, comesR, endR, pk, f0, List.map_cons, List.map_nil, List.getD_cons_zero, movedF, e8, Int.reduceEq, if_true, if_false, ne_eq, not_true_eq_false, not_false_eq_true, reduceCtorEq, decide_true, Bool.true_and]
      first | exact put1 _ _ _ | exact put0 _ _
    · obtain ⟨f0, -, -⟩ := one (named at' nm) (by simp [goesR])
      obtain ⟨g0, -, -⟩ := one (named at' ot) (by simp [goesR])
      simp only [arrM, mergedM, goesR, comesR, endR, pk, f0, g0, List.map_cons, List.map_nil, List.getD_cons_zero, List.getD_cons_succ, Int.reduceEq, if_true, if_false, ne_eq, not_true_eq_false, not_false_eq_true, reduceCtorEq, decide_true, Bool.true_and]
      generalize pickF l (named at' nm) = f
      generalize pickF l (named at' ot) = g
      by_cases h1 : f.kind = 1
      · by_cases h2 : g.kind = 1
        · by_cases h3 : g.worth = IntKind.i64.wrap (f.worth * fac)
          · simp [h1, h2, h3, put0]
          · simp [h1, h2, h3, outO, outR, putR]
        · simp [h1, h2, outO, outR, putR]
      · simp [h1, outO, outR, putR]
    · obtain ⟨f0, -, -⟩ := one at' (by simp [goesR])
      simp only [arrM, goesR, comesR, endR, pk, f0, List.map_cons, List.map_nil, List.getD_cons_zero, movedF, Int.reduceEq, if_true, if_false, ne_eq, not_true_eq_false, not_false_eq_true, reduceCtorEq, decide_true, Bool.true_and]
      first | exact put1 _ _ _ | exact put0 _ _
end Go.Proofs.YtnadlkjmdimjkaaGreat
