/- Contracts of functions and laws of this seat, each for every input that it names: lemmas of the proof. -/
import Derived.Test.YtcomkajmhlhphaaGreatXBk
import Derived.Test.YtcomkajmhlhphaaGreatXBq
set_option linter.unusedSimpArgs false
set_option linter.unusedVariables false
set_option linter.unusedSimpArgs false
set_option linter.unusedVariables false
namespace Go.Proofs.YtcomkajmhlhphaaGreat
open Go.PL
end Go.Proofs.YtcomkajmhlhphaaGreat

set_option linter.unusedSimpArgs false
set_option linter.unusedVariables false
set_option linter.unusedSimpArgs false
set_option linter.unusedVariables false
namespace Go.Proofs.YtcomkajmhlhphaaGreat
open Go.PL
structure ChT where
  l : List Fd
  n : Nat
  c : Int
def chainA : List Fd → List Ln → Nat → ChT
  | fs, [], i => ⟨fs, i, 0⟩
  | fs, x :: xs, i => if (applyM fs x).2 ≠ 0 then ⟨[], i, (applyM fs x).2⟩ else chainA (applyM fs x).1 xs (i + 1)
structure ChS (l : List Fd) (row : List Ln) where
  k : Nat
  fs : List Fd
  hk : k ≤ row.length
  ok : OkFs fs
  h : chainA fs (row.drop k) k = chainA l row 0
theorem drop_ln {row : List Ln} {k : Nat} (hk : k < row.length) : row.drop k = row.getD k default :: row.drop (k + 1) := by
  rw [getD_lt hk, List.drop_eq_getElem_cons hk]
end Go.Proofs.YtcomkajmhlhphaaGreat

set_option linter.unusedSimpArgs false
set_option linter.unusedVariables false
set_option linter.unusedSimpArgs false
set_option linter.unusedVariables false
namespace Go.Proofs.YtcomkajmhlhphaaGreat
open Go.PL
theorem lcp_max {p q : List Eg} {k : Nat} (hp : k ≤ p.length) (hq : k ≤ q.length) (h : p.take k = q.take k) : k ≤ lcp p q := by
  by_cases hk : k ≤ lcp p q
  · exact hk
  · exfalso
    apply lcp_stop p q (by omega) (by omega)
    have e : (p.take k).getD (lcp p q) default = (q.take k).getD (lcp p q) default := by rw [h]
    rw [getD_lt (by simp; omega), getD_lt (by simp; omega)] at e
    rw [getD_lt (by omega), getD_lt (by omega)]
    simpa using e
theorem meet_comm (p q : List Eg) : meetT p q = meetT q p := by unfold meetT; rw [lcp_take, lcp_comm p q]
theorem nodup_rev {l : List Tg} : l.reverse.Nodup ↔ l.Nodup := by
  unfold List.Nodup
  rw [List.pairwise_reverse]
  constructor <;> exact fun h => h.imp (fun h => h.symm)
theorem way_ids {m : List Eg} (ha : Apart m) {w : List Eg} (hw : ∀ e ∈ w, e ∈ m) (hn : w.Nodup) : (w.map (·.id)).Nodup := by
  induction w with
  | nil => simp
  | cons e w ih =>
    rw [List.map_cons, List.nodup_cons]
    rw [List.nodup_cons] at hn
    refine ⟨fun hx0 => ?_, ih (fun x hx => hw x (by simp [hx])) hn.2⟩
    obtain ⟨x, hx, he⟩ := List.mem_map.1 hx0
    have := ha.inj (hw x (by simp [hx])) (hw e (by simp)) he
    subst this
    exact hn.1 hx
theorem upL_nodup {m : List Eg} (ha : Apart m) {w : List Eg} (hw : ∀ e ∈ w, e ∈ m) (hn : w.Nodup) : (upL w).Nodup := by
  unfold upL
  rw [List.nodup_append]
  refine ⟨?_, by simp, ?_⟩
  · rw [List.map_reverse, nodup_rev]; exact way_ids ha hw hn
  · intro x hx y hy e
    obtain ⟨z, hz, rfl⟩ := List.mem_map.1 hx
    rw [List.mem_singleton.1 hy] at e
    exact ha.n z (hw z (List.mem_reverse.1 hz)) e
theorem stops_apart {m : List Eg} (ha : Apart m) {a b : Tg} {p q : List Eg} (hp : Way m a p) (hq : Way m b q) {e1 e2 : Eg} (h1 : e1 ∈ p.drop (lcp p q)) (h2 : e2 ∈ q.drop (lcp p q)) : e1.id ≠ e2.id := by
  intro e
  obtain ⟨i, hi, rfl⟩ := List.getElem_of_mem h1
  obtain ⟨j, hj, rfl⟩ := List.getElem_of_mem h2
  simp only [List.length_drop] at hi hj
  rw [List.getElem_drop, List.getElem_drop] at e
  have w1 := hp.take (lcp p q + i) (by omega)
  have w2 := hq.take (lcp p q + j) (by omega)
  rw [e] at w1
  have w3 := w1.fn w2
  have hl := congrArg List.length w3
  simp only [List.length_take] at hl
  have hij : i = j := by omega
  subst hij
  have := lcp_max (by omega) (by omega) w3
  omega
end Go.Proofs.YtcomkajmhlhphaaGreat

set_option linter.unusedSimpArgs false
set_option linter.unusedVariables false
set_option linter.unusedSimpArgs false
set_option linter.unusedVariables false
namespace Go.Proofs.YtcomkajmhlhphaaGreat
open Go.PL
def hasT (l : List Tg) (t : Tg) : Int := idx (fun x => decide (x = t)) l
theorem RHas18_pure (l : List Tg) (t : Tg) (hl : l.length ≤ maxLen) : PL.Pure Tryz.prog 49 [tgs l, tg t] (.int .i64 (hasT l t)) := RHasT_pure l t hl
theorem hasT_no {l : List Tg} {t : Tg} (h : t ∉ l) : hasT l t = -1 := by
  unfold hasT
  apply idx_none (d := default)
  intro j hj
  rw [decide_eq_false_iff_not]
  intro e
  exact h (e ▸ getD_mem hj)
theorem hasT_yes {l : List Tg} {t : Tg} (h : t ∈ l) : 0 ≤ hasT l t := by
  unfold hasT idx
  cases hf : l.findIdx? fun x => decide (x = t) with
  | none => rw [List.findIdx?_eq_none_iff] at hf; have := hf t h; simp at this
  | some i => simp
end Go.Proofs.YtcomkajmhlhphaaGreat

set_option linter.unusedSimpArgs false
set_option linter.unusedVariables false
set_option linter.unusedSimpArgs false
set_option linter.unusedVariables false
namespace Go.Proofs.YtcomkajmhlhphaaGreat
open Go.PL
/-- the state of a tag, and its schema, by its way -/
def stateM (m : List Eg) (id : Tg) : Int × List Fd :=
  if id ≠ default ∧ findE m id = none then (0, []) else match wayM m id with
    | none => (1, [])
    | some w => match foldA w rootL with
      | none => (3, [])
      | some fs => (2, fs)
theorem sch_state (m : List Eg) (id : Tg) : schM (treeOf m) id = if (stateM m id).1 = 3 then ([], 16) else if (stateM m id).1 ≠ 2 then ([], 13) else ((stateM m id).2, 0) := by
  unfold stateM schM
  by_cases hd : id = default
  · subst hd
    have h1 : wayM m default = some [] := wayM_iff.2 .root
    simp [atN, rootN, h1, foldA]
  · rw [atN_tree m id hd]
    cases hf : findE m id with
    | none =>
      have hn : id ≠ default ∧ (none : Option Eg) = none := ⟨hd, rfl⟩
      rw [if_pos hn]
      rfl
    | some e =>
      obtain ⟨h1, h2⟩ := findE_id hf
      have hn : ¬ (id ≠ default ∧ (some e : Option Eg) = none) := fun h => by cases h.2
      rw [if_neg hn]
      simp only [Option.map_some, Option.getD_some, nodeOf, ← h1]
      have key : ∀ (w : Option (List Eg)), (if (nodeW e w).st = 2 then ((nodeW e w).sch, (0 : Int)) else if (nodeW e w).st = 3 then ([], 16) else ([], 13)) =
          (fun s : Int × List Fd => if s.1 = 3 then (([] : List Fd), (16 : Int)) else if s.1 ≠ 2 then ([], 13) else (s.2, 0)) (match w with | none => (1, []) | some w => match foldA w rootL with | none => (3, []) | some fs => (2, fs)) := by
        intro w
        cases w with
        | none => rfl
        | some w =>
          have k2 : ∀ F : Option (List Fd), (fun (n : Nd) (s : Int × List Fd) => (if n.st = 2 then (n.sch, (0 : Int)) else if n.st = 3 then ([], 16) else ([], 13)) = (if s.1 = 3 then (([] : List Fd), (16 : Int)) else if s.1 ≠ 2 then ([], 13) else (s.2, 0)))
              (match F with | none => ⟨e, 3, [], 0⟩ | some fs => ⟨e, 2, fs, w.length⟩) (match F with | none => (3, []) | some fs => (2, fs)) := by
            intro F
            cases F <;> rfl
          exact k2 (foldA w rootL)
      exact key (wayM m id)
theorem foldA_next {e : Eg} {w : List Eg} (fs : List Fd) : foldA (e :: w) fs = if (applyM fs e.ln).2 = 0 then foldA w (applyM fs e.ln).1 else none := by
  by_cases h : (applyM fs e.ln).2 = 0
  · simp [foldA, h]
  · simp [foldA, h]
theorem find_no {l : List Fd} {r : Rf} (h : idx (atF r) l = -1) : findF l r = (default, 6) := by unfold findF; rw [h]; rfl
theorem find_at {l : List Fd} {r : Rf} {i : Nat} (h : idx (atF r) l = (i : Int)) : findF l r = (l.getD i default, 0) := by
  unfold findF; rw [h, if_neg (by omega)]; simp
/-- the fields at places, and what is left without them -/
def pickF (l : List Fd) (r : Rf) : Fd := (findF l r).1
def restM : List Rf → List Fd → List Fd
  | [], l => l
  | r :: rs, l => restM rs (withoutM l r).1
theorem restM_snoc : ∀ (rs : List Rf) (r : Rf) (l : List Fd), restM (rs ++ [r]) l = (withoutM (restM rs l) r).1
  | [], r, l => rfl
  | x :: rs, r, l => by simp only [List.cons_append, restM]; exact restM_snoc rs r _
theorem okRest : ∀ (rs : List Rf) {l : List Fd}, OkFs l → OkFs (restM rs l)
  | [], l, h => h
  | r :: rs, l, h => okRest rs (okWithout h r)
theorem goAll_rest : ∀ (rs : List Rf) {l : List Fd}, rightL l = true → rs.Nodup → (∀ r ∈ rs, (findF l r).2 = 0) → goAll rs l = some (restM rs l)
  | [], l, _, _, _ => rfl
  | r :: rs, l, hr, hn, hf => by
    obtain ⟨h1, h2⟩ := find_zero (hf r (by simp))
    have w0 := wo_bwd hr ⟨_, h1, h2⟩
    obtain ⟨_, _, w3, w4, _⟩ := wo_fwd w0
    simp only [goAll, w0, ne_eq, not_true_eq_false, if_false, restM]
    rw [List.nodup_cons] at hn
    refine goAll_rest rs w3 hn.2 fun x hx => ?_
    obtain ⟨g1, g2⟩ := find_zero (hf x (by simp [hx]))
    have hm : (findF l x).1 ∈ (withoutM l r).1 := (w4 _).2 ⟨g1, fun e => hn.1 (by rw [← e, g2]; exact hx)⟩
    have := find_mem (right_iff.1 w3).2.1 hm
    rw [g2] at this
    rw [this]
theorem goAll_none {rs : List Rf} {l : List Fd} (hr : rightL l = true) {r : Rf} (h : r ∈ rs) (hf : (findF l r).2 ≠ 0) : goAll rs l = none := by
  cases hg : goAll rs l with
  | none => rfl
  | some m =>
    obtain ⟨f, hfm, e⟩ := (go_fwd hr hg).2.2.1 r h
    have := find_mem (right_iff.1 hr).2.1 hfm
    rw [e] at this
    rw [this] at hf
    exact absurd rfl hf
/-- a field more -/
def putR (l : List Fd) (f : Fd) (ok : Bool) : List Fd × Bool := ((withM l f).1, ok && decide ((withM l f).2 = 0))
theorem right_enum {f : Fd} (h : rightF f = true) (hk : f.kind = 3) : f.worth = 0 := by
  simp [rightF, hk] at h
  exact h.2.1
theorem right_cnt {r : Rf} {w : Int} (h : ¬ w < 1048577) : rightF ⟨r, 1, [], [], w⟩ = false := by
  simp [rightF, h]
def movedF (f : Fd) (r : Rf) : Fd := ⟨r, f.kind, f.df, f.cases', f.worth⟩
/-- what comes, told as the chapter tells it -/
def endR (x : Ln) (was rest : List Fd) : List Fd × Bool :=
  if x.kind = 2 then putR rest x.fd true
  else if x.kind = 3 then (rest, decide (was.getD 0 default = x.fd))
  else if x.kind = 6 then
    putR (putR rest ⟨named x.at' x.nm, 1, [], [], (was.getD 0 default).worth⟩ (decide ((was.getD 0 default).kind = 1) && decide (IntKind.i64.wrap ((was.getD 0 default).worth * x.fac) < 1048577))).1
      ⟨named x.at' x.ot, 1, [], [], IntKind.i64.wrap ((was.getD 0 default).worth * x.fac)⟩
      (putR rest ⟨named x.at' x.nm, 1, [], [], (was.getD 0 default).worth⟩ (decide ((was.getD 0 default).kind = 1) && decide (IntKind.i64.wrap ((was.getD 0 default).worth * x.fac) < 1048577))).2
  else if x.kind = 7 then putR rest ⟨x.at', 4, [], [], 0⟩ (decide ((was.getD 0 default).kind = 2) && decide ((was.getD 0 default).df = x.ot))
  else if x.kind = 8 then putR rest ⟨x.at', 3, x.ot, fromsM x.ba, 0⟩ ((decide ((was.getD 0 default).kind = 3) && decide ((was.getD 0 default).df = x.nm)) && decide ((was.getD 0 default).cases' = fromsM x.fo))
  else if x.kind = 9 then putR rest ⟨x.at', 1, [], [], (was.getD 0 default).worth⟩ ((decide ((was.getD 0 default).kind = 1) && decide ((was.getD 1 default).kind = 1)) && decide ((was.getD 1 default).worth = IntKind.i64.wrap ((was.getD 0 default).worth * x.fac)))
  else if x.kind = 10 then putR rest ⟨x.at', 2, x.ot, [], 0⟩ (decide ((was.getD 0 default).kind = 4))
  else putR rest (movedF (was.getD 0 default) ((comesR x).getD 0 default)) true
def outR (y : List Fd × Bool) : List Fd × Int := if y.2 = false then ([], 16) else (y.1, 0)
def outO (y : Option (List Fd)) : List Fd × Int := match y with | none => ([], 16) | some m => (m, 0)
theorem put1 (rest : List Fd) (f : Fd) (ok : Bool) : outO (if ok = false then none else comeAll [f] rest) = outR (putR rest f ok) := by
  unfold outO outR putR
  cases ok
  · simp
  · by_cases h : (withM rest f).2 = 0
    · simp [comeAll, h]
    · simp [comeAll, h]
theorem put0 (rest : List Fd) (f : Fd) : outO (comeAll [f] rest) = outR (putR rest f true) := put1 rest f true
theorem goes_nodup {x : Ln} (h : rightLn x = true) : (goesR x).Nodup := by
  unfold goesR
  split
  · simp
  split
  · simp
  split
  · rename_i h9
    simp only [List.nodup_cons, List.mem_singleton, List.not_mem_nil, not_false_eq_true, List.nodup_nil, and_true]
    intro e
    have e2 : x.nm = x.ot := by simpa [named] using congrArg (fun r : Rf => r.nm) e
    simp [rightLn, h9, e2] at h
  · simp
theorem apply_ref {l : List Fd} {x : Ln} (hl : rightL l = true) (hx : rightLn x = true) :
    applyM l x = if ∃ r ∈ goesR x, (findF l r).2 ≠ 0 then ([], 16) else outR (endR x ((goesR x).map (pickF l)) (restM (goesR x) l)) := by
  have hk := (rightLn_kind hx).1
  unfold applyM
  rw [if_neg (by simp [hl, hx])]
  show outO (applyR l x) = _
  split
  · rename_i h
    obtain ⟨r, hr, hf⟩ := h
    unfold applyR
    rw [goAll_none hl hr hf]
    split <;> rfl
  · rename_i h
    have hall : ∀ r ∈ goesR x, (findF l r).2 = 0 := fun r hr => by
      refine Decidable.byContradiction fun hn => h ⟨r, hr, hn⟩
    have hg := goAll_rest (goesR x) hl (goes_nodup hx) hall
    have hp : ∀ r ∈ goesR x, rightF (pickF l r) = true ∧ (pickF l r).at' = r := fun r hr => by
      obtain ⟨h1, h2⟩ := find_zero (hall r hr)
      exact ⟨(right_iff.1 hl).2.2 _ h1, h2⟩
    have pk : ∀ r, (findF l r).1 = pickF l r := fun _ => rfl
    unfold applyR
    rw [hg, Option.bind_some]
    clear hg h
    generalize restM (goesR x) l = rest
    have one : ∀ r ∈ goesR x, (findF l r).2 = 0 ∧ rightF (pickF l r) = true ∧ (pickF l r).at' = r := fun r hr => ⟨hall r hr, hp r hr⟩
    clear hall hp
    obtain ⟨kind, at', nm, ot, fac, fd, fo, ba⟩ := x
    simp only at hk
    rcases hk with rfl | rfl | rfl | rfl | rfl | rfl | rfl | rfl | rfl | rfl
    · obtain ⟨f0, -, -⟩ := one at' (by simp [goesR])
      simp only [arrM, goesR, comesR, endR, pk, f0, List.map_cons, List.map_nil, List.getD_cons_zero, movedF, Int.reduceEq, if_true, if_false, ne_eq, not_true_eq_false, not_false_eq_true, reduceCtorEq, decide_true, Bool.true_and]
      first | exact put1 _ _ _ | exact put0 _ _
    · simp only [arrM, goesR, comesR, endR, Int.reduceEq, if_true, if_false, ne_eq, not_true_eq_false, not_false_eq_true, reduceCtorEq, decide_true, Bool.true_and]
      first | exact put1 _ _ _ | exact put0 _ _
    · obtain ⟨f0, -, -⟩ := one fd.at' (by simp [goesR])
      simp only [arrM, goesR, endR, pk, f0, List.map_cons, List.map_nil, List.getD_cons_zero, Int.reduceEq, if_true, if_false, ne_eq, not_true_eq_false, not_false_eq_true, reduceCtorEq, decide_true, Bool.true_and]
      by_cases e : pickF l fd.at' = fd
      · simp [e, outO, outR, comeAll]
      · simp [e, outO, outR]
    · obtain ⟨f0, -, -⟩ := one at' (by simp [goesR])
      simp only [arrM, goesR, comesR, endR, pk, f0, List.map_cons, List.map_nil, List.getD_cons_zero, movedF, Int.reduceEq, if_true, if_false, ne_eq, not_true_eq_false, not_false_eq_true, reduceCtorEq, decide_true, Bool.true_and]
      first | exact put1 _ _ _ | exact put0 _ _
    · obtain ⟨f0, -, -⟩ := one at' (by simp [goesR])
      simp only [arrM, goesR, comesR, endR, pk, f0, List.map_cons, List.map_nil, List.getD_cons_zero, movedF, Int.reduceEq, if_true, if_false, ne_eq, not_true_eq_false, not_false_eq_true, reduceCtorEq, decide_true, Bool.true_and]
      first | exact put1 _ _ _ | exact put0 _ _
    · obtain ⟨f0, -, -⟩ := one at' (by simp [goesR])
      simp only [arrM, goesR, comesR, endR, pk, f0, List.map_cons, List.map_nil, List.getD_cons_zero, Int.reduceEq, if_true, if_false, ne_eq, not_true_eq_false, not_false_eq_true, reduceCtorEq, decide_true, Bool.true_and]
      generalize pickF l at' = f
      by_cases hw : IntKind.i64.wrap (f.worth * fac) < 1048577
      · by_cases h1 : f.kind = 1
        · by_cases w1 : (withM rest ⟨named at' nm, 1, [], [], f.worth⟩).2 = 0
          · by_cases w2 : (withM (withM rest ⟨named at' nm, 1, [], [], f.worth⟩).1 ⟨named at' ot, 1, [], [], IntKind.i64.wrap (f.worth * fac)⟩).2 = 0
            · simp [putR, outO, outR, comeAll, hw, h1, w1, w2]
            · simp [putR, outO, outR, comeAll, hw, h1, w1, w2]
          · simp [putR, outO, outR, comeAll, hw, h1, w1]
        · simp [putR, outO, outR, comeAll, hw, h1]
      · have w2 : ∀ m, (withM m ⟨named at' ot, 1, [], [], IntKind.i64.wrap (f.worth * fac)⟩).2 ≠ 0 := fun m => by
          unfold withM
          rw [if_pos (.inr (right_cnt hw))]
          decide
        have e : outR (putR (putR rest ⟨named at' nm, 1, [], [], f.worth⟩ (decide (f.kind = 1) && decide (IntKind.i64.wrap (f.worth * fac) < 1048577))).1 ⟨named at' ot, 1, [], [], IntKind.i64.wrap (f.worth * fac)⟩ (putR rest ⟨named at' nm, 1, [], [], f.worth⟩ (decide (f.kind = 1) && decide (IntKind.i64.wrap (f.worth * fac) < 1048577))).2) = ([], 16) := by
          simp [putR, outR, hw]
        rw [e]
        by_cases h1 : f.kind = 1
        · simp [outO, comeAll, h1, w2]
        · simp [outO, h1]
    · obtain ⟨f0, -, -⟩ := one at' (by simp [goesR])
      simp only [arrM, goesR, comesR, endR, pk, f0, List.map_cons, List.map_nil, List.getD_cons_zero, movedF, Int.reduceEq, if_true, if_false, ne_eq, not_true_eq_false, not_false_eq_true, reduceCtorEq, decide_true, Bool.true_and]
      first | exact put1 _ _ _ | exact put0 _ _
    · obtain ⟨f0, f1, f2⟩ := one at' (by simp [goesR])
      have e8 : decide (pickF l at' = ⟨at', 3, nm, fromsM fo, 0⟩) = ((decide ((pickF l at').kind = 3) && decide ((pickF l at').df = nm)) && decide ((pickF l at').cases' = fromsM fo)) := by
        generalize pickF l at' = f at *
        by_cases k3 : f.kind = 3
        · have w0 := right_enum f1 k3
          obtain ⟨a, b, c, d, e⟩ := f
          simp only at k3 w0 f2
          subst k3 w0 f2
          simp
        · have : ¬ f = ⟨at', 3, nm, fromsM fo, 0⟩ := fun e => k3 (by rw [e])
          simp [this, k3]
      simp only [arrM, goesR, comesR, endR, pk, f0, List.map_cons, List.map_nil, List.getD_cons_zero, movedF, e8, Int.reduceEq, if_true, if_false, ne_eq, not_true_eq_false, not_false_eq_true, reduceCtorEq, decide_true, Bool.true_and]
      first | exact put1 _ _ _ | exact put0 _ _
    · obtain ⟨f0, -, -⟩ := one (named at' nm) (by simp [goesR])
      obtain ⟨g0, -, -⟩ := one (named at' ot) (by simp [goesR])
      simp only [arrM, mergedM, goesR, comesR, endR, pk, f0, g0, List.map_cons, List.map_nil, List.getD_cons_zero, List.getD_cons_succ, Int.reduceEq, if_true, if_false, ne_eq, not_true_eq_false, not_false_eq_true, reduceCtorEq, decide_true, Bool.true_and]
      generalize pickF l (named at' nm) = f
      generalize pickF l (named at' ot) = g
      by_cases h1 : f.kind = 1
      · by_cases h2 : g.kind = 1
        · by_cases h3 : g.worth = IntKind.i64.wrap (f.worth * fac)
          · simp [h1, h2, h3, put0]
          · simp [h1, h2, h3, outO, outR, putR]
        · simp [h1, h2, outO, outR, putR]
      · simp [h1, outO, outR, putR]
    · obtain ⟨f0, -, -⟩ := one at' (by simp [goesR])
      simp only [arrM, goesR, comesR, endR, pk, f0, List.map_cons, List.map_nil, List.getD_cons_zero, movedF, Int.reduceEq, if_true, if_false, ne_eq, not_true_eq_false, not_false_eq_true, reduceCtorEq, decide_true, Bool.true_and]
      first | exact put1 _ _ _ | exact put0 _ _
end Go.Proofs.YtcomkajmhlhphaaGreat

set_option linter.unusedSimpArgs false
set_option linter.unusedVariables false
set_option linter.unusedSimpArgs false
set_option linter.unusedVariables false
namespace Go.Proofs.YtcomkajmhlhphaaGreat
open Go.PL
set_option maxRecDepth 20000 in
set_option maxHeartbeats 8000000 in
theorem RWith_pure (l : List Fd) (f : Fd) (hl : OkFs l) (hf : f.cases'.length ≤ 1000000) : PL.Pure Tryz.prog 151 [flds l, fld f] (fldsc (withM l f)) := by
  have hn := hl.n
  have hm : l.length ≤ maxLen := by rw [maxLen_eq]; omega
  have hR := RRightL_pure l hm (fun g hg => by have := hl.c g hg; rw [maxLen_eq]; omega)
  have hF := RRight_pure f (by rw [maxLen_eq]; omega)
  have hI : PL.Pure Tryz.prog 111 [flds l, ref f.at'] (.int .i64 (idx (atF f.at') l)) := RAt_pure l f.at' hm
  unfold withM
  cases hr : rightL l
  · rw [hr] at hR
    simp only [true_or, if_true]
    refine PL.Pure.of_v Tryz.func151 (by decide) rfl Tryz.ntmps151 Tryz.results151 (by simp) (fldsc_dids _) ?_
    simp only [go_sem, flds, fld]
    refine vCall_of (hR) ?_ ?_ ?_; (focus simp only [go_sem, flds]); (focus simp only [go_sem, flds])
    simp only [go_sem, fldsc, flds, List.map_nil]
  · rw [hr] at hR
    cases hrf : rightF f
    · rw [hrf] at hF
      simp only [or_true, if_true]
      refine PL.Pure.of_v Tryz.func151 (by decide) rfl Tryz.ntmps151 Tryz.results151 (by simp) (fldsc_dids _) ?_
      simp only [go_sem, flds, fld]
      refine vCall_of (hR) ?_ ?_ ?_; (focus simp only [go_sem, flds]); (focus simp only [go_sem, flds])
      simp only [go_sem]
      refine vCall_of (hF) ?_ ?_ ?_; (focus simp only [go_sem, fld]); (focus simp only [go_sem, fld])
      simp only [go_sem, fldsc, flds, List.map_nil]
    · rw [hrf] at hF
      simp only [Bool.true_eq_false, or_self, if_false]
      by_cases h2 : (0 : Int) ≤ idx (atF f.at') l
      · rw [if_pos h2]
        refine PL.Pure.of_v Tryz.func151 (by decide) rfl Tryz.ntmps151 Tryz.results151 (by simp) (fldsc_dids _) ?_
        simp only [go_sem, flds, fld]
        refine vCall_of (hR) ?_ ?_ ?_; (focus simp only [go_sem, flds]); (focus simp only [go_sem, flds])
        simp only [go_sem]
        refine vCall_of (hF) ?_ ?_ ?_; (focus simp only [go_sem, fld]); (focus simp only [go_sem, fld])
        simp only [go_sem]
        refine vCall_of (hI) ?_ ?_ ?_; (focus simp only [go_sem, flds, ref]); (focus simp only [go_sem, flds, ref])
        simp only [go_sem, h2, fldsc, flds, List.map_nil]
      · rw [if_neg h2]
        by_cases h3 : (16 : Int) ≤ (l.length : Int)
        · rw [if_pos h3]
          have h3' : (15 : Int) < (l.length : Int) := by omega
          refine PL.Pure.of_v Tryz.func151 (by decide) rfl Tryz.ntmps151 Tryz.results151 (by simp) (fldsc_dids _) ?_
          simp only [go_sem, flds, fld]
          refine vCall_of (hR) ?_ ?_ ?_; (focus simp only [go_sem, flds]); (focus simp only [go_sem, flds])
          simp only [go_sem]
          refine vCall_of (hF) ?_ ?_ ?_; (focus simp only [go_sem, fld]); (focus simp only [go_sem, fld])
          simp only [go_sem]
          refine vCall_of (hI) ?_ ?_ ?_; (focus simp only [go_sem, flds, ref]); (focus simp only [go_sem, flds, ref])
          simp only [go_sem, h2, h3', fldsc, flds, List.map_nil]
        · rw [if_neg h3]
          have h3' : ¬ (15 : Int) < (l.length : Int) := by omega
          refine PL.Pure.of_v Tryz.func151 (by decide) rfl Tryz.ntmps151 Tryz.results151 (by simp) (fldsc_dids _) ?_
          simp only [go_sem, flds, fld]
          refine vCall_of (hR) ?_ ?_ ?_; (focus simp only [go_sem, flds]); (focus simp only [go_sem, flds])
          simp only [go_sem]
          refine vCall_of (hF) ?_ ?_ ?_; (focus simp only [go_sem, fld]); (focus simp only [go_sem, fld])
          simp only [go_sem]
          refine vCall_of (hI) ?_ ?_ ?_; (focus simp only [go_sem, flds, ref]); (focus simp only [go_sem, flds, ref])
          simp only [go_sem, h2, h3', flds]
          refine awp_moveRow 6 24 45 0 7 41 [] rfl rfl rfl ?_
          refine vLoopM (ι := { x : Nat × (List Fd) // x.1 ≤ (l).length ∧ (x.2 ++ insM (l.drop x.1) f = insM l f) }) 66 (fun x => [(0, flds l), (3, .ptr 3 0), (6, .sl (.row 45) (x.1.2.map fld)), (7, .int .i64 (x.1.1 : Int))]) (fun x => [(3, fcells f, false)]) (fun x => [(45, .live (x.1.2.length) (7) (41))]) (fun x => (l).length - x.1.1) ⟨(0, []), Nat.zero_le _, rfl⟩ ⟨rfl, (forall_cons rfl (forall_cons rfl (forall_cons rfl (forall_cons rfl forall_nil)))), (forall_cons ⟨rfl, rfl⟩ forall_nil), (forall_cons rfl forall_nil)⟩ (fun x => ⟨(forall_cons rfl (forall_cons rfl (forall_cons (by simp [PV.ids, refInM]) (forall_cons rfl forall_nil)))), (forall_cons rfl forall_nil)⟩) (fun x => ?_); obtain ⟨⟨k, acc⟩, hk, hI⟩ := x; simp only at hk hI ⊢
          have hacc : acc.length ≤ l.length + 1 := by rw [← ins_len l f, ← hI, List.length_append]; omega
          have hrm := room1 (show acc.length + 1 ≤ 1000000 by omega) (show 96 ≤ 1000 by omega)
          have second : ∀ (acc : List Fd) (k : Nat) (hk : k ≤ l.length), (acc ++ [f]) ++ l.drop k = insM l f → True := fun _ _ _ _ => trivial
          by_cases h : (k : Int) < (l.length : Int)
          · (have hka : k < (l).length := by omega); (have w1 := w64s hka (hm)); (have i1 : (0 : Int) ≤ (k : Int) := by omega)
            have hL := RLess_pure (l.getD k default).at' f.at'
            rw [drop_cons' hka (d := default)] at hI
            cases hb : lessB (l.getD k default).at' f.at'
            · rw [hb] at hL
              rw [ins_f hb] at hI
              simp only [go_sem, flds, fcells]
              refine vDrawQ (by kernel_rfl) (by kernel_rfl) ?_
              simp only [go_sem, h, i1, getD_fld hka, fld]
              refine vCall_of (hL) ?_ ?_ ?_; (focus simp only [go_sem, ref]); (focus simp only [go_sem, ref])
              simp only [go_sem, fld, sized_fld, hrm]
              refine awp_moveRow 6 51 62 (acc.length + 1) 7 41 ((acc ++ [f]).map fld) (by simp [upd, fld]) rfl rfl ?_
              refine vLoopM (ι := WB l f) 66 (fun x => [(0, flds l), (6, .sl (.row 62) (x.acc.map fld)), (7, .int .i64 (x.k : Int))]) (fun x => []) (fun x => [(62, .live x.acc.length 7 41)]) (fun x => l.length - x.k) ⟨k, acc ++ [f], hk, by rw [drop_cons' hka (d := default), ← hI]; simp⟩
                ⟨rfl, forall_cons rfl (forall_cons rfl (forall_cons rfl (forall_nil))), forall_nil, forall_cons (by simp [upd, Hp.setq, St.with]) forall_nil⟩ (fun x => ⟨forall_cons rfl (forall_cons (by simp [PV.ids, refInM]) (forall_cons rfl (forall_nil))), forall_nil⟩) (fun x => ?_)
              obtain ⟨k2, acc2, hk2, hx2⟩ := x
              simp only
              have hacc2 : acc2.length ≤ l.length + 1 := by rw [← ins_len l f, ← hx2, List.length_append]; omega
              have hrm2 := room1 (show acc2.length + 1 ≤ 1000000 by omega) (show 96 ≤ 1000 by omega)
              by_cases h' : (k2 : Int) < (l.length : Int)
              · have hka2 : k2 < l.length := by omega
                have w2 := w64s hka2 hm
                have i2 : (0 : Int) ≤ (k2 : Int) := by omega
                rw [drop_cons' hka2 (d := default)] at hx2
                simp only [go_sem, flds, h', i2, getD_fld hka2, fld, sized_fld, hrm2, w2]
                exact ⟨⟨k2 + 1, acc2 ++ [l.getD k2 default], by omega, by rw [← hx2]; simp⟩, by show l.length - (k2 + 1) < l.length - k2; omega, ⟨rfl, forall_cons rfl (forall_cons (by simp [upd, fld]) (forall_cons rfl (forall_nil))), forall_nil, forall_cons (by simp [upd]) forall_nil⟩⟩
              · obtain rfl : k2 = l.length := by omega
                rw [List.drop_length, List.append_nil] at hx2
                subst hx2
                simp only [go_sem, flds, h', fldsc]
            · rw [hb] at hL
              rw [ins_t hb] at hI
              simp only [go_sem, flds, fcells]
              refine vDrawQ (by kernel_rfl) (by kernel_rfl) ?_
              simp only [go_sem, h, i1, getD_fld hka, fld]
              refine vCall_of (hL) ?_ ?_ ?_; (focus simp only [go_sem, ref]); (focus simp only [go_sem, ref])
              simp only [go_sem, h, i1, getD_fld hka, fld, sized_fld, hrm, w1]
              exact ⟨⟨(k + 1, acc ++ [l.getD k default]), by (try simp only); omega, by rw [← hI]; simp⟩, by show (l).length - (k + 1) < (l).length - k; omega, ⟨rfl, (forall_cons rfl (forall_cons rfl (forall_cons (by simp [upd, fld]) (forall_cons rfl forall_nil)))), (forall_cons ⟨rfl, rfl⟩ forall_nil), (forall_cons (by simp [upd]) forall_nil)⟩⟩
          · obtain rfl : k = l.length := by omega
            simp only [go_sem, flds, fcells]
            refine vDrawQ (by kernel_rfl) (by kernel_rfl) ?_
            simp only [go_sem, h, fld, sized_fld, hrm]
            refine awp_moveRow 6 51 62 (acc.length + 1) 7 41 ((acc ++ [f]).map fld) (by simp [upd, fld]) rfl rfl ?_
            refine vLoopM (ι := WB l f) 66 (fun x => [(0, flds l), (6, .sl (.row 62) (x.acc.map fld)), (7, .int .i64 (x.k : Int))]) (fun x => []) (fun x => [(62, .live x.acc.length 7 41)]) (fun x => l.length - x.k) ⟨l.length, acc ++ [f], hk, by rw [← hI]; simp [insM]⟩
                ⟨rfl, forall_cons rfl (forall_cons rfl (forall_cons rfl (forall_nil))), forall_nil, forall_cons (by simp [upd, Hp.setq, St.with]) forall_nil⟩ (fun x => ⟨forall_cons rfl (forall_cons (by simp [PV.ids, refInM]) (forall_cons rfl (forall_nil))), forall_nil⟩) (fun x => ?_)
            obtain ⟨k2, acc2, hk2, hx2⟩ := x
            simp only
            have hacc2 : acc2.length ≤ l.length + 1 := by rw [← ins_len l f, ← hx2, List.length_append]; omega
            have hrm2 := room1 (show acc2.length + 1 ≤ 1000000 by omega) (show 96 ≤ 1000 by omega)
            by_cases h' : (k2 : Int) < (l.length : Int)
            · have hka2 : k2 < l.length := by omega
              have w2 := w64s hka2 hm
              have i2 : (0 : Int) ≤ (k2 : Int) := by omega
              rw [drop_cons' hka2 (d := default)] at hx2
              simp only [go_sem, flds, h', i2, getD_fld hka2, fld, sized_fld, hrm2, w2]
              exact ⟨⟨k2 + 1, acc2 ++ [l.getD k2 default], by omega, by rw [← hx2]; simp⟩, by show l.length - (k2 + 1) < l.length - k2; omega, ⟨rfl, forall_cons rfl (forall_cons (by simp [upd, fld]) (forall_cons rfl (forall_nil))), forall_nil, forall_cons (by simp [upd]) forall_nil⟩⟩
            · obtain rfl : k2 = l.length := by omega
              rw [List.drop_length, List.append_nil] at hx2
              subst hx2
              simp only [go_sem, flds, h', fldsc]
set_option maxRecDepth 20000 in
set_option maxHeartbeats 8000000 in
theorem RWithout_pure (l : List Fd) (r : Rf) (hl : OkFs l) : PL.Pure Tryz.prog 112 [flds l, ref r] (fldsc (withoutM l r)) := by
  have hn := hl.n
  have hm : l.length ≤ maxLen := by rw [maxLen_eq]; omega
  have hR := RRightL_pure l hm (fun g hg => by have := hl.c g hg; rw [maxLen_eq]; omega)
  have hI : PL.Pure Tryz.prog 111 [flds l, ref r] (.int .i64 (idx (atF r) l)) := RAt_pure l r hm
  unfold withoutM
  cases hr : rightL l
  · rw [hr] at hR
    refine PL.Pure.of_v Tryz.func112 (by decide) rfl Tryz.ntmps112 Tryz.results112 (by simp) (fldsc_dids _) ?_
    simp only [go_sem, flds, ref]
    refine vCall_of (hR) ?_ ?_ ?_; (focus simp only [go_sem, flds]); (focus simp only [go_sem, flds])
    simp only [go_sem, fldsc, flds, List.map_nil, if_true]
  · rw [hr] at hR
    rcases idx_cases (atF r) l with h2 | ⟨g, hg, h2⟩
    · rw [h2] at hI ⊢
      refine PL.Pure.of_v Tryz.func112 (by decide) rfl Tryz.ntmps112 Tryz.results112 (by simp) (fldsc_dids _) ?_
      simp only [go_sem, flds, ref]
      refine vCall_of (hR) ?_ ?_ ?_; (focus simp only [go_sem, flds]); (focus simp only [go_sem, flds])
      simp only [go_sem, flds]
      refine vCall_of (hI) ?_ ?_ ?_; (focus simp only [go_sem, flds, ref]); (focus simp only [go_sem, flds, ref])
      simp only [go_sem, fldsc, flds, List.map_nil]
    · have i3 : ¬ (g : Int) < 0 := by omega
      have hrise := (right_iff.1 hr).2.1
      have hgl : (l.getD g default).at' = r := by
        rcases atF_idx l r with ⟨e, _⟩ | ⟨i, hi, e, hat⟩
        · rw [e] at h2; omega
        · have : i = g := by rw [e] at h2; omega
          subst this; rw [getD_lt hi]; exact hat
      rw [h2] at hI
      rw [h2, if_neg i3]
      simp only [Bool.true_eq_false, if_false, Int.toNat_natCast]
      refine PL.Pure.of_v Tryz.func112 (by decide) rfl Tryz.ntmps112 Tryz.results112 (by simp) (fldsc_dids _) ?_
      simp only [go_sem, flds, ref]
      refine vCall_of (hR) ?_ ?_ ?_; (focus simp only [go_sem, flds]); (focus simp only [go_sem, flds])
      simp only [go_sem, flds]
      refine vCall_of (hI) ?_ ?_ ?_; (focus simp only [go_sem, flds, ref]); (focus simp only [go_sem, flds, ref])
      simp only [go_sem, flds, i3]
      refine awp_moveRow 6 15 35 0 7 41 [] rfl rfl rfl ?_
      refine vLoopM (ι := { x : Nat × (List Fd) // x.1 ≤ (l).length ∧ (x.2 = (l.take x.1).eraseIdx g) }) 37 (fun x => [(0, flds l), (3, .ptr 3 0), (6, .sl (.row 35) (x.1.2.map fld)), (7, .int .i64 (x.1.1 : Int))]) (fun x => [(3, [.int .i64 r.sc, .str r.gr, .str r.nm], false)]) (fun x => [(35, .live (x.1.2.length) (7) (41))]) (fun x => (l).length - x.1.1) ⟨(0, []), Nat.zero_le _, rfl⟩ ⟨rfl, (forall_cons rfl (forall_cons rfl (forall_cons rfl (forall_cons rfl forall_nil)))), (forall_cons ⟨rfl, rfl⟩ forall_nil), (forall_cons rfl forall_nil)⟩ (fun x => ⟨(forall_cons rfl (forall_cons rfl (forall_cons (by simp [PV.ids, refInM]) (forall_cons rfl forall_nil)))), (forall_cons rfl forall_nil)⟩) (fun x => ?_); obtain ⟨⟨k, acc⟩, hk, hI⟩ := x; simp only at hk hI ⊢
      have hacc : acc.length ≤ l.length := by
        rw [hI]; exact Nat.le_trans (List.length_eraseIdx_le _ _) (take_le_len _ _)
      by_cases h : (k : Int) < (l.length : Int)
      · (have hka : k < (l).length := by omega); (have w1 := w64s hka (hm)); (have i1 : (0 : Int) ≤ (k : Int) := by omega)
        have hrm := room1 (show acc.length + 1 ≤ 1000000 by omega) (show 96 ≤ 1000 by omega)
        have hs := erase_snoc (l := l) (k := k) (g := g) (d := default) hka
        by_cases he : k = g
        · have hd : decide ((l.getD k default).at' = r) = true := by rw [he, hgl]; simp
          rw [if_pos he, List.append_nil] at hs
          simp only [go_sem, flds, h]
          refine vDrawQ (by kernel_rfl) (by kernel_rfl) ?_
          simp only [go_sem, getD_fld hka, fld, i1, h, ref_fold, hd, Bool.not_true, w1]
          exact ⟨⟨(k + 1, acc), by (try simp only); omega, by simp only; rw [hs, hI]⟩, by show (l).length - (k + 1) < (l).length - k; omega, ⟨rfl, (forall_cons rfl (forall_cons rfl (forall_cons (by simp [upd, fld]) (forall_cons rfl forall_nil)))), (forall_cons ⟨rfl, rfl⟩ forall_nil), (forall_cons (by simp [upd]) forall_nil)⟩⟩
        · have hd : decide ((l.getD k default).at' = r) = false := by
            rw [decide_eq_false_iff_not]
            intro e
            have hkm := getD_mem (d := default) hka
            have hgm := getD_mem (d := default) hg
            have hp := hrise
            rw [Rise, List.pairwise_iff_getElem] at hp
            rcases Nat.lt_or_gt_of_ne he with h' | h'
            · have := hp k g hka hg h'
              rw [← getD_lt (d := default) hka, ← getD_lt (d := default) hg, e, hgl, lb_irrefl] at this
              cases this
            · have := hp g k hg hka h'
              rw [← getD_lt (d := default) hka, ← getD_lt (d := default) hg, e, hgl, lb_irrefl] at this
              cases this
          rw [if_neg he] at hs
          simp only [go_sem, flds, h]
          refine vDrawQ (by kernel_rfl) (by kernel_rfl) ?_
          simp only [go_sem, getD_fld hka, fld, i1, h, ref_fold, hd, Bool.not_false, sized_fld, hrm, w1]
          exact ⟨⟨(k + 1, acc ++ [l.getD k default]), by (try simp only); omega, by simp only; rw [hs, hI]⟩, by show (l).length - (k + 1) < (l).length - k; omega, ⟨rfl, (forall_cons rfl (forall_cons rfl (forall_cons (by simp [upd, fld]) (forall_cons rfl forall_nil)))), (forall_cons ⟨rfl, rfl⟩ forall_nil), (forall_cons (by simp [upd]) forall_nil)⟩⟩
      · obtain rfl : k = l.length := by omega
        rw [List.take_length] at hI
        subst hI
        simp only [go_sem, h, flds, fldsc]
set_option maxHeartbeats 4000000 in
theorem Rput_pure (l : List Fd) (f : Fd) (ok : Bool) (hl : OkFs l) (hf : f.cases'.length ≤ 1000000) : PL.Pure Tryz.prog 114 [flds l, fld f, .bool ok] (fldsb (putR l f ok)) := by
  have hW := RWith_pure l f hl hf
  unfold putR
  generalize withM l f = y at *
  obtain ⟨m, c⟩ := y
  cases ok
  · refine PL.Pure.of_v Tryz.func114 (by decide) rfl Tryz.ntmps114 Tryz.results114 (by simp) (fldsb_dids _) ?_
    simp only [go_sem, flds, fld]
    refine vCall_of (hW) ?_ ?_ ?_; (focus simp only [go_sem, flds, fld]); (focus simp only [go_sem, flds, fld])
    simp only [go_sem, fldsc, flds, fldsb, Bool.false_and]
  · by_cases hc : c = 0
    · subst hc
      refine PL.Pure.of_v Tryz.func114 (by decide) rfl Tryz.ntmps114 Tryz.results114 (by simp) (fldsb_dids _) ?_
      simp only [go_sem, flds, fld]
      refine vCall_of (hW) ?_ ?_ ?_; (focus simp only [go_sem, flds, fld]); (focus simp only [go_sem, flds, fld])
      simp only [go_sem, fldsc, flds, fldsb, decide_true, Bool.and_self]
    · have e : (c == 0) = false := by simpa using hc
      refine PL.Pure.of_v Tryz.func114 (by decide) rfl Tryz.ntmps114 Tryz.results114 (by simp) (fldsb_dids _) ?_
      simp only [go_sem, flds, fld]
      refine vCall_of (hW) ?_ ?_ ?_; (focus simp only [go_sem, flds, fld]); (focus simp only [go_sem, flds, fld])
      simp only [go_sem, fldsc, flds, fldsb, e, hc, decide_false, Bool.and_false]
set_option maxHeartbeats 4000000 in
theorem Rmoved_pure (f : Fd) (r : Rf) : PL.Pure Tryz.prog 115 [fld f, ref r] (fld (movedF f r)) := by
  refine PL.Pure.of_v Tryz.func115 (by decide) rfl Tryz.ntmps115 Tryz.results115 (by simp) (fld_dids _) ?_
  simp only [go_sem, fld, ref, movedF]
set_option maxHeartbeats 4000000 in
theorem Rnamed_pure (r : Rf) (s : Str) : PL.Pure Tryz.prog 150 [ref r, .str s] (ref (named r s)) := by
  refine PL.Pure.of_v Tryz.func150 (by decide) rfl Tryz.ntmps150 Tryz.results150 (by simp) (ref_dids _) ?_
  simp only [go_sem, ref, named]
set_option maxRecDepth 20000 in
set_option maxHeartbeats 8000000 in
theorem RGoes_pure (x : Ln) : PL.Pure Tryz.prog 110 [lns x] (refs (goesR x)) := by
  have h1 := Rnamed_pure x.at' x.nm
  have h2 := Rnamed_pure x.at' x.ot
  refine PL.Pure.of_v Tryz.func110 (by decide) rfl Tryz.ntmps110 Tryz.results110 (by simp) (refs_dids _) ?_
  simp only [go_sem, lns]
  repeat' (first | (refine vGuard_t (fun h => ?_) (fun h => ?_) <;> (try simp only [go_sem, h, ref])) | (refine vGuard_f (fun h => ?_) (fun h => ?_) <;> (try simp only [go_sem, h, ref])) | (refine vCond_b (fun h => ?_) (fun h => ?_) <;> (try simp only [go_sem, h, ref])) | ((refine vCall_of (h1) ?_ ?_ ?_); (focus simp only [go_sem, lns, ref]); (focus exact rfl); (try simp only [go_sem, ref])) | ((refine vCall_of (h2) ?_ ?_ ?_); (focus simp only [go_sem, lns, ref]); (focus exact rfl); (try simp only [go_sem, ref])) | ((refine vDrawQ (by kernel_rfl) (by kernel_rfl) ?_); (try simp only [go_sem, ref])))
  all_goals (clear h1 h2; simp_all [goesR, refs, named, ref])
set_option maxRecDepth 20000 in
set_option maxHeartbeats 8000000 in
theorem RComes_pure (x : Ln) : PL.Pure Tryz.prog 113 [lns x] (refs (comesR x)) := by
  have h1 := Rnamed_pure x.at' x.nm
  have h2 := Rnamed_pure x.at' x.ot
  refine PL.Pure.of_v Tryz.func113 (by decide) rfl Tryz.ntmps113 Tryz.results113 (by simp) (refs_dids _) ?_
  simp only [go_sem, lns]
  repeat' (first | (refine vGuard_t (fun h => ?_) (fun h => ?_) <;> (try simp only [go_sem, h, ref])) | (refine vGuard_f (fun h => ?_) (fun h => ?_) <;> (try simp only [go_sem, h, ref])) | (refine vCond_b (fun h => ?_) (fun h => ?_) <;> (try simp only [go_sem, h, ref])) | ((refine vCall_of (h1) ?_ ?_ ?_); (focus simp only [go_sem, lns, ref]); (focus exact rfl); (try simp only [go_sem, ref])) | ((refine vCall_of (h2) ?_ ?_ ?_); (focus simp only [go_sem, lns, ref]); (focus exact rfl); (try simp only [go_sem, ref])) | ((refine vDrawQ (by kernel_rfl) (by kernel_rfl) ?_); (try simp only [go_sem, ref])))
  all_goals (clear h1 h2; simp_all [comesR, refs, named, ref])
end Go.Proofs.YtcomkajmhlhphaaGreat
