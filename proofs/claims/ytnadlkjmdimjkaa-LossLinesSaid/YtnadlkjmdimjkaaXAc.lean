/- Contracts of functions and laws of this seat, each for every input that it names: lemmas of the proof. -/
import Derived.Test.YtnadlkjmdimjkaaXAa
set_option linter.unusedSimpArgs false
set_option linter.unusedVariables false
set_option linter.unusedSimpArgs false
set_option linter.unusedVariables false
namespace Go.Proofs.Ytnadlkjmdimjkaa
open Go.PL
/-- the first place at which something holds, or -1 -/
def idx {α : Type} (p : α → Bool) (l : List α) : Int := match l.findIdx? p with | some i => (i : Int) | none => -1
theorem idx_found {α : Type} {p : α → Bool} {l : List α} {k : Nat} {d : α} (hk : k < l.length) (h : ∀ j, j < k → p (l.getD j d) = false) (hp : p (l.getD k d) = true) : idx p l = k := by
  have : l.findIdx? p = some k := by
    rw [List.findIdx?_eq_some_iff_getElem]
    refine ⟨hk, ?_, fun j hj => ?_⟩
    · simpa [List.getD_eq_getElem?_getD, hk] using hp
    · have := h j hj
      simp [List.getD_eq_getElem?_getD, show j < l.length by omega] at this
      simp [this]
  simp [idx, this]
theorem idx_none {α : Type} {p : α → Bool} {l : List α} {d : α} (h : ∀ j, j < l.length → p (l.getD j d) = false) : idx p l = -1 := by
  have : l.findIdx? p = none := by
    rw [List.findIdx?_eq_none_iff]
    intro x hx
    obtain ⟨j, hj, rfl⟩ := List.getElem_of_mem hx
    have := h j hj
    simpa [List.getD_eq_getElem?_getD, hj] using this
  simp [idx, this]
/-- one more place at which nothing is -/
theorem below_succ {p : Nat → Prop} {k : Nat} (h : ∀ j, j < k → p j) (hk : p k) : ∀ j, j < k + 1 → p j := fun j hj => by
  rcases Nat.lt_or_ge j k with h1 | h1
  · exact h j h1
  · obtain rfl : j = k := by omega
    exact hk
end Go.Proofs.Ytnadlkjmdimjkaa

set_option linter.unusedSimpArgs false
set_option linter.unusedVariables false
set_option linter.unusedSimpArgs false
set_option linter.unusedVariables false
namespace Go.Proofs.Ytnadlkjmdimjkaa
open Go.PL
theorem any_true {α : Type} {p : α → Bool} {l : List α} {k : Nat} {d : α} (hk : k < l.length) (h : p (l.getD k d) = true) : l.any p = true :=
  List.any_eq_true.2 ⟨_, getD_mem' hk, h⟩
theorem any_false {α : Type} {p : α → Bool} {l : List α} {d : α} (h : ∀ j, j < l.length → p (l.getD j d) = false) : l.any p = false := by
  rw [List.any_eq_false]
  intro x hx
  obtain ⟨j, hj, rfl⟩ := List.getElem_of_mem hx
  have := h j hj
  simpa [List.getD_eq_getElem?_getD, hj] using this
end Go.Proofs.Ytnadlkjmdimjkaa

set_option linter.unusedSimpArgs false
set_option linter.unusedVariables false
set_option linter.unusedSimpArgs false
set_option linter.unusedVariables false
namespace Go.Proofs.Ytnadlkjmdimjkaa
open Go.PL
@[go_sem] theorem arr_empty {α : Type} : (#[] : Array α).isEmpty = true := rfl
theorem idx_cases {α : Type} (p : α → Bool) (l : List α) : idx p l = -1 ∨ ∃ k : Nat, k < l.length ∧ idx p l = k := by
  unfold idx
  cases h : l.findIdx? p with
  | none => exact .inl rfl
  | some k =>
    rw [List.findIdx?_eq_some_iff_getElem] at h
    exact .inr ⟨k, h.1, rfl⟩
theorem room_small {n b : Nat} (hn : n ≤ 100000000000) (hb : b ≤ 1000) : Room n b := by
  refine ⟨?_, by unfold maxLen; omega⟩
  calc n * b ≤ 100000000000 * 1000 := Nat.mul_le_mul hn hb
    _ ≤ 140737488355328 := by decide
@[go_sem] theorem sized_nil (n : Nat) : Sized n [] = True := by simp [Sized]
@[go_sem] theorem sized_cons (n : Nat) (e : PV) (l : List PV) : Sized n (e :: l) = (e.cells.length = n ∧ Sized n l) := by simp [Sized]
@[go_sem] theorem atoms_nil : Atoms [] = True := by simp [Atoms]
@[go_sem] theorem atoms_cons (e : PV) (l : List PV) : Atoms (e :: l) = (e.cells.all PV.atom = true ∧ Atoms l) := by simp [Atoms]
theorem sized_str (l : List Str) : Sized 1 (l.map .str) := fun e he => by
  obtain ⟨x, _, rfl⟩ := List.mem_map.1 he; rfl
theorem atoms_str (l : List Str) : Atoms (l.map .str) := fun e he => by
  obtain ⟨x, _, rfl⟩ := List.mem_map.1 he; rfl
theorem didsL_str (l : List Str) : PV.didsL (l.map .str) = [] := by
  induction l with
  | nil => rfl
  | cons t l ih => simp only [List.map_cons, PV.didsL, ih, PV.dids, List.append_nil]
end Go.Proofs.Ytnadlkjmdimjkaa

set_option linter.unusedSimpArgs false
set_option linter.unusedVariables false
set_option linter.unusedSimpArgs false
set_option linter.unusedVariables false
namespace Go.Proofs.Ytnadlkjmdimjkaa
open Go.PL
attribute [go_sem] Bool.not_eq_true'
theorem beq_nil {s : Str} (h : s = []) : (s == []) = true := by rw [h]; rfl
theorem beq_nil' {s : Str} (h : ¬ s = []) : (s == []) = false := beq_eq_false_iff_ne.2 h
end Go.Proofs.Ytnadlkjmdimjkaa

set_option linter.unusedSimpArgs false
set_option linter.unusedVariables false
set_option linter.unusedSimpArgs false
set_option linter.unusedVariables false
namespace Go.Proofs.Ytnadlkjmdimjkaa
open Go.PL
structure Fd where
  at' : Rf
  kind : Int
  df : Str
  cases' : List Str
  worth : Int
  deriving DecidableEq, Inhabited
def fld (f : Fd) : PV := .agg [.int .i64 f.at'.sc, .str f.at'.gr, .str f.at'.nm, .int .i64 f.kind, .str f.df, .sl .no (f.cases'.map .str), .int .i64 f.worth]
def flds (l : List Fd) : PV := .sl .no (l.map fld)
theorem getD_fld {l : List Fd} {i : Nat} (h : i < l.length) : (l.map fld).getD i .any = fld (l.getD i default) := by
  simp [List.getD_eq_getElem?_getD, h]
attribute [go_sem] partsOk
theorem take_snoc {α : Type} {l : List α} {k : Nat} (h : k < l.length) {d : α} : l.take (k + 1) = l.take k ++ [l.getD k d] := by
  rw [List.take_succ_eq_append_getElem h, List.getD_eq_getElem?_getD, List.getElem?_eq_getElem h]; rfl
def rootL : List Fd := [⟨⟨0, [], [99, 111, 117, 112, 111, 110]⟩, 2, [], [], 0⟩, ⟨⟨1, [], [110, 111, 116, 101]⟩, 2, [], [], 0⟩, ⟨⟨1, [], [113, 116, 121]⟩, 1, [], [], 1⟩,
  ⟨⟨1, [], [115, 105, 122, 101]⟩, 3, [109, 101, 100, 105, 117, 109], [[115, 109, 97, 108, 108], [109, 101, 100, 105, 117, 109], [108, 97, 114, 103, 101]], 0⟩, ⟨⟨1, [], [116, 97, 103, 115]⟩, 4, [], [], 0⟩]
theorem sized_fld (l : List Fd) : Sized 7 (l.map fld) := fun e he => by
  obtain ⟨x, _, rfl⟩ := List.mem_map.1 he; rfl
theorem didsL_fld (l : List Fd) : PV.didsL (l.map fld) = [] := by
  induction l with
  | nil => rfl
  | cons e l ih => rw [List.map_cons, PV.didsL, ih]; simp only [fld, PV.dids, PV.didsL, didsL_str, List.append_nil]
theorem flds_dids (l : List Fd) : (flds l).dids = [] := by simp only [flds, PV.dids, didsL_fld]
end Go.Proofs.Ytnadlkjmdimjkaa

set_option linter.unusedSimpArgs false
set_option linter.unusedVariables false
set_option linter.unusedSimpArgs false
set_option linter.unusedVariables false
namespace Go.Proofs.Ytnadlkjmdimjkaa
open Go.PL
@[go_sem] theorem cast0 : ((0 : Nat) : Int) = 0 := rfl
@[go_sem] theorem cast1 : ((1 : Nat) : Int) = 1 := rfl
attribute [go_sem] Int.cast_ofNat_Int
def nm (s : Str) (i : Nat) : Int := ((s.getD i 0).toNat : Int)
def okAt (s : Str) (i : Nat) : Bool := decide (97 ≤ nm s i ∧ nm s i ≤ 122) || (decide (48 ≤ nm s i ∧ nm s i ≤ 57) && decide (i ≠ 0))
def nameB (s : Str) : Bool := decide (1 ≤ s.length ∧ s.length ≤ 12) && (List.range s.length).all (okAt s)
theorem nm_fold (s : Str) (i : Nat) : ((s.getD i 0).toNat : Int) = nm s i := rfl
set_option maxRecDepth 20000 in
set_option maxHeartbeats 4000000 in
theorem Name_pure (s : Str) : PL.Pure Try.prog 37 [.str s] (.bool (nameB s)) := by
  by_cases h1 : (s.length : Int) < 1
  · have hx : nameB s = false := by simp only [nameB, show ¬ (1 ≤ s.length ∧ s.length ≤ 12) by omega, decide_false, Bool.false_and]
    refine PL.Pure.of_v Try.func37 (by decide) rfl Try.ntmps37 Try.results37 (by simp) rfl ?_
    simp only [go_sem, h1, hx]
  · by_cases h2 : (12 : Int) < (s.length : Int)
    · have hx : nameB s = false := by simp only [nameB, show ¬ (1 ≤ s.length ∧ s.length ≤ 12) by omega, decide_false, Bool.false_and]
      refine PL.Pure.of_v Try.func37 (by decide) rfl Try.ntmps37 Try.results37 (by simp) rfl ?_
      simp only [go_sem, h1, h2, hx]
    · have hn : nameB s = (List.range s.length).all (okAt s) := by simp only [nameB, show (1 ≤ s.length ∧ s.length ≤ 12) by omega, and_self, decide_true, Bool.true_and]
      refine PL.Pure.of_v Try.func37 (by decide) rfl Try.ntmps37 Try.results37 (by simp) rfl ?_
      simp only [go_sem, h1, h2]
      refine vLoopM (ι := { k : Nat // k ≤ s.length ∧ ∀ j, j < k → okAt s j = true }) 50 (fun x => [(0, .str s), (15, .int .i64 (s.length : Int)), (16, .int .i64 (x.1 : Int))]) (fun x => []) (fun x => []) (fun x => s.length - x.1) ⟨0, by omega, fun j hj => by omega⟩
        ⟨rfl, (forall_cons rfl (forall_cons rfl (forall_cons rfl (forall_nil)))), forall_nil, forall_nil⟩ (fun x => ⟨(forall_cons rfl (forall_cons rfl (forall_cons rfl (forall_nil)))), forall_nil⟩) (fun x => ?_)
      obtain ⟨k, hk, hall⟩ := x
      simp only
      by_cases h : (k : Int) < (s.length : Int)
      · have hka : k < s.length := by omega
        have w1 : IntKind.i64.wrap ((k : Int) + 1) = ((k + 1 : Nat) : Int) := by rw [w64 (by omega)]; rfl
        have i1 : (0 : Int) ≤ (k : Int) := by omega
        cases ho : okAt s k
        · have hx : nameB s = false := by
            rw [hn, List.all_eq_false]
            exact ⟨k, by simpa using hka, by simp [ho]⟩
          simp only [okAt, Bool.or_eq_false_iff, decide_eq_false_iff_not, Bool.and_eq_false_iff] at ho
          by_cases g1 : 97 ≤ nm s k
          · have g2 : ¬ nm s k ≤ 122 := by omega
            have g3 : 48 ≤ nm s k := by omega
            have g4 : ¬ nm s k ≤ 57 := by omega
            simp only [go_sem, h, i1, nm_fold, g1, g2, g3, g4, hx]
          · by_cases g3 : 48 ≤ nm s k
            · by_cases g4 : nm s k ≤ 57
              · have hk0 : ((k : Int) == 0) = true := by
                  rw [beq_iff_eq]
                  rcases ho.2 with h' | h' <;> omega
                simp only [go_sem, h, i1, nm_fold, g1, g3, g4, hk0, hx]
              · simp only [go_sem, h, i1, nm_fold, g1, g3, g4, hx]
            · simp only [go_sem, h, i1, nm_fold, g1, g3, hx]
        · have nx : ∀ j, j < k + 1 → okAt s j = true := below_succ hall ho
          simp only [okAt, Bool.or_eq_true, decide_eq_true_eq, Bool.and_eq_true] at ho
          by_cases g1 : 97 ≤ nm s k
          · have g2 : nm s k ≤ 122 := by omega
            have g3 : 48 ≤ nm s k := by omega
            have g4 : ¬ nm s k ≤ 57 := by omega
            simp only [go_sem, h, i1, nm_fold, g1, g2, g3, g4, w1]
            exact ⟨⟨k + 1, by omega, nx⟩, by show s.length - (k + 1) < s.length - k; omega, ⟨rfl, (forall_cons rfl (forall_cons rfl (forall_cons rfl (forall_nil)))), forall_nil, forall_nil⟩⟩
          · have g3 : 48 ≤ nm s k := by omega
            have g4 : nm s k ≤ 57 := by omega
            have hk0 : ((k : Int) == 0) = false := beq_eq_false_iff_ne.2 (by omega)
            simp only [go_sem, h, i1, nm_fold, g1, g3, g4, hk0, w1]
            exact ⟨⟨k + 1, by omega, nx⟩, by show s.length - (k + 1) < s.length - k; omega, ⟨rfl, (forall_cons rfl (forall_cons rfl (forall_cons rfl (forall_nil)))), forall_nil, forall_nil⟩⟩
      · have hx : nameB s = true := by
          rw [hn, List.all_eq_true]
          intro j hj
          exact hall j (by have := List.mem_range.1 hj; omega)
        simp only [go_sem, h, hx]
def placeB (r : Rf) : Bool := (decide (r.sc = 0) || decide (r.sc = 1)) && (nameB r.nm && (decide (r.gr = []) || nameB r.gr))
set_option maxRecDepth 20000 in
set_option maxHeartbeats 4000000 in
theorem Place_pure (r : Rf) : PL.Pure Try.prog 23 [ref r] (.bool (placeB r)) := by
  have hN := Name_pure r.nm
  have hG := Name_pure r.gr
  by_cases hs : r.sc = 0 ∨ r.sc = 1
  · have hs' : (decide (r.sc = 0) || decide (r.sc = 1)) = true := by simpa using hs
    have key : PL.Pure Try.prog 23 [ref r] (.bool (nameB r.nm && (decide (r.gr = []) || nameB r.gr))) := by
      cases hn : nameB r.nm
      · rw [hn] at hN
        rcases hs with h0 | h1
        · have q : (r.sc != 0) = false := by rw [h0]; rfl
          refine PL.Pure.of_v Try.func23 (by decide) rfl Try.ntmps23 Try.results23 (by simp) rfl ?_
          simp only [go_sem, ref, q]
          refine vCall_of (hN) ?_ ?_ ?_; (focus simp only [go_sem]); (focus simp only [go_sem])
          simp only [go_sem, Bool.false_and]
        · have q : (r.sc != 0) = true := by rw [h1]; rfl
          have q1 : (r.sc != 1) = false := by rw [h1]; rfl
          refine PL.Pure.of_v Try.func23 (by decide) rfl Try.ntmps23 Try.results23 (by simp) rfl ?_
          simp only [go_sem, ref, q, q1]
          refine vCall_of (hN) ?_ ?_ ?_; (focus simp only [go_sem]); (focus simp only [go_sem])
          simp only [go_sem, Bool.false_and]
      · rw [hn] at hN
        by_cases hg : r.gr = []
        · have hg' := beq_nil hg
          rcases hs with h0 | h1
          · have q : (r.sc != 0) = false := by rw [h0]; rfl
            refine PL.Pure.of_v Try.func23 (by decide) rfl Try.ntmps23 Try.results23 (by simp) rfl ?_
            simp only [go_sem, ref, q]
            refine vCall_of (hN) ?_ ?_ ?_; (focus simp only [go_sem]); (focus simp only [go_sem])
            simp only [go_sem, Bool.true_and, hg', decide_eq_true hg, Bool.true_or]
          · have q : (r.sc != 0) = true := by rw [h1]; rfl
            have q1 : (r.sc != 1) = false := by rw [h1]; rfl
            refine PL.Pure.of_v Try.func23 (by decide) rfl Try.ntmps23 Try.results23 (by simp) rfl ?_
            simp only [go_sem, ref, q, q1]
            refine vCall_of (hN) ?_ ?_ ?_; (focus simp only [go_sem]); (focus simp only [go_sem])
            simp only [go_sem, Bool.true_and, hg', decide_eq_true hg, Bool.true_or]
        · have hg' := beq_nil' hg
          rcases hs with h0 | h1
          · have q : (r.sc != 0) = false := by rw [h0]; rfl
            refine PL.Pure.of_v Try.func23 (by decide) rfl Try.ntmps23 Try.results23 (by simp) rfl ?_
            simp only [go_sem, ref, q]
            refine vCall_of (hN) ?_ ?_ ?_; (focus simp only [go_sem]); (focus simp only [go_sem])
            simp only [go_sem, hg']
            refine vCall_of (hG) ?_ ?_ ?_; (focus simp only [go_sem]); (focus simp only [go_sem])
            simp only [go_sem, Bool.true_and, decide_eq_false hg, Bool.false_or]
          · have q : (r.sc != 0) = true := by rw [h1]; rfl
            have q1 : (r.sc != 1) = false := by rw [h1]; rfl
            refine PL.Pure.of_v Try.func23 (by decide) rfl Try.ntmps23 Try.results23 (by simp) rfl ?_
            simp only [go_sem, ref, q, q1]
            refine vCall_of (hN) ?_ ?_ ?_; (focus simp only [go_sem]); (focus simp only [go_sem])
            simp only [go_sem, hg']
            refine vCall_of (hG) ?_ ?_ ?_; (focus simp only [go_sem]); (focus simp only [go_sem])
            simp only [go_sem, Bool.true_and, decide_eq_false hg, Bool.false_or]
    simp only [placeB, hs', Bool.true_and]
    exact key
  · have q : (r.sc != 0) = true := bne_iff_ne.2 (by omega)
    have q1 : (r.sc != 1) = true := bne_iff_ne.2 (by omega)
    have hx : placeB r = false := by
      have : (decide (r.sc = 0) || decide (r.sc = 1)) = false := by simp; omega
      simp only [placeB, this, Bool.false_and]
    refine PL.Pure.of_v Try.func23 (by decide) rfl Try.ntmps23 Try.results23 (by simp) rfl ?_
    simp only [go_sem, ref, q, q1, hx]
def prefixM (r : Rf) : Str := (if r.sc = 1 then [108, 105, 110, 101] else [104, 101, 97, 100]) ++ (if r.gr = [] then [] else [46] ++ r.gr)
def printM (r : Rf) : Str := if placeB r = true then prefixM r ++ [46] ++ r.nm else [63]
theorem name_len {s : Str} (h : nameB s = true) : 1 ≤ s.length ∧ s.length ≤ 12 := by
  simp only [nameB, Bool.and_eq_true, decide_eq_true_eq] at h
  exact h.1
set_option maxRecDepth 20000 in
set_option maxHeartbeats 4000000 in
theorem Print_pure (r : Rf) : PL.Pure Try.prog 13 [ref r] (.str (printM r)) := by
  have hP := Place_pure r
  cases hp : placeB r
  · rw [hp] at hP
    refine PL.Pure.of_v Try.func13 (by decide) rfl Try.ntmps13 Try.results13 (by simp) rfl ?_
    simp only [go_sem, ref]
    refine vCall_of (hP) ?_ ?_ ?_; (focus simp only [go_sem, ref]); (focus simp only [go_sem, ref])
    simp only [go_sem, printM, hp]
  · rw [hp] at hP
    have hl : r.nm.length ≤ 12 ∧ r.gr.length ≤ 12 := by
      simp only [placeB, Bool.and_eq_true, Bool.or_eq_true, decide_eq_true_eq] at hp
      refine ⟨(name_len hp.2.1).2, ?_⟩
      rcases hp.2.2 with h | h
      · rw [h]; decide
      · exact (name_len h).2
    by_cases h1 : r.sc = 1
    · have h1' : (r.sc == 1) = true := by rw [h1]; rfl
      by_cases hg : r.gr = []
      · have hg' := beq_nil hg
        refine PL.Pure.of_v Try.func13 (by decide) rfl Try.ntmps13 Try.results13 (by simp) rfl ?_
        simp only [go_sem, ref]
        refine vCall_of (hP) ?_ ?_ ?_; (focus simp only [go_sem, ref]); (focus simp only [go_sem, ref])
        simp only [go_sem, h1', hg', printM, hp, prefixM, h1, hg, List.append_assoc]
        omega
      · have hg' := beq_nil' hg
        refine PL.Pure.of_v Try.func13 (by decide) rfl Try.ntmps13 Try.results13 (by simp) rfl ?_
        simp only [go_sem, ref]
        refine vCall_of (hP) ?_ ?_ ?_; (focus simp only [go_sem, ref]); (focus simp only [go_sem, ref])
        simp only [go_sem, h1', hg', printM, hp, prefixM, h1, hg, List.append_assoc]
        simp only [List.length_append, List.length_cons, List.length_nil]
        refine ⟨?_, ?_, ?_, ?_⟩ <;> omega
    · have h1' : (r.sc == 1) = false := beq_eq_false_iff_ne.2 h1
      by_cases hg : r.gr = []
      · have hg' := beq_nil hg
        refine PL.Pure.of_v Try.func13 (by decide) rfl Try.ntmps13 Try.results13 (by simp) rfl ?_
        simp only [go_sem, ref]
        refine vCall_of (hP) ?_ ?_ ?_; (focus simp only [go_sem, ref]); (focus simp only [go_sem, ref])
        simp only [go_sem, h1', hg', printM, hp, prefixM, h1, hg, List.append_assoc]
        omega
      · have hg' := beq_nil' hg
        refine PL.Pure.of_v Try.func13 (by decide) rfl Try.ntmps13 Try.results13 (by simp) rfl ?_
        simp only [go_sem, ref]
        refine vCall_of (hP) ?_ ?_ ?_; (focus simp only [go_sem, ref]); (focus simp only [go_sem, ref])
        simp only [go_sem, h1', hg', printM, hp, prefixM, h1, hg, List.append_assoc]
        simp only [List.length_append, List.length_cons, List.length_nil]
        refine ⟨?_, ?_, ?_, ?_⟩ <;> omega

set_option maxHeartbeats 1000000 in
theorem Text_pure (s : Str) : PL.Pure Try.prog 42 [.str s] (.bool (decide ((s.length : Int) ≤ 40))) := by
  refine PL.Pure.of_v Try.func42 (by decide) rfl Try.ntmps42 Try.results42 (by simp) rfl ?_
  simp only [go_sem]
end Go.Proofs.Ytnadlkjmdimjkaa

set_option linter.unusedSimpArgs false
set_option linter.unusedVariables false
set_option linter.unusedSimpArgs false
set_option linter.unusedVariables false
namespace Go.Proofs.Ytnadlkjmdimjkaa
open Go.PL
theorem print_len (r : Rf) : (printM r).length ≤ 40 := by
  unfold printM
  split
  · rename_i h
    simp only [placeB, Bool.and_eq_true, Bool.or_eq_true, decide_eq_true_eq] at h
    have h1 := (name_len h.2.1).2
    have h2 : r.gr.length ≤ 12 := by
      rcases h.2.2 with h | h
      · rw [h]; decide
      · exact (name_len h).2
    simp only [prefixM, List.length_append, List.length_cons, List.length_nil]
    split <;> split <;> simp only [List.length_append, List.length_cons, List.length_nil] <;> omega
  · decide
theorem strs_dids (l : List Str) : (strs l).dids = [] := by simp only [strs, PV.dids, didsL_str]
end Go.Proofs.Ytnadlkjmdimjkaa

set_option linter.unusedSimpArgs false
set_option linter.unusedVariables false
set_option linter.unusedSimpArgs false
set_option linter.unusedVariables false
namespace Go.Proofs.Ytnadlkjmdimjkaa
open Go.PL
set_option maxRecDepth 20000 in
set_option maxHeartbeats 4000000 in
theorem RName_pure (s : Str) : PL.Pure Try.prog 38 [.str s] (.bool (nameB s)) := by
  by_cases h1 : (s.length : Int) < 1
  · have hx : nameB s = false := by simp only [nameB, show ¬ (1 ≤ s.length ∧ s.length ≤ 12) by omega, decide_false, Bool.false_and]
    refine PL.Pure.of_v Try.func38 (by decide) rfl Try.ntmps38 Try.results38 (by simp) rfl ?_
    simp only [go_sem, h1, hx]
  · by_cases h2 : (12 : Int) < (s.length : Int)
    · have hx : nameB s = false := by simp only [nameB, show ¬ (1 ≤ s.length ∧ s.length ≤ 12) by omega, decide_false, Bool.false_and]
      refine PL.Pure.of_v Try.func38 (by decide) rfl Try.ntmps38 Try.results38 (by simp) rfl ?_
      simp only [go_sem, h1, h2, hx]
    · have hn : nameB s = (List.range s.length).all (okAt s) := by simp only [nameB, show (1 ≤ s.length ∧ s.length ≤ 12) by omega, and_self, decide_true, Bool.true_and]
      refine PL.Pure.of_v Try.func38 (by decide) rfl Try.ntmps38 Try.results38 (by simp) rfl ?_
      simp only [go_sem, h1, h2]
      refine vLoopM (ι := { k : Nat // k ≤ s.length ∧ ∀ j, j < k → okAt s j = true }) 50 (fun x => [(0, .str s), (3, .int .i64 (x.1 : Int))]) (fun x => []) (fun x => []) (fun x => s.length - x.1) ⟨0, by omega, fun j hj => by omega⟩
        ⟨rfl, (forall_cons rfl (forall_cons rfl (forall_nil))), forall_nil, forall_nil⟩ (fun x => ⟨(forall_cons rfl (forall_cons rfl (forall_nil))), forall_nil⟩) (fun x => ?_)
      obtain ⟨k, hk, hall⟩ := x
      simp only
      by_cases h : (k : Int) < (s.length : Int)
      · have hka : k < s.length := by omega
        have w1 : IntKind.i64.wrap ((k : Int) + 1) = ((k + 1 : Nat) : Int) := by rw [w64 (by omega)]; rfl
        have i1 : (0 : Int) ≤ (k : Int) := by omega
        cases ho : okAt s k
        · have hx : nameB s = false := by
            rw [hn, List.all_eq_false]
            exact ⟨k, by simpa using hka, by simp [ho]⟩
          simp only [okAt, Bool.or_eq_false_iff, decide_eq_false_iff_not, Bool.and_eq_false_iff] at ho
          by_cases g1 : 97 ≤ nm s k
          · have g2 : ¬ nm s k ≤ 122 := by omega
            have g3 : 48 ≤ nm s k := by omega
            have g4 : ¬ nm s k ≤ 57 := by omega
            simp only [go_sem, h, i1, nm_fold, g1, g2, g3, g4, hx]
          · by_cases g3 : 48 ≤ nm s k
            · by_cases g4 : nm s k ≤ 57
              · have hk0 : ((k : Int) == 0) = true := by
                  rw [beq_iff_eq]
                  rcases ho.2 with h' | h' <;> omega
                simp only [go_sem, h, i1, nm_fold, g1, g3, g4, hk0, hx]
              · simp only [go_sem, h, i1, nm_fold, g1, g3, g4, hx]
            · simp only [go_sem, h, i1, nm_fold, g1, g3, hx]
        · have nx : ∀ j, j < k + 1 → okAt s j = true := below_succ hall ho
          simp only [okAt, Bool.or_eq_true, decide_eq_true_eq, Bool.and_eq_true] at ho
          by_cases g1 : 97 ≤ nm s k
          · have g2 : nm s k ≤ 122 := by omega
            have g3 : 48 ≤ nm s k := by omega
            have g4 : ¬ nm s k ≤ 57 := by omega
            simp only [go_sem, h, i1, nm_fold, g1, g2, g3, g4, w1]
            exact ⟨⟨k + 1, by omega, nx⟩, by show s.length - (k + 1) < s.length - k; omega, ⟨rfl, (forall_cons rfl (forall_cons rfl (forall_nil))), forall_nil, forall_nil⟩⟩
          · have g3 : 48 ≤ nm s k := by omega
            have g4 : nm s k ≤ 57 := by omega
            have hk0 : ((k : Int) == 0) = false := beq_eq_false_iff_ne.2 (by omega)
            simp only [go_sem, h, i1, nm_fold, g1, g3, g4, hk0, w1]
            exact ⟨⟨k + 1, by omega, nx⟩, by show s.length - (k + 1) < s.length - k; omega, ⟨rfl, (forall_cons rfl (forall_cons rfl (forall_nil))), forall_nil, forall_nil⟩⟩
      · have hx : nameB s = true := by
          rw [hn, List.all_eq_true]
          intro j hj
          exact hall j (by have := List.mem_range.1 hj; omega)
        simp only [go_sem, h, hx]
theorem place_alt (r : Rf) : placeB r = (decide (0 ≤ r.sc) && (decide (r.sc ≤ 1) && (nameB r.nm && (decide (r.gr = []) || nameB r.gr)))) := by
  have : (decide (r.sc = 0) || decide (r.sc = 1)) = (decide (0 ≤ r.sc) && decide (r.sc ≤ 1)) := by
    rw [Bool.eq_iff_iff]; simp; omega
  rw [placeB, this, Bool.and_assoc]
set_option maxRecDepth 20000 in
set_option maxHeartbeats 4000000 in
theorem RPlace_pure (r : Rf) : PL.Pure Try.prog 24 [ref r] (.bool (placeB r)) := by
  rw [place_alt]
  have hN := RName_pure r.nm
  have hG := RName_pure r.gr
  refine PL.Pure.of_v Try.func24 (by decide) rfl Try.ntmps24 Try.results24 (by simp) rfl ?_
  simp only [go_sem, ref]
  repeat' (first | (refine vGuard_t (fun h => ?_) (fun h => ?_) <;> (try simp only [go_sem, h])) | (refine vGuard_f (fun h => ?_) (fun h => ?_) <;> (try simp only [go_sem, h])) | (refine vCond_b (fun h => ?_) (fun h => ?_) <;> (try simp only [go_sem, h])) | ((refine vCall_of (hN) ?_ ?_ ?_); (focus simp only [go_sem]); (focus exact rfl); (try simp only [go_sem])) | ((refine vCall_of (hG) ?_ ?_ ?_); (focus simp only [go_sem]); (focus exact rfl); (try simp only [go_sem])) | ((refine vDrawQ (by kernel_rfl) (by kernel_rfl) ?_); (try simp only [go_sem])))
  all_goals (simp_all)
def lessB (a b : Rf) : Bool := if a.sc ≠ b.sc then decide (a.sc < b.sc) else if a.gr ≠ b.gr then bytesLt a.gr b.gr else bytesLt a.nm b.nm
end Go.Proofs.Ytnadlkjmdimjkaa

set_option linter.unusedSimpArgs false
set_option linter.unusedVariables false
set_option linter.unusedSimpArgs false
set_option linter.unusedVariables false
namespace Go.Proofs.Ytnadlkjmdimjkaa
open Go.PL
attribute [go_sem] Option.map_some Option.map_none Option.isNone_none
theorem take_str (l : List Str) (k : Nat) : List.take k (l.map PV.str) = (l.take k).map PV.str := by rw [List.map_take]
def caseOk (l : List Str) (i : Nat) : Bool := nameB (l.getD i []) && !((l.take i).any (· == l.getD i []))
def casesB (l : List Str) : Bool := (List.range l.length).all (caseOk l)
theorem casesB_false {l : List Str} {k : Nat} (hk : k < l.length) (h : caseOk l k = false) : casesB l = false := by
  rw [casesB, List.all_eq_false]; exact ⟨k, by simpa using hk, by simp [h]⟩
theorem casesB_true {l : List Str} (h : ∀ j, j < l.length → caseOk l j = true) : casesB l = true := by
  rw [casesB, List.all_eq_true]; intro j hj; exact h j (List.mem_range.1 hj)
def tail3 (f : Fd) : Bool := casesB f.cases' && (decide ((f.cases'.length : Int) < 7) && f.cases'.any (· == f.df))
def tail2 (f : Fd) : Bool := !decide (0 < (f.cases'.length : Int)) && ((decide (f.kind = 2) && decide ((f.df.length : Int) < 41)) || (decide (f.kind = 4) && decide (f.df = [])))
def rightF (f : Fd) : Bool :=
  placeB f.at' && (if f.kind = 1 then decide (f.df = []) && (decide ((f.cases'.length : Int) = 0) && (decide (0 < f.worth) && decide (f.worth < 1048577)))
    else decide (f.worth = 0) && (if f.kind = 3 then tail3 f else tail2 f))
end Go.Proofs.Ytnadlkjmdimjkaa

set_option linter.unusedSimpArgs false
set_option linter.unusedVariables false
set_option linter.unusedSimpArgs false
set_option linter.unusedVariables false
namespace Go.Proofs.Ytnadlkjmdimjkaa
open Go.PL
theorem all_true {α : Type} {p : α → Bool} {l : List α} {d : α} (h : ∀ j, j < l.length → p (l.getD j d) = true) : l.all p = true := by
  rw [List.all_eq_true]
  intro x hx
  obtain ⟨j, hj, rfl⟩ := List.getElem_of_mem hx
  have := h j hj
  simpa [List.getD_eq_getElem?_getD, hj] using this
theorem all_false {α : Type} {p : α → Bool} {l : List α} {k : Nat} {d : α} (hk : k < l.length) (h : p (l.getD k d) = false) : l.all p = false := by
  rw [List.all_eq_false]
  exact ⟨l.getD k d, getD_mem' hk, by rw [h]; simp⟩
theorem rall_false {p : Nat → Bool} {n k : Nat} (hk : k < n) (h : p k = false) : (List.range n).all p = false := by
  rw [List.all_eq_false]; exact ⟨k, by simpa using hk, by simp [h]⟩
theorem rall_true {p : Nat → Bool} {n : Nat} (h : ∀ j, j < n → p j = true) : (List.range n).all p = true := by
  rw [List.all_eq_true]; intro j hj; exact h j (List.mem_range.1 hj)
end Go.Proofs.Ytnadlkjmdimjkaa

set_option linter.unusedSimpArgs false
set_option linter.unusedVariables false
set_option linter.unusedSimpArgs false
set_option linter.unusedVariables false
namespace Go.Proofs.Ytnadlkjmdimjkaa
open Go.PL
def fldOk (l : List Fd) (i : Nat) : Bool := rightF (l.getD i default) && (decide (i = 0) || lessB (l.getD (i - 1) default).at' (l.getD i default).at')
def rightL (l : List Fd) : Bool := !decide (16 < (l.length : Int)) && (List.range l.length).all (fldOk l)
end Go.Proofs.Ytnadlkjmdimjkaa

set_option linter.unusedSimpArgs false
set_option linter.unusedVariables false
set_option linter.unusedSimpArgs false
set_option linter.unusedVariables false
namespace Go.Proofs.Ytnadlkjmdimjkaa
open Go.PL
end Go.Proofs.Ytnadlkjmdimjkaa

set_option linter.unusedSimpArgs false
set_option linter.unusedVariables false
set_option linter.unusedSimpArgs false
set_option linter.unusedVariables false
namespace Go.Proofs.Ytnadlkjmdimjkaa
open Go.PL
end Go.Proofs.Ytnadlkjmdimjkaa

set_option linter.unusedSimpArgs false
set_option linter.unusedVariables false
set_option linter.unusedSimpArgs false
set_option linter.unusedVariables false
namespace Go.Proofs.Ytnadlkjmdimjkaa
open Go.PL
structure Pr where
  fr' : Str
  to' : Str
  deriving DecidableEq, Inhabited
structure Ln where
  kind : Int
  at' : Rf
  nm : Str
  ot : Str
  fac : Int
  fd : Fd
  fo : List Pr
  ba : List Pr
  deriving DecidableEq, Inhabited
structure Tg where
  r : Int
  n : Int
  deriving DecidableEq, Inhabited
structure Eg where
  id : Tg
  par : Tg
  ln : Ln
  deriving DecidableEq, Inhabited
structure Lg where
  id : Tg
  down : Bool
  deriving DecidableEq, Inhabited
def pr (p : Pr) : PV := .agg [.str p.fr', .str p.to']
def prs (l : List Pr) : PV := .sl .no (l.map pr)
def refs (l : List Rf) : PV := .sl .no (l.map ref)
def lns (x : Ln) : PV := .agg [.int .i64 x.kind, .int .i64 x.at'.sc, .str x.at'.gr, .str x.at'.nm, .str x.nm, .str x.ot, .int .i64 x.fac, .int .i64 x.fd.at'.sc, .str x.fd.at'.gr, .str x.fd.at'.nm, .int .i64 x.fd.kind, .str x.fd.df, .sl .no (x.fd.cases'.map .str), .int .i64 x.fd.worth, .sl .no (x.fo.map pr), .sl .no (x.ba.map pr)]
def tg (t : Tg) : PV := .agg [.int .i64 t.r, .int .i64 t.n]
def tgs (l : List Tg) : PV := .sl .no (l.map tg)
def lg (t : Lg) : PV := .agg [.int .i64 t.id.r, .int .i64 t.id.n, .bool t.down]
def lgs (l : List Lg) : PV := .sl .no (l.map lg)
def eg (e : Eg) : PV := .agg [.int .i64 e.id.r, .int .i64 e.id.n, .int .i64 e.par.r, .int .i64 e.par.n, .int .i64 e.ln.kind, .int .i64 e.ln.at'.sc, .str e.ln.at'.gr, .str e.ln.at'.nm, .str e.ln.nm, .str e.ln.ot, .int .i64 e.ln.fac, .int .i64 e.ln.fd.at'.sc, .str e.ln.fd.at'.gr, .str e.ln.fd.at'.nm, .int .i64 e.ln.fd.kind, .str e.ln.fd.df, .sl .no (e.ln.fd.cases'.map .str), .int .i64 e.ln.fd.worth, .sl .no (e.ln.fo.map pr), .sl .no (e.ln.ba.map pr)]
theorem getD_map {α : Type} {enc : α → PV} {l : List α} {i : Nat} {d : α} (h : i < l.length) : (l.map enc).getD i .any = enc (l.getD i d) := by
  simp [List.getD_eq_getElem?_getD, h]
theorem getD_pr {l : List Pr} {i : Nat} (h : i < l.length) : (l.map pr).getD i .any = pr (l.getD i default) := getD_map h
theorem getD_ref {l : List Rf} {i : Nat} (h : i < l.length) : (l.map ref).getD i .any = ref (l.getD i default) := getD_map h
theorem getD_tg {l : List Tg} {i : Nat} (h : i < l.length) : (l.map tg).getD i .any = tg (l.getD i default) := getD_map h
theorem getD_lg {l : List Lg} {i : Nat} (h : i < l.length) : (l.map lg).getD i .any = lg (l.getD i default) := getD_map h
theorem pr_fold (a b : Pr) : (a.fr' == b.fr' && a.to' == b.to') = decide (a = b) := by
  cases a; cases b; rw [Bool.eq_iff_iff]; simp
theorem tg_fold (a b : Tg) : (a.r == b.r && a.n == b.n) = decide (a = b) := by
  cases a; cases b; rw [Bool.eq_iff_iff]; simp
set_option maxHeartbeats 1000000 in
theorem EqStr_pure (a b : List Str) (ha : a.length ≤ maxLen) (hb : b.length ≤ maxLen) : PL.Pure Try.prog 65 [strs a, strs b] (.bool (decide (a = b))) := by
  by_cases hl : a.length = b.length
  · have hl' : ((a.length : Int) != (b.length : Int)) = false := by rw [hl]; exact bne_self_eq_false _
    refine PL.Pure.of_v Try.func65 (by decide) rfl Try.ntmps65 Try.results65 (by simp) rfl ?_
    simp only [go_sem, strs, hl']
    refine vLoopM (ι := { x : Nat // x ≤ (a).length ∧ (∀ j, j < x → a.getD j [] = b.getD j []) }) 26 (fun x => [(0, strs a), (1, strs b), (12, .int .i64 (a.length : Int)), (13, .int .i64 (x.1 : Int))]) (fun x => []) (fun x => []) (fun x => (a).length - x.1) ⟨0, Nat.zero_le _, fun j hj => absurd hj (Nat.not_lt_zero j)⟩ ⟨rfl, (forall_cons rfl (forall_cons rfl (forall_cons rfl (forall_cons rfl forall_nil)))), forall_nil, forall_nil⟩ (fun x => ⟨(forall_cons rfl (forall_cons rfl (forall_cons rfl (forall_cons rfl forall_nil)))), forall_nil⟩) (fun x => ?_); obtain ⟨k, hk, hI⟩ := x; simp only at hk hI ⊢
    by_cases h : (k : Int) < (a.length : Int)
    · (have hka : k < (a).length := by omega); (have w1 := w64s hka (ha)); (have i1 : (0 : Int) ≤ (k : Int) := by omega)
      have hkb : k < b.length := by omega
      have i2 : (k : Int) < (b.length : Int) := by omega
      by_cases he : a.getD k [] = b.getD k []
      · have he' : (a.getD k [] == b.getD k []) = true := beq_iff_eq.2 he
        simp only [go_sem, strs, h]
        refine vDrawQ (by kernel_rfl) (by kernel_rfl) ?_
        simp only [go_sem, getD_str hka, getD_str hkb, h, i1, i2, he', w1]
        exact ⟨⟨k + 1, by (try simp only); omega, below_succ hI he⟩, by show (a).length - (k + 1) < (a).length - k; omega, ⟨rfl, (forall_cons rfl (forall_cons rfl (forall_cons rfl (forall_cons rfl forall_nil)))), forall_nil, forall_nil⟩⟩
      · have he' : (a.getD k [] == b.getD k []) = false := beq_eq_false_iff_ne.2 he
        have hab : ¬ a = b := ne_of_getD he
        simp only [go_sem, strs, h]
        refine vDrawQ (by kernel_rfl) (by kernel_rfl) ?_
        simp only [go_sem, getD_str hka, getD_str hkb, h, i1, i2, he', hab]
    · have hab : decide (a = b) = true := decide_eq_true (eq_of_getD (d := []) hl fun j hj => hI j (by omega))
      simp only [go_sem, strs, h, hab]
  · have hl' : ((a.length : Int) != (b.length : Int)) = true := bne_iff_ne.2 (by omega)
    have hab : ¬ a = b := fun e => hl (by rw [e])
    refine PL.Pure.of_v Try.func65 (by decide) rfl Try.ntmps65 Try.results65 (by simp) rfl ?_
    simp only [go_sem, strs, hl', hab]
set_option maxHeartbeats 1000000 in
theorem EqPr_pure (a b : List Pr) (ha : a.length ≤ maxLen) (hb : b.length ≤ maxLen) : PL.Pure Try.prog 45 [prs a, prs b] (.bool (decide (a = b))) := by
  by_cases hl : a.length = b.length
  · have hl' : ((a.length : Int) != (b.length : Int)) = false := by rw [hl]; exact bne_self_eq_false _
    refine PL.Pure.of_v Try.func45 (by decide) rfl Try.ntmps45 Try.results45 (by simp) rfl ?_
    simp only [go_sem, prs, hl']
    refine vLoopM (ι := { x : Nat // x ≤ (a).length ∧ (∀ j, j < x → a.getD j default = b.getD j default) }) 26 (fun x => [(0, prs a), (1, prs b), (12, .int .i64 (a.length : Int)), (13, .int .i64 (x.1 : Int))]) (fun x => []) (fun x => []) (fun x => (a).length - x.1) ⟨0, Nat.zero_le _, fun j hj => absurd hj (Nat.not_lt_zero j)⟩ ⟨rfl, (forall_cons rfl (forall_cons rfl (forall_cons rfl (forall_cons rfl forall_nil)))), forall_nil, forall_nil⟩ (fun x => ⟨(forall_cons rfl (forall_cons rfl (forall_cons rfl (forall_cons rfl forall_nil)))), forall_nil⟩) (fun x => ?_); obtain ⟨k, hk, hI⟩ := x; simp only at hk hI ⊢
    by_cases h : (k : Int) < (a.length : Int)
    · (have hka : k < (a).length := by omega); (have w1 := w64s hka (ha)); (have i1 : (0 : Int) ≤ (k : Int) := by omega)
      have hkb : k < b.length := by omega
      have i2 : (k : Int) < (b.length : Int) := by omega
      by_cases he : a.getD k default = b.getD k default
      · have he' : decide (a.getD k default = b.getD k default) = true := decide_eq_true he
        simp only [go_sem, prs, h]
        refine vDrawQ (by kernel_rfl) (by kernel_rfl) ?_
        simp only [go_sem, getD_pr hka, getD_pr hkb, h, i1, i2, pr, pr_fold, he', w1]
        exact ⟨⟨k + 1, by (try simp only); omega, below_succ hI he⟩, by show (a).length - (k + 1) < (a).length - k; omega, ⟨rfl, (forall_cons rfl (forall_cons rfl (forall_cons rfl (forall_cons rfl forall_nil)))), forall_nil, forall_nil⟩⟩
      · have he' : decide (a.getD k default = b.getD k default) = false := decide_eq_false he
        have hab : ¬ a = b := ne_of_getD he
        simp only [go_sem, prs, h]
        refine vDrawQ (by kernel_rfl) (by kernel_rfl) ?_
        simp only [go_sem, getD_pr hka, getD_pr hkb, h, i1, i2, pr, pr_fold, he', hab]
    · have hab : decide (a = b) = true := decide_eq_true (eq_of_getD (d := default) hl fun j hj => hI j (by omega))
      simp only [go_sem, prs, h, hab]
  · have hl' : ((a.length : Int) != (b.length : Int)) = true := bne_iff_ne.2 (by omega)
    have hab : ¬ a = b := fun e => hl (by rw [e])
    refine PL.Pure.of_v Try.func45 (by decide) rfl Try.ntmps45 Try.results45 (by simp) rfl ?_
    simp only [go_sem, prs, hl', hab]
set_option maxHeartbeats 1000000 in
theorem IdxStr_pure (l : List Str) (s : Str) (hl : l.length ≤ maxLen) : PL.Pure Try.prog 78 [strs l, .str s] (.int .i64 (idx (fun x => s == x) l)) := by
  refine PL.Pure.of_v Try.func78 (by decide) rfl Try.ntmps78 Try.results78 (by simp) rfl ?_
  simp only [go_sem, strs]
  refine vLoopM (ι := { x : Nat // x ≤ (l).length ∧ (∀ j, j < x → (fun x => s == x) (l.getD j []) = false) }) 19 (fun x => [(0, strs l), (1, .str s), (7, .int .i64 (l.length : Int)), (8, .int .i64 (x.1 : Int))]) (fun x => []) (fun x => []) (fun x => (l).length - x.1) ⟨0, Nat.zero_le _, fun j hj => absurd hj (Nat.not_lt_zero j)⟩ ⟨rfl, (forall_cons rfl (forall_cons rfl (forall_cons rfl (forall_cons rfl forall_nil)))), forall_nil, forall_nil⟩ (fun x => ⟨(forall_cons rfl (forall_cons rfl (forall_cons rfl (forall_cons rfl forall_nil)))), forall_nil⟩) (fun x => ?_); obtain ⟨k, hk, hI⟩ := x; simp only at hk hI ⊢
  by_cases h : (k : Int) < (l.length : Int)
  · (have hka : k < (l).length := by omega); (have w1 := w64s hka (hl)); (have i1 : (0 : Int) ≤ (k : Int) := by omega)
    cases he : (fun x => s == x) (l.getD k [])
    · have he0 := he
      simp only at he
      simp only [go_sem, strs, h]
      simp only [go_sem, getD_str hka, h, i1, he, w1]
      exact ⟨⟨k + 1, by (try simp only); omega, below_succ hI he0⟩, by show (l).length - (k + 1) < (l).length - k; omega, ⟨rfl, (forall_cons rfl (forall_cons rfl (forall_cons rfl (forall_cons rfl forall_nil)))), forall_nil, forall_nil⟩⟩
    · have hx := idx_found (p := fun x => s == x) hka hI he
      simp only at he
      simp only [go_sem, strs, h]
      simp only [go_sem, getD_str hka, h, i1, he, hx]
  · have hx := idx_none (p := fun x => s == x) (d := []) (l := l) (fun j hj => hI j (by omega))
    simp only [go_sem, strs, h, hx]
set_option maxHeartbeats 1000000 in
theorem IdxRef_pure (l : List Rf) (r : Rf) (hl : l.length ≤ maxLen) : PL.Pure Try.prog 73 [refs l, ref r] (.int .i64 (idx (fun x => decide (r = x)) l)) := by
  refine PL.Pure.of_v Try.func73 (by decide) rfl Try.ntmps73 Try.results73 (by simp) rfl ?_
  simp only [go_sem, refs, ref]
  refine vLoopM (ι := { x : Nat // x ≤ (l).length ∧ (∀ j, j < x → (fun x => decide (r = x)) (l.getD j default) = false) }) 19 (fun x => [(0, refs l), (3, .ptr 3 0), (7, .int .i64 (l.length : Int)), (8, .int .i64 (x.1 : Int))]) (fun x => [(3, [.int .i64 r.sc, .str r.gr, .str r.nm], false)]) (fun x => []) (fun x => (l).length - x.1) ⟨0, Nat.zero_le _, fun j hj => absurd hj (Nat.not_lt_zero j)⟩ ⟨rfl, (forall_cons rfl (forall_cons rfl (forall_cons rfl (forall_cons rfl forall_nil)))), (forall_cons ⟨rfl, rfl⟩ forall_nil), forall_nil⟩ (fun x => ⟨(forall_cons rfl (forall_cons rfl (forall_cons rfl (forall_cons rfl forall_nil)))), (forall_cons rfl forall_nil)⟩) (fun x => ?_); obtain ⟨k, hk, hI⟩ := x; simp only at hk hI ⊢
  by_cases h : (k : Int) < (l.length : Int)
  · (have hka : k < (l).length := by omega); (have w1 := w64s hka (hl)); (have i1 : (0 : Int) ≤ (k : Int) := by omega)
    cases he : (fun x => decide (r = x)) (l.getD k default)
    · have he0 := he
      simp only at he
      simp only [go_sem, refs, h]
      refine vDrawQ (by kernel_rfl) (by kernel_rfl) ?_
      simp only [go_sem, getD_ref hka, h, i1, ref, ref_fold, he, w1]
      exact ⟨⟨k + 1, by (try simp only); omega, below_succ hI he0⟩, by show (l).length - (k + 1) < (l).length - k; omega, ⟨rfl, (forall_cons rfl (forall_cons rfl (forall_cons rfl (forall_cons rfl forall_nil)))), (forall_cons ⟨rfl, rfl⟩ forall_nil), forall_nil⟩⟩
    · have hx := idx_found (p := fun x => decide (r = x)) hka hI he
      simp only at he
      simp only [go_sem, refs, h]
      refine vDrawQ (by kernel_rfl) (by kernel_rfl) ?_
      simp only [go_sem, getD_ref hka, h, i1, ref, ref_fold, he, hx]
  · have hx := idx_none (p := fun x => decide (r = x)) (d := default) (l := l) (fun j hj => hI j (by omega))
    simp only [go_sem, refs, h, hx]
set_option maxHeartbeats 1000000 in
theorem Index_pure (l : List Fd) (r : Rf) (hl : l.length ≤ maxLen) : PL.Pure Try.prog 72 [flds l, ref r] (.int .i64 (idx (fun x => decide (x.at' = r)) l)) := by
  refine PL.Pure.of_v Try.func72 (by decide) rfl Try.ntmps72 Try.results72 (by simp) rfl ?_
  simp only [go_sem, flds, ref]
  refine vLoopM (ι := { x : Nat // x ≤ (l).length ∧ (∀ j, j < x → (fun x => decide (x.at' = r)) (l.getD j default) = false) }) 20 (fun x => [(3, .ptr 3 0), (7, flds l), (8, .int .i64 (l.length : Int)), (9, .int .i64 (x.1 : Int))]) (fun x => [(3, [.int .i64 r.sc, .str r.gr, .str r.nm], false)]) (fun x => []) (fun x => (l).length - x.1) ⟨0, Nat.zero_le _, fun j hj => absurd hj (Nat.not_lt_zero j)⟩ ⟨rfl, (forall_cons rfl (forall_cons rfl (forall_cons rfl (forall_cons rfl forall_nil)))), (forall_cons ⟨rfl, rfl⟩ forall_nil), forall_nil⟩ (fun x => ⟨(forall_cons rfl (forall_cons rfl (forall_cons rfl (forall_cons rfl forall_nil)))), (forall_cons rfl forall_nil)⟩) (fun x => ?_); obtain ⟨k, hk, hI⟩ := x; simp only at hk hI ⊢
  by_cases h : (k : Int) < (l.length : Int)
  · (have hka : k < (l).length := by omega); (have w1 := w64s hka (hl)); (have i1 : (0 : Int) ≤ (k : Int) := by omega)
    cases he : (fun x => decide (x.at' = r)) (l.getD k default)
    · have he0 := he
      simp only at he
      simp only [go_sem, flds, h]
      simp only [go_sem, getD_fld hka, h, i1, fld, ref_fold, he, w1]
      exact ⟨⟨k + 1, by (try simp only); omega, below_succ hI he0⟩, by show (l).length - (k + 1) < (l).length - k; omega, ⟨rfl, (forall_cons rfl (forall_cons rfl (forall_cons rfl (forall_cons rfl forall_nil)))), (forall_cons ⟨rfl, rfl⟩ forall_nil), forall_nil⟩⟩
    · have hx := idx_found (p := fun x => decide (x.at' = r)) hka hI he
      simp only at he
      simp only [go_sem, flds, h]
      simp only [go_sem, getD_fld hka, h, i1, fld, ref_fold, he, hx]
  · have hx := idx_none (p := fun x => decide (x.at' = r)) (d := default) (l := l) (fun j hj => hI j (by omega))
    simp only [go_sem, flds, h, hx]
end Go.Proofs.Ytnadlkjmdimjkaa
