/- Contracts of functions and laws of this seat, each for every input that it names: lemmas of the proof. -/
import Derived.Test.YtcomkajmhlhphaaGreatXAa
set_option linter.unusedSimpArgs false
set_option linter.unusedVariables false
set_option linter.unusedSimpArgs false
set_option linter.unusedVariables false
namespace Go.Proofs.YtcomkajmhlhphaaGreat
open Go.PL
attribute [go_sem] reduceIte Nat.reduceEqDiff reduceCtorEq Nat.reduceLT Nat.reduceAdd Nat.reduceSub Nat.reduceMul Nat.reduceLeDiff Int.reduceLT Int.reduceLE Int.reduceToNat Int.reduceEq Int.reduceAdd Int.reduceSub Int.reduceNeg Int.reduceBNe Int.reduceBEq
attribute [go_sem] true_or or_true List.getElem?_cons_zero List.getElem?_cons_succ List.getElem?_nil decide_true decide_false Bool.not_true Bool.not_false imp_self false_implies true_implies List.all_cons List.all_nil Bool.and_true Bool.false_eq_true Nat.zero_add Nat.add_zero Option.some.injEq true_and and_true List.getD_cons_zero List.getD_cons_succ List.length_cons List.length_nil ne_eq not_false_eq_true implies_true and_self List.take List.drop List.map_cons List.map_nil List.reverse_cons List.reverse_nil List.nil_append PV.bool.injEq List.length_map Int.toNat_natCast Nat.mul_one beq_self_eq_true bne_self_eq_false
theorem w64 {x : Int} (h : -9223372036854775808 ≤ x ∧ x ≤ 9223372036854775807) : IntKind.i64.wrap x = x := IntWalk.i64_in _ (by omega)
theorem maxLen_eq : maxLen = 9223372036854775807 := by decide
theorem w64s {k n : Nat} (h : k < n) (hn : n ≤ maxLen) : IntKind.i64.wrap ((k : Int) + 1) = ((k + 1 : Nat) : Int) := by
  rw [maxLen_eq] at hn
  rw [w64 (by omega)]; rfl
abbrev Str := List UInt8
structure Rf where
  sc : Int
  gr : Str
  nm : Str
  deriving DecidableEq, Inhabited
structure En where
  at' : Rf
  n : Int
  l : List Str
  deriving DecidableEq, Inhabited
structure Rw where
  item : Str
  l : List En
  deriving DecidableEq, Inhabited
structure Dc where
  head : List En
  rows : List Rw
  deriving DecidableEq, Inhabited
def strs (l : List Str) : PV := .sl .no (l.map .str)
def ref (r : Rf) : PV := .agg [.int .i64 r.sc, .str r.gr, .str r.nm]
def ent (e : En) : PV := .agg [.int .i64 e.at'.sc, .str e.at'.gr, .str e.at'.nm, .int .i64 e.n, .sl .no (e.l.map .str)]
def row (r : Rw) : PV := .agg [.str r.item, .sl .no (r.l.map ent)]
theorem ref_fold (a b : Rf) : (a.sc == b.sc && (a.gr == b.gr && a.nm == b.nm)) = decide (a = b) := by
  cases a; cases b
  rw [Bool.eq_iff_iff]
  simp
theorem getD_str {l : List Str} {i : Nat} (h : i < l.length) : (l.map PV.str).getD i .any = .str (l.getD i []) := by
  simp [List.getD_eq_getElem?_getD, h]
theorem getD_mem' {α : Type} {l : List α} {i : Nat} {d : α} (h : i < l.length) : l.getD i d ∈ l := by
  rw [List.getD_eq_getElem?_getD, List.getElem?_eq_getElem h]; exact List.getElem_mem h
/-- lists that are alike, place by place -/
theorem eq_of_getD {α : Type} {a b : List α} {d : α} (hl : a.length = b.length) (h : ∀ j, j < a.length → a.getD j d = b.getD j d) : a = b := by
  apply List.ext_getElem hl
  intro i h1 h2
  have := h i h1
  simpa [List.getD_eq_getElem?_getD, h1, h2] using this
theorem ne_of_getD {α : Type} {a b : List α} {d : α} {j : Nat} (h : a.getD j d ≠ b.getD j d) : a ≠ b := fun e => h (by rw [e])
set_option maxHeartbeats 1000000 in
theorem RSame_pure (a b : List Str) (ha : a.length ≤ maxLen) (hb : b.length ≤ maxLen) : PL.Pure Tryz.prog 116 [strs a, strs b] (.bool (decide (a = b))) := by
  by_cases hl : a.length = b.length
  · have hl' : ((a.length : Int) != (b.length : Int)) = false := by rw [hl]; exact bne_self_eq_false _
    refine PL.Pure.of_v Tryz.func116 (by decide) rfl Tryz.ntmps116 Tryz.results116 (by simp) rfl ?_
    simp only [go_sem, strs, hl']
    refine vLoopM (ι := { k : Nat // k ≤ a.length ∧ ∀ j, j < k → a.getD j [] = b.getD j [] }) 26 (fun x => [(0, strs a), (1, strs b), (5, .int .i64 (x.1 : Int))]) (fun x => []) (fun x => []) (fun x => a.length - x.1) ⟨0, by omega, fun j hj => by omega⟩
      ⟨rfl, (forall_cons rfl (forall_cons rfl (forall_cons rfl (forall_nil)))), forall_nil, forall_nil⟩ (fun x => ⟨(forall_cons rfl (forall_cons rfl (forall_cons rfl (forall_nil)))), forall_nil⟩) (fun x => ?_)
    obtain ⟨k, hk, hall⟩ := x
    simp only
    by_cases h : (k : Int) < (a.length : Int)
    · have hka : k < a.length := by omega
      have hkb : k < b.length := by omega
      have w1 := w64s hka ha
      have i1 : (0 : Int) ≤ (k : Int) := by omega
      have i2 : (k : Int) < (b.length : Int) := by omega
      by_cases he : a.getD k [] = b.getD k []
      · have he' : (a.getD k [] == b.getD k []) = true := beq_iff_eq.2 he
        simp only [go_sem, strs, h]
        refine vDrawQ (by kernel_rfl) (by kernel_rfl) ?_
        simp only [go_sem, getD_str hka, getD_str hkb, h, i1, i2, he', w1]
        exact ⟨⟨k + 1, by omega, fun j hj => by
          rcases Nat.lt_or_ge j k with h1 | h1
          · exact hall j h1
          · obtain rfl : j = k := by omega
            exact he⟩, by show a.length - (k + 1) < a.length - k; omega, ⟨rfl, (forall_cons rfl (forall_cons rfl (forall_cons rfl (forall_nil)))), forall_nil, forall_nil⟩⟩
      · have he' : (a.getD k [] == b.getD k []) = false := beq_eq_false_iff_ne.2 he
        have hab : ¬ a = b := ne_of_getD he
        simp only [go_sem, strs, h]
        refine vDrawQ (by kernel_rfl) (by kernel_rfl) ?_
        simp only [go_sem, getD_str hka, getD_str hkb, h, i1, i2, he', hab]
    · have hab : decide (a = b) = true := decide_eq_true (eq_of_getD (d := []) hl fun j hj => hall j (by omega))
      simp only [go_sem, strs, h, hab]
  · have hl' : ((a.length : Int) != (b.length : Int)) = true := bne_iff_ne.2 (by omega)
    have hab : ¬ a = b := fun e => hl (by rw [e])
    refine PL.Pure.of_v Tryz.func116 (by decide) rfl Tryz.ntmps116 Tryz.results116 (by simp) rfl ?_
    simp only [go_sem, strs, hl', hab]
end Go.Proofs.YtcomkajmhlhphaaGreat

set_option linter.unusedSimpArgs false
set_option linter.unusedVariables false
set_option linter.unusedSimpArgs false
set_option linter.unusedVariables false
namespace Go.Proofs.YtcomkajmhlhphaaGreat
open Go.PL
/-- the first place at which something holds, or -1 -/
def idx {α : Type} (p : α → Bool) (l : List α) : Int := match l.findIdx? p with | some i => (i : Int) | none => -1
theorem idx_found {α : Type} {p : α → Bool} {l : List α} {k : Nat} {d : α} (hk : k < l.length) (h : ∀ j, j < k → p (l.getD j d) = false) (hp : p (l.getD k d) = true) : idx p l = k := by
  have : l.findIdx? p = some k := by
    rw [List.findIdx?_eq_some_iff_getElem]
    refine ⟨hk, ?_, fun j hj => ?_⟩
    · simpa [List.getD_eq_getElem?_getD, hk] using hp
    · have := h j hj
      simp [List.getD_eq_getElem?_getD, show j < l.length by omega] at this
      simp [this]
  simp [idx, this]
theorem idx_none {α : Type} {p : α → Bool} {l : List α} {d : α} (h : ∀ j, j < l.length → p (l.getD j d) = false) : idx p l = -1 := by
  have : l.findIdx? p = none := by
    rw [List.findIdx?_eq_none_iff]
    intro x hx
    obtain ⟨j, hj, rfl⟩ := List.getElem_of_mem hx
    have := h j hj
    simpa [List.getD_eq_getElem?_getD, hj] using this
  simp [idx, this]
/-- one more place at which nothing is -/
theorem below_succ {p : Nat → Prop} {k : Nat} (h : ∀ j, j < k → p j) (hk : p k) : ∀ j, j < k + 1 → p j := fun j hj => by
  rcases Nat.lt_or_ge j k with h1 | h1
  · exact h j h1
  · obtain rfl : j = k := by omega
    exact hk
end Go.Proofs.YtcomkajmhlhphaaGreat

set_option linter.unusedSimpArgs false
set_option linter.unusedVariables false
set_option linter.unusedSimpArgs false
set_option linter.unusedVariables false
namespace Go.Proofs.YtcomkajmhlhphaaGreat
open Go.PL
theorem any_true {α : Type} {p : α → Bool} {l : List α} {k : Nat} {d : α} (hk : k < l.length) (h : p (l.getD k d) = true) : l.any p = true :=
  List.any_eq_true.2 ⟨_, getD_mem' hk, h⟩
theorem any_false {α : Type} {p : α → Bool} {l : List α} {d : α} (h : ∀ j, j < l.length → p (l.getD j d) = false) : l.any p = false := by
  rw [List.any_eq_false]
  intro x hx
  obtain ⟨j, hj, rfl⟩ := List.getElem_of_mem hx
  have := h j hj
  simpa [List.getD_eq_getElem?_getD, hj] using this
def longB (n : Nat) (s : Str) : Bool := decide ((n : Int) < (s.length : Int))
end Go.Proofs.YtcomkajmhlhphaaGreat

set_option linter.unusedSimpArgs false
set_option linter.unusedVariables false
set_option linter.unusedSimpArgs false
set_option linter.unusedVariables false
namespace Go.Proofs.YtcomkajmhlhphaaGreat
open Go.PL
@[go_sem] theorem arr_empty {α : Type} : (#[] : Array α).isEmpty = true := rfl
theorem idx_cases {α : Type} (p : α → Bool) (l : List α) : idx p l = -1 ∨ ∃ k : Nat, k < l.length ∧ idx p l = k := by
  unfold idx
  cases h : l.findIdx? p with
  | none => exact .inl rfl
  | some k =>
    rw [List.findIdx?_eq_some_iff_getElem] at h
    exact .inr ⟨k, h.1, rfl⟩
theorem room_small {n b : Nat} (hn : n ≤ 100000000000) (hb : b ≤ 1000) : Room n b := by
  refine ⟨?_, by unfold maxLen; omega⟩
  calc n * b ≤ 100000000000 * 1000 := Nat.mul_le_mul hn hb
    _ ≤ 140737488355328 := by decide
@[go_sem] theorem sized_nil (n : Nat) : Sized n [] = True := by simp [Sized]
@[go_sem] theorem sized_cons (n : Nat) (e : PV) (l : List PV) : Sized n (e :: l) = (e.cells.length = n ∧ Sized n l) := by simp [Sized]
@[go_sem] theorem atoms_nil : Atoms [] = True := by simp [Atoms]
@[go_sem] theorem atoms_cons (e : PV) (l : List PV) : Atoms (e :: l) = (e.cells.all PV.atom = true ∧ Atoms l) := by simp [Atoms]
theorem sized_str (l : List Str) : Sized 1 (l.map .str) := fun e he => by
  obtain ⟨x, _, rfl⟩ := List.mem_map.1 he; rfl
theorem atoms_str (l : List Str) : Atoms (l.map .str) := fun e he => by
  obtain ⟨x, _, rfl⟩ := List.mem_map.1 he; rfl
theorem didsL_str (l : List Str) : PV.didsL (l.map .str) = [] := by
  induction l with
  | nil => rfl
  | cons t l ih => simp only [List.map_cons, PV.didsL, ih, PV.dids, List.append_nil]
end Go.Proofs.YtcomkajmhlhphaaGreat

set_option linter.unusedSimpArgs false
set_option linter.unusedVariables false
set_option linter.unusedSimpArgs false
set_option linter.unusedVariables false
namespace Go.Proofs.YtcomkajmhlhphaaGreat
open Go.PL
attribute [go_sem] Bool.not_eq_true'
theorem beq_nil {s : Str} (h : s = []) : (s == []) = true := by rw [h]; rfl
theorem beq_nil' {s : Str} (h : ¬ s = []) : (s == []) = false := beq_eq_false_iff_ne.2 h
end Go.Proofs.YtcomkajmhlhphaaGreat

set_option linter.unusedSimpArgs false
set_option linter.unusedVariables false
set_option linter.unusedSimpArgs false
set_option linter.unusedVariables false
namespace Go.Proofs.YtcomkajmhlhphaaGreat
open Go.PL
structure Fd where
  at' : Rf
  kind : Int
  df : Str
  cases' : List Str
  worth : Int
  deriving DecidableEq, Inhabited
def fld (f : Fd) : PV := .agg [.int .i64 f.at'.sc, .str f.at'.gr, .str f.at'.nm, .int .i64 f.kind, .str f.df, .sl .no (f.cases'.map .str), .int .i64 f.worth]
def flds (l : List Fd) : PV := .sl .no (l.map fld)
theorem getD_fld {l : List Fd} {i : Nat} (h : i < l.length) : (l.map fld).getD i .any = fld (l.getD i default) := by
  simp [List.getD_eq_getElem?_getD, h]
attribute [go_sem] partsOk
theorem take_snoc {α : Type} {l : List α} {k : Nat} (h : k < l.length) {d : α} : l.take (k + 1) = l.take k ++ [l.getD k d] := by
  rw [List.take_succ_eq_append_getElem h, List.getD_eq_getElem?_getD, List.getElem?_eq_getElem h]; rfl
def rootL : List Fd := [⟨⟨0, [], [99, 111, 117, 112, 111, 110]⟩, 2, [], [], 0⟩, ⟨⟨1, [], [110, 111, 116, 101]⟩, 2, [], [], 0⟩, ⟨⟨1, [], [113, 116, 121]⟩, 1, [], [], 1⟩,
  ⟨⟨1, [], [115, 105, 122, 101]⟩, 3, [109, 101, 100, 105, 117, 109], [[115, 109, 97, 108, 108], [109, 101, 100, 105, 117, 109], [108, 97, 114, 103, 101]], 0⟩, ⟨⟨1, [], [116, 97, 103, 115]⟩, 4, [], [], 0⟩]
theorem sized_fld (l : List Fd) : Sized 7 (l.map fld) := fun e he => by
  obtain ⟨x, _, rfl⟩ := List.mem_map.1 he; rfl
theorem didsL_fld (l : List Fd) : PV.didsL (l.map fld) = [] := by
  induction l with
  | nil => rfl
  | cons e l ih => rw [List.map_cons, PV.didsL, ih]; simp only [fld, PV.dids, PV.didsL, didsL_str, List.append_nil]
theorem flds_dids (l : List Fd) : (flds l).dids = [] := by simp only [flds, PV.dids, didsL_fld]
set_option maxRecDepth 20000 in
set_option maxHeartbeats 4000000 in
theorem Root_pure : PL.Pure Tryz.prog 69 [] (flds rootL) := by
  refine PL.Pure.of_v Tryz.func69 (by decide) rfl Tryz.ntmps69 Tryz.results69 (by simp) (flds_dids _) ?_
  simp only [go_sem, room_small, flds, fld, rootL]
end Go.Proofs.YtcomkajmhlhphaaGreat

set_option linter.unusedSimpArgs false
set_option linter.unusedVariables false
set_option linter.unusedSimpArgs false
set_option linter.unusedVariables false
namespace Go.Proofs.YtcomkajmhlhphaaGreat
open Go.PL
@[go_sem] theorem cast0 : ((0 : Nat) : Int) = 0 := rfl
@[go_sem] theorem cast1 : ((1 : Nat) : Int) = 1 := rfl
attribute [go_sem] Int.cast_ofNat_Int
def nm (s : Str) (i : Nat) : Int := ((s.getD i 0).toNat : Int)
def okAt (s : Str) (i : Nat) : Bool := decide (97 ≤ nm s i ∧ nm s i ≤ 122) || (decide (48 ≤ nm s i ∧ nm s i ≤ 57) && decide (i ≠ 0))
def nameB (s : Str) : Bool := decide (1 ≤ s.length ∧ s.length ≤ 12) && (List.range s.length).all (okAt s)
theorem nm_fold (s : Str) (i : Nat) : ((s.getD i 0).toNat : Int) = nm s i := rfl
set_option maxRecDepth 20000 in
set_option maxHeartbeats 4000000 in
theorem Name_pure (s : Str) : PL.Pure Tryz.prog 80 [.str s] (.bool (nameB s)) := by
  by_cases h1 : (s.length : Int) < 1
  · have hx : nameB s = false := by simp only [nameB, show ¬ (1 ≤ s.length ∧ s.length ≤ 12) by omega, decide_false, Bool.false_and]
    refine PL.Pure.of_v Tryz.func80 (by decide) rfl Tryz.ntmps80 Tryz.results80 (by simp) rfl ?_
    simp only [go_sem, h1, hx]
  · by_cases h2 : (12 : Int) < (s.length : Int)
    · have hx : nameB s = false := by simp only [nameB, show ¬ (1 ≤ s.length ∧ s.length ≤ 12) by omega, decide_false, Bool.false_and]
      refine PL.Pure.of_v Tryz.func80 (by decide) rfl Tryz.ntmps80 Tryz.results80 (by simp) rfl ?_
      simp only [go_sem, h1, h2, hx]
    · have hn : nameB s = (List.range s.length).all (okAt s) := by simp only [nameB, show (1 ≤ s.length ∧ s.length ≤ 12) by omega, and_self, decide_true, Bool.true_and]
      refine PL.Pure.of_v Tryz.func80 (by decide) rfl Tryz.ntmps80 Tryz.results80 (by simp) rfl ?_
      simp only [go_sem, h1, h2]
      refine vLoopM (ι := { k : Nat // k ≤ s.length ∧ ∀ j, j < k → okAt s j = true }) 50 (fun x => [(0, .str s), (15, .int .i64 (s.length : Int)), (16, .int .i64 (x.1 : Int))]) (fun x => []) (fun x => []) (fun x => s.length - x.1) ⟨0, by omega, fun j hj => by omega⟩
        ⟨rfl, (forall_cons rfl (forall_cons rfl (forall_cons rfl (forall_nil)))), forall_nil, forall_nil⟩ (fun x => ⟨(forall_cons rfl (forall_cons rfl (forall_cons rfl (forall_nil)))), forall_nil⟩) (fun x => ?_)
      obtain ⟨k, hk, hall⟩ := x
      simp only
      by_cases h : (k : Int) < (s.length : Int)
      · have hka : k < s.length := by omega
        have w1 : IntKind.i64.wrap ((k : Int) + 1) = ((k + 1 : Nat) : Int) := by rw [w64 (by omega)]; rfl
        have i1 : (0 : Int) ≤ (k : Int) := by omega
        cases ho : okAt s k
        · have hx : nameB s = false := by
            rw [hn, List.all_eq_false]
            exact ⟨k, by simpa using hka, by simp [ho]⟩
          simp only [okAt, Bool.or_eq_false_iff, decide_eq_false_iff_not, Bool.and_eq_false_iff] at ho
          by_cases g1 : 97 ≤ nm s k
          · have g2 : ¬ nm s k ≤ 122 := by omega
            have g3 : 48 ≤ nm s k := by omega
            have g4 : ¬ nm s k ≤ 57 := by omega
            simp only [go_sem, h, i1, nm_fold, g1, g2, g3, g4, hx]
          · by_cases g3 : 48 ≤ nm s k
            · by_cases g4 : nm s k ≤ 57
              · have hk0 : ((k : Int) == 0) = true := by
                  rw [beq_iff_eq]
                  rcases ho.2 with h' | h' <;> omega
                simp only [go_sem, h, i1, nm_fold, g1, g3, g4, hk0, hx]
              · simp only [go_sem, h, i1, nm_fold, g1, g3, g4, hx]
            · simp only [go_sem, h, i1, nm_fold, g1, g3, hx]
        · have nx : ∀ j, j < k + 1 → okAt s j = true := below_succ hall ho
          simp only [okAt, Bool.or_eq_true, decide_eq_true_eq, Bool.and_eq_true] at ho
          by_cases g1 : 97 ≤ nm s k
          · have g2 : nm s k ≤ 122 := by omega
            have g3 : 48 ≤ nm s k := by omega
            have g4 : ¬ nm s k ≤ 57 := by omega
            simp only [go_sem, h, i1, nm_fold, g1, g2, g3, g4, w1]
            exact ⟨⟨k + 1, by omega, nx⟩, by show s.length - (k + 1) < s.length - k; omega, ⟨rfl, (forall_cons rfl (forall_cons rfl (forall_cons rfl (forall_nil)))), forall_nil, forall_nil⟩⟩
          · have g3 : 48 ≤ nm s k := by omega
            have g4 : nm s k ≤ 57 := by omega
            have hk0 : ((k : Int) == 0) = false := beq_eq_false_iff_ne.2 (by omega)
            simp only [go_sem, h, i1, nm_fold, g1, g3, g4, hk0, w1]
            exact ⟨⟨k + 1, by omega, nx⟩, by show s.length - (k + 1) < s.length - k; omega, ⟨rfl, (forall_cons rfl (forall_cons rfl (forall_cons rfl (forall_nil)))), forall_nil, forall_nil⟩⟩
      · have hx : nameB s = true := by
          rw [hn, List.all_eq_true]
          intro j hj
          exact hall j (by have := List.mem_range.1 hj; omega)
        simp only [go_sem, h, hx]
def placeB (r : Rf) : Bool := (decide (r.sc = 0) || decide (r.sc = 1)) && (nameB r.nm && (decide (r.gr = []) || nameB r.gr))
set_option maxRecDepth 20000 in
set_option maxHeartbeats 4000000 in
theorem Place_pure (r : Rf) : PL.Pure Tryz.prog 79 [ref r] (.bool (placeB r)) := by
  have hN := Name_pure r.nm
  have hG := Name_pure r.gr
  by_cases hs : r.sc = 0 ∨ r.sc = 1
  · have hs' : (decide (r.sc = 0) || decide (r.sc = 1)) = true := by simpa using hs
    have key : PL.Pure Tryz.prog 79 [ref r] (.bool (nameB r.nm && (decide (r.gr = []) || nameB r.gr))) := by
      cases hn : nameB r.nm
      · rw [hn] at hN
        rcases hs with h0 | h1
        · have q : (r.sc != 0) = false := by rw [h0]; rfl
          refine PL.Pure.of_v Tryz.func79 (by decide) rfl Tryz.ntmps79 Tryz.results79 (by simp) rfl ?_
          simp only [go_sem, ref, q]
          refine vCall_of (hN) ?_ ?_ ?_; (focus simp only [go_sem]); (focus simp only [go_sem])
          simp only [go_sem, Bool.false_and]
        · have q : (r.sc != 0) = true := by rw [h1]; rfl
          have q1 : (r.sc != 1) = false := by rw [h1]; rfl
          refine PL.Pure.of_v Tryz.func79 (by decide) rfl Tryz.ntmps79 Tryz.results79 (by simp) rfl ?_
          simp only [go_sem, ref, q, q1]
          refine vCall_of (hN) ?_ ?_ ?_; (focus simp only [go_sem]); (focus simp only [go_sem])
          simp only [go_sem, Bool.false_and]
      · rw [hn] at hN
        by_cases hg : r.gr = []
        · have hg' := beq_nil hg
          rcases hs with h0 | h1
          · have q : (r.sc != 0) = false := by rw [h0]; rfl
            refine PL.Pure.of_v Tryz.func79 (by decide) rfl Tryz.ntmps79 Tryz.results79 (by simp) rfl ?_
            simp only [go_sem, ref, q]
            refine vCall_of (hN) ?_ ?_ ?_; (focus simp only [go_sem]); (focus simp only [go_sem])
            simp only [go_sem, Bool.true_and, hg', decide_eq_true hg, Bool.true_or]
          · have q : (r.sc != 0) = true := by rw [h1]; rfl
            have q1 : (r.sc != 1) = false := by rw [h1]; rfl
            refine PL.Pure.of_v Tryz.func79 (by decide) rfl Tryz.ntmps79 Tryz.results79 (by simp) rfl ?_
            simp only [go_sem, ref, q, q1]
            refine vCall_of (hN) ?_ ?_ ?_; (focus simp only [go_sem]); (focus simp only [go_sem])
            simp only [go_sem, Bool.true_and, hg', decide_eq_true hg, Bool.true_or]
        · have hg' := beq_nil' hg
          rcases hs with h0 | h1
          · have q : (r.sc != 0) = false := by rw [h0]; rfl
            refine PL.Pure.of_v Tryz.func79 (by decide) rfl Tryz.ntmps79 Tryz.results79 (by simp) rfl ?_
            simp only [go_sem, ref, q]
            refine vCall_of (hN) ?_ ?_ ?_; (focus simp only [go_sem]); (focus simp only [go_sem])
            simp only [go_sem, hg']
            refine vCall_of (hG) ?_ ?_ ?_; (focus simp only [go_sem]); (focus simp only [go_sem])
            simp only [go_sem, Bool.true_and, decide_eq_false hg, Bool.false_or]
          · have q : (r.sc != 0) = true := by rw [h1]; rfl
            have q1 : (r.sc != 1) = false := by rw [h1]; rfl
            refine PL.Pure.of_v Tryz.func79 (by decide) rfl Tryz.ntmps79 Tryz.results79 (by simp) rfl ?_
            simp only [go_sem, ref, q, q1]
            refine vCall_of (hN) ?_ ?_ ?_; (focus simp only [go_sem]); (focus simp only [go_sem])
            simp only [go_sem, hg']
            refine vCall_of (hG) ?_ ?_ ?_; (focus simp only [go_sem]); (focus simp only [go_sem])
            simp only [go_sem, Bool.true_and, decide_eq_false hg, Bool.false_or]
    simp only [placeB, hs', Bool.true_and]
    exact key
  · have q : (r.sc != 0) = true := bne_iff_ne.2 (by omega)
    have q1 : (r.sc != 1) = true := bne_iff_ne.2 (by omega)
    have hx : placeB r = false := by
      have : (decide (r.sc = 0) || decide (r.sc = 1)) = false := by simp; omega
      simp only [placeB, this, Bool.false_and]
    refine PL.Pure.of_v Tryz.func79 (by decide) rfl Tryz.ntmps79 Tryz.results79 (by simp) rfl ?_
    simp only [go_sem, ref, q, q1, hx]
set_option maxHeartbeats 1000000 in
theorem Text_pure (s : Str) : PL.Pure Tryz.prog 82 [.str s] (.bool (decide ((s.length : Int) ≤ 40))) := by
  refine PL.Pure.of_v Tryz.func82 (by decide) rfl Tryz.ntmps82 Tryz.results82 (by simp) rfl ?_
  simp only [go_sem]
end Go.Proofs.YtcomkajmhlhphaaGreat

set_option linter.unusedSimpArgs false
set_option linter.unusedVariables false
set_option linter.unusedSimpArgs false
set_option linter.unusedVariables false
namespace Go.Proofs.YtcomkajmhlhphaaGreat
open Go.PL
theorem strs_dids (l : List Str) : (strs l).dids = [] := by simp only [strs, PV.dids, didsL_str]
end Go.Proofs.YtcomkajmhlhphaaGreat

set_option linter.unusedSimpArgs false
set_option linter.unusedVariables false
set_option linter.unusedSimpArgs false
set_option linter.unusedVariables false
namespace Go.Proofs.YtcomkajmhlhphaaGreat
open Go.PL
set_option maxRecDepth 20000 in
set_option maxHeartbeats 4000000 in
theorem RName_pure (s : Str) : PL.Pure Tryz.prog 103 [.str s] (.bool (nameB s)) := by
  by_cases h1 : (s.length : Int) < 1
  · have hx : nameB s = false := by simp only [nameB, show ¬ (1 ≤ s.length ∧ s.length ≤ 12) by omega, decide_false, Bool.false_and]
    refine PL.Pure.of_v Tryz.func103 (by decide) rfl Tryz.ntmps103 Tryz.results103 (by simp) rfl ?_
    simp only [go_sem, h1, hx]
  · by_cases h2 : (12 : Int) < (s.length : Int)
    · have hx : nameB s = false := by simp only [nameB, show ¬ (1 ≤ s.length ∧ s.length ≤ 12) by omega, decide_false, Bool.false_and]
      refine PL.Pure.of_v Tryz.func103 (by decide) rfl Tryz.ntmps103 Tryz.results103 (by simp) rfl ?_
      simp only [go_sem, h1, h2, hx]
    · have hn : nameB s = (List.range s.length).all (okAt s) := by simp only [nameB, show (1 ≤ s.length ∧ s.length ≤ 12) by omega, and_self, decide_true, Bool.true_and]
      refine PL.Pure.of_v Tryz.func103 (by decide) rfl Tryz.ntmps103 Tryz.results103 (by simp) rfl ?_
      simp only [go_sem, h1, h2]
      refine vLoopM (ι := { k : Nat // k ≤ s.length ∧ ∀ j, j < k → okAt s j = true }) 50 (fun x => [(0, .str s), (3, .int .i64 (x.1 : Int))]) (fun x => []) (fun x => []) (fun x => s.length - x.1) ⟨0, by omega, fun j hj => by omega⟩
        ⟨rfl, (forall_cons rfl (forall_cons rfl (forall_nil))), forall_nil, forall_nil⟩ (fun x => ⟨(forall_cons rfl (forall_cons rfl (forall_nil))), forall_nil⟩) (fun x => ?_)
      obtain ⟨k, hk, hall⟩ := x
      simp only
      by_cases h : (k : Int) < (s.length : Int)
      · have hka : k < s.length := by omega
        have w1 : IntKind.i64.wrap ((k : Int) + 1) = ((k + 1 : Nat) : Int) := by rw [w64 (by omega)]; rfl
        have i1 : (0 : Int) ≤ (k : Int) := by omega
        cases ho : okAt s k
        · have hx : nameB s = false := by
            rw [hn, List.all_eq_false]
            exact ⟨k, by simpa using hka, by simp [ho]⟩
          simp only [okAt, Bool.or_eq_false_iff, decide_eq_false_iff_not, Bool.and_eq_false_iff] at ho
          by_cases g1 : 97 ≤ nm s k
          · have g2 : ¬ nm s k ≤ 122 := by omega
            have g3 : 48 ≤ nm s k := by omega
            have g4 : ¬ nm s k ≤ 57 := by omega
            simp only [go_sem, h, i1, nm_fold, g1, g2, g3, g4, hx]
          · by_cases g3 : 48 ≤ nm s k
            · by_cases g4 : nm s k ≤ 57
              · have hk0 : ((k : Int) == 0) = true := by
                  rw [beq_iff_eq]
                  rcases ho.2 with h' | h' <;> omega
                simp only [go_sem, h, i1, nm_fold, g1, g3, g4, hk0, hx]
              · simp only [go_sem, h, i1, nm_fold, g1, g3, g4, hx]
            · simp only [go_sem, h, i1, nm_fold, g1, g3, hx]
        · have nx : ∀ j, j < k + 1 → okAt s j = true := below_succ hall ho
          simp only [okAt, Bool.or_eq_true, decide_eq_true_eq, Bool.and_eq_true] at ho
          by_cases g1 : 97 ≤ nm s k
          · have g2 : nm s k ≤ 122 := by omega
            have g3 : 48 ≤ nm s k := by omega
            have g4 : ¬ nm s k ≤ 57 := by omega
            simp only [go_sem, h, i1, nm_fold, g1, g2, g3, g4, w1]
            exact ⟨⟨k + 1, by omega, nx⟩, by show s.length - (k + 1) < s.length - k; omega, ⟨rfl, (forall_cons rfl (forall_cons rfl (forall_nil))), forall_nil, forall_nil⟩⟩
          · have g3 : 48 ≤ nm s k := by omega
            have g4 : nm s k ≤ 57 := by omega
            have hk0 : ((k : Int) == 0) = false := beq_eq_false_iff_ne.2 (by omega)
            simp only [go_sem, h, i1, nm_fold, g1, g3, g4, hk0, w1]
            exact ⟨⟨k + 1, by omega, nx⟩, by show s.length - (k + 1) < s.length - k; omega, ⟨rfl, (forall_cons rfl (forall_cons rfl (forall_nil))), forall_nil, forall_nil⟩⟩
      · have hx : nameB s = true := by
          rw [hn, List.all_eq_true]
          intro j hj
          exact hall j (by have := List.mem_range.1 hj; omega)
        simp only [go_sem, h, hx]
theorem place_alt (r : Rf) : placeB r = (decide (0 ≤ r.sc) && (decide (r.sc ≤ 1) && (nameB r.nm && (decide (r.gr = []) || nameB r.gr)))) := by
  have : (decide (r.sc = 0) || decide (r.sc = 1)) = (decide (0 ≤ r.sc) && decide (r.sc ≤ 1)) := by
    rw [Bool.eq_iff_iff]; simp; omega
  rw [placeB, this, Bool.and_assoc]
set_option maxRecDepth 20000 in
set_option maxHeartbeats 4000000 in
theorem RPlace_pure (r : Rf) : PL.Pure Tryz.prog 99 [ref r] (.bool (placeB r)) := by
  rw [place_alt]
  have hN := RName_pure r.nm
  have hG := RName_pure r.gr
  refine PL.Pure.of_v Tryz.func99 (by decide) rfl Tryz.ntmps99 Tryz.results99 (by simp) rfl ?_
  simp only [go_sem, ref]
  repeat' (first | (refine vGuard_t (fun h => ?_) (fun h => ?_) <;> (try simp only [go_sem, h])) | (refine vGuard_f (fun h => ?_) (fun h => ?_) <;> (try simp only [go_sem, h])) | (refine vCond_b (fun h => ?_) (fun h => ?_) <;> (try simp only [go_sem, h])) | ((refine vCall_of (hN) ?_ ?_ ?_); (focus simp only [go_sem]); (focus exact rfl); (try simp only [go_sem])) | ((refine vCall_of (hG) ?_ ?_ ?_); (focus simp only [go_sem]); (focus exact rfl); (try simp only [go_sem])) | ((refine vDrawQ (by kernel_rfl) (by kernel_rfl) ?_); (try simp only [go_sem])))
  all_goals (simp_all)
set_option maxHeartbeats 1000000 in
theorem RHas_pure (l : List Str) (s : Str) (hl : l.length ≤ maxLen) : PL.Pure Tryz.prog 137 [strs l, .str s] (.bool (l.any (· == s))) := by
  refine PL.Pure.of_v Tryz.func137 (by decide) rfl Tryz.ntmps137 Tryz.results137 (by simp) rfl ?_
  simp only [go_sem, strs]
  refine vLoopM (ι := { k : Nat // k ≤ l.length ∧ ∀ j, j < k → (l.getD j [] == s) = false }) 18 (fun x => [(0, strs l), (1, .str s), (5, .int .i64 (x.1 : Int))]) (fun x => []) (fun x => []) (fun x => l.length - x.1) ⟨0, by omega, fun j hj => by omega⟩
    ⟨rfl, (forall_cons rfl (forall_cons rfl (forall_cons rfl (forall_nil)))), forall_nil, forall_nil⟩ (fun x => ⟨(forall_cons rfl (forall_cons rfl (forall_cons rfl (forall_nil)))), forall_nil⟩) (fun x => ?_)
  obtain ⟨k, hk, hall⟩ := x
  simp only
  by_cases h : (k : Int) < (l.length : Int)
  · have hka : k < l.length := by omega
    have w1 := w64s hka hl
    have i1 : (0 : Int) ≤ (k : Int) := by omega
    cases he : (l.getD k [] == s)
    · simp only [go_sem, strs, h, getD_str hka, i1, he, w1]
      exact ⟨⟨k + 1, by omega, below_succ hall he⟩, by show l.length - (k + 1) < l.length - k; omega, ⟨rfl, (forall_cons rfl (forall_cons rfl (forall_cons rfl (forall_nil)))), forall_nil, forall_nil⟩⟩
    · have hx := any_true (p := (· == s)) hka he
      simp only [go_sem, strs, h, getD_str hka, i1, he, hx]
  · have hx := any_false (p := (· == s)) (d := []) (l := l) (fun j hj => hall j (by omega))
    simp only [go_sem, strs, h, hx]
def lessB (a b : Rf) : Bool := if a.sc ≠ b.sc then decide (a.sc < b.sc) else if a.gr ≠ b.gr then bytesLt a.gr b.gr else bytesLt a.nm b.nm
set_option maxHeartbeats 1000000 in
theorem RLess_pure (a b : Rf) : PL.Pure Tryz.prog 149 [ref a, ref b] (.bool (lessB a b)) := by
  refine PL.Pure.of_v Tryz.func149 (by decide) rfl Tryz.ntmps149 Tryz.results149 (by simp) rfl ?_
  simp only [go_sem, ref]
  repeat' (first | (refine vGuard_t (fun h => ?_) (fun h => ?_) <;> (try simp only [go_sem, h])) | (refine vGuard_f (fun h => ?_) (fun h => ?_) <;> (try simp only [go_sem, h])) | (refine vCond_b (fun h => ?_) (fun h => ?_) <;> (try simp only [go_sem, h])) | ((refine vDrawQ (by kernel_rfl) (by kernel_rfl) ?_); (try simp only [go_sem])))
  all_goals (simp_all [lessB])
end Go.Proofs.YtcomkajmhlhphaaGreat

set_option linter.unusedSimpArgs false
set_option linter.unusedVariables false
set_option linter.unusedSimpArgs false
set_option linter.unusedVariables false
namespace Go.Proofs.YtcomkajmhlhphaaGreat
open Go.PL
attribute [go_sem] Option.map_some Option.map_none Option.isNone_none
theorem take_str (l : List Str) (k : Nat) : List.take k (l.map PV.str) = (l.take k).map PV.str := by rw [List.map_take]
def caseOk (l : List Str) (i : Nat) : Bool := nameB (l.getD i []) && !((l.take i).any (· == l.getD i []))
def casesB (l : List Str) : Bool := (List.range l.length).all (caseOk l)
theorem casesB_false {l : List Str} {k : Nat} (hk : k < l.length) (h : caseOk l k = false) : casesB l = false := by
  rw [casesB, List.all_eq_false]; exact ⟨k, by simpa using hk, by simp [h]⟩
theorem casesB_true {l : List Str} (h : ∀ j, j < l.length → caseOk l j = true) : casesB l = true := by
  rw [casesB, List.all_eq_true]; intro j hj; exact h j (List.mem_range.1 hj)
def tail3 (f : Fd) : Bool := casesB f.cases' && (decide ((f.cases'.length : Int) < 7) && f.cases'.any (· == f.df))
def tail2 (f : Fd) : Bool := !decide (0 < (f.cases'.length : Int)) && ((decide (f.kind = 2) && decide ((f.df.length : Int) < 41)) || (decide (f.kind = 4) && decide (f.df = [])))
def rightF (f : Fd) : Bool :=
  placeB f.at' && (if f.kind = 1 then decide (f.df = []) && (decide ((f.cases'.length : Int) = 0) && (decide (0 < f.worth) && decide (f.worth < 1048577)))
    else decide (f.worth = 0) && (if f.kind = 3 then tail3 f else tail2 f))
set_option maxRecDepth 20000 in
set_option maxHeartbeats 8000000 in
theorem RRight_pure (f : Fd) (hl : f.cases'.length ≤ maxLen) : PL.Pure Tryz.prog 98 [fld f] (.bool (rightF f)) := by
  have hP := RPlace_pure f.at'
  by_cases h3 : f.kind = 3
  · have k1 : (f.kind == 1) = false := by rw [h3]; rfl
    have k3 : (f.kind == 3) = true := by rw [h3]; rfl
    cases hp : placeB f.at'
    · rw [hp] at hP
      refine PL.Pure.of_v Tryz.func98 (by decide) rfl Tryz.ntmps98 Tryz.results98 (by simp) rfl ?_
      simp only [go_sem, fld]
      refine vCall_of (hP) ?_ ?_ ?_; (focus simp only [go_sem, ref]); (focus simp only [go_sem, ref])
      simp only [go_sem, rightF, hp, Bool.false_and]
    · rw [hp] at hP
      by_cases hw : f.worth = 0
      · have hw' : (f.worth != 0) = false := by rw [hw]; rfl
        have hx : rightF f = tail3 f := by
          simp only [rightF, hp, h3, hw, Bool.true_and, decide_true, if_true]
          rfl
        rw [hx]
        refine PL.Pure.of_v Tryz.func98 (by decide) rfl Tryz.ntmps98 Tryz.results98 (by simp) rfl ?_
        simp only [go_sem, fld]
        refine vCall_of (hP) ?_ ?_ ?_; (focus simp only [go_sem, ref]); (focus simp only [go_sem, ref])
        simp only [go_sem, k1, k3, hw']
        refine vLoopM (ι := { k : Nat // k ≤ f.cases'.length ∧ ∀ j, j < k → caseOk f.cases' j = true }) 96 (fun x => [(1, .ptr 1 0), (3, .int .i64 (x.1 : Int))]) (fun x => [(1, [.int .i64 f.at'.sc, .str f.at'.gr, .str f.at'.nm, .int .i64 f.kind, .str f.df, .sl .no (f.cases'.map .str), .int .i64 f.worth], false)]) (fun x => []) (fun x => f.cases'.length - x.1) ⟨0, by omega, fun j hj => by omega⟩
          ⟨rfl, (forall_cons rfl (forall_cons rfl (forall_nil))), forall_cons ⟨rfl, rfl⟩ forall_nil, forall_nil⟩ (fun x => ⟨(forall_cons rfl (forall_cons rfl (forall_nil))), (forall_cons rfl (forall_nil))⟩) (fun x => ?_)
        obtain ⟨k, hk, hall⟩ := x
        simp only
        by_cases h : (k : Int) < (f.cases'.length : Int)
        · have hka : k < f.cases'.length := by omega
          have w1 := w64s hka hl
          have i1 : (0 : Int) ≤ (k : Int) := by omega
          have i2 : (k : Int) ≤ (f.cases'.length : Int) := by omega
          have hN := RName_pure (f.cases'.getD k [])
          have hT : (f.cases'.take k).length ≤ maxLen := by rw [List.length_take]; omega
          have hH := RHas_pure (f.cases'.take k) (f.cases'.getD k []) hT
          cases hn : nameB (f.cases'.getD k [])
          · rw [hn] at hN
            have hz : tail3 f = false := by simp only [tail3, casesB_false hka (by simp only [caseOk, hn, Bool.false_and]), Bool.false_and]
            simp only [go_sem, h, i1]
            refine vDrawQ (by kernel_rfl) (by kernel_rfl) ?_
            simp only [go_sem, getD_str hka, h, i1]
            refine vCall_of (hN) ?_ ?_ ?_; (focus simp only [go_sem]); (focus simp only [go_sem])
            simp only [go_sem, hz]
          · rw [hn] at hN
            cases hh : (f.cases'.take k).any (· == f.cases'.getD k [])
            · rw [hh] at hH
              have ok : caseOk f.cases' k = true := by simp only [caseOk, hn, hh, Bool.not_false, Bool.and_self]
              simp only [go_sem, h, i1]
              refine vDrawQ (by kernel_rfl) (by kernel_rfl) ?_
              simp only [go_sem, getD_str hka, h, i1]
              refine vCall_of (hN) ?_ ?_ ?_; (focus simp only [go_sem]); (focus simp only [go_sem])
              simp only [go_sem, getD_str hka, h, i1, i2, cut, Nat.sub_zero, take_str, sized_str]
              refine vCall_of (hH) ?_ ?_ ?_; (focus simp only [go_sem, strs]); (focus simp only [go_sem, strs])
              simp only [go_sem, w1]
              exact ⟨⟨k + 1, by omega, below_succ hall ok⟩, by show f.cases'.length - (k + 1) < f.cases'.length - k; omega, ⟨rfl, (forall_cons rfl (forall_cons rfl (forall_nil))), forall_cons ⟨rfl, rfl⟩ forall_nil, forall_nil⟩⟩
            · rw [hh] at hH
              have hz : tail3 f = false := by simp only [tail3, casesB_false hka (by simp only [caseOk, hn, hh, Bool.not_true, Bool.and_false]), Bool.false_and]
              simp only [go_sem, h, i1]
              refine vDrawQ (by kernel_rfl) (by kernel_rfl) ?_
              simp only [go_sem, getD_str hka, h, i1]
              refine vCall_of (hN) ?_ ?_ ?_; (focus simp only [go_sem]); (focus simp only [go_sem])
              simp only [go_sem, getD_str hka, h, i1, i2, cut, Nat.sub_zero, take_str, sized_str]
              refine vCall_of (hH) ?_ ?_ ?_; (focus simp only [go_sem, strs]); (focus simp only [go_sem, strs])
              simp only [go_sem, hz]
        · have hc := casesB_true (l := f.cases') (fun j hj => hall j (by omega))
          have hH := RHas_pure f.cases' f.df hl
          by_cases h7 : (f.cases'.length : Int) < 7
          · simp only [go_sem, h, h7]
            refine vCall_of (hH) ?_ ?_ ?_; (focus simp only [go_sem, strs]); (focus simp only [go_sem, strs])
            simp only [go_sem, tail3, hc, h7, Bool.true_and]
          · simp only [go_sem, h, h7, tail3, hc, Bool.true_and, Bool.false_and]
      · have hw' : (f.worth != 0) = true := bne_iff_ne.2 hw
        have hx : rightF f = false := by
          simp only [rightF, hp, h3, hw, Bool.true_and, decide_false, Bool.false_and]
          rfl
        refine PL.Pure.of_v Tryz.func98 (by decide) rfl Tryz.ntmps98 Tryz.results98 (by simp) rfl ?_
        simp only [go_sem, fld]
        refine vCall_of (hP) ?_ ?_ ?_; (focus simp only [go_sem, ref]); (focus simp only [go_sem, ref])
        simp only [go_sem, k1, k3, hw', hx]
  · have k3 : (f.kind == 3) = false := beq_eq_false_iff_ne.2 h3
    have hx : rightF f = (placeB f.at' && (if f.kind = 1 then decide (f.df = []) && (decide ((f.cases'.length : Int) = 0) && (decide (0 < f.worth) && decide (f.worth < 1048577))) else decide (f.worth = 0) && tail2 f)) := by
      simp only [rightF, h3, if_false]
    rw [hx]
    refine PL.Pure.of_v Tryz.func98 (by decide) rfl Tryz.ntmps98 Tryz.results98 (by simp) rfl ?_
    simp only [go_sem, fld]
    refine vCall_of (hP) ?_ ?_ ?_; (focus simp only [go_sem, ref]); (focus simp only [go_sem, ref])
    simp only [go_sem]
    repeat' (first | (refine vGuard_t (fun h => ?_) (fun h => ?_) <;> (try simp only [go_sem, h, k3])) | (refine vGuard_f (fun h => ?_) (fun h => ?_) <;> (try simp only [go_sem, h, k3])) | (refine vCond_b (fun h => ?_) (fun h => ?_) <;> (try simp only [go_sem, h, k3])) | ((refine vDrawQ (by kernel_rfl) (by kernel_rfl) ?_); (try simp only [go_sem, k3])))
    all_goals (simp_all [tail2])
    all_goals (cases f.df <;> simp)
end Go.Proofs.YtcomkajmhlhphaaGreat

set_option linter.unusedSimpArgs false
set_option linter.unusedVariables false
set_option linter.unusedSimpArgs false
set_option linter.unusedVariables false
namespace Go.Proofs.YtcomkajmhlhphaaGreat
open Go.PL
theorem all_true {α : Type} {p : α → Bool} {l : List α} {d : α} (h : ∀ j, j < l.length → p (l.getD j d) = true) : l.all p = true := by
  rw [List.all_eq_true]
  intro x hx
  obtain ⟨j, hj, rfl⟩ := List.getElem_of_mem hx
  have := h j hj
  simpa [List.getD_eq_getElem?_getD, hj] using this
theorem all_false {α : Type} {p : α → Bool} {l : List α} {k : Nat} {d : α} (hk : k < l.length) (h : p (l.getD k d) = false) : l.all p = false := by
  rw [List.all_eq_false]
  exact ⟨l.getD k d, getD_mem' hk, by rw [h]; simp⟩
theorem rall_false {p : Nat → Bool} {n k : Nat} (hk : k < n) (h : p k = false) : (List.range n).all p = false := by
  rw [List.all_eq_false]; exact ⟨k, by simpa using hk, by simp [h]⟩
theorem rall_true {p : Nat → Bool} {n : Nat} (h : ∀ j, j < n → p j = true) : (List.range n).all p = true := by
  rw [List.all_eq_true]; intro j hj; exact h j (List.mem_range.1 hj)
end Go.Proofs.YtcomkajmhlhphaaGreat
