/- Contracts of functions and laws of this seat, each for every input that it names: lemmas of the proof. -/
import Derived.Test.YtbojhapdidieoaaDe
set_option linter.unusedSimpArgs false
set_option linter.unusedVariables false
set_option linter.unusedSimpArgs false
set_option linter.unusedVariables false
namespace Go.Proofs.Ytbojhapdidieoaa
open Go.PL
structure Fd where
  at' : Rf
  kind : Int
  df : Str
  cases' : List Str
  worth : Int
  deriving DecidableEq, Inhabited
def fld (f : Fd) : PV := .agg [.int .i64 f.at'.sc, .str f.at'.gr, .str f.at'.nm, .int .i64 f.kind, .str f.df, .sl .no (f.cases'.map .str), .int .i64 f.worth]
def flds (l : List Fd) : PV := .sl .no (l.map fld)
theorem getD_fld {l : List Fd} {i : Nat} (h : i < l.length) : (l.map fld).getD i .any = fld (l.getD i default) := by
  simp [List.getD_eq_getElem?_getD, h]
def valueM (f : Fd) : En := ⟨f.at', 0, if f.kind = 1 ∨ f.kind = 4 then [] else [f.df]⟩
attribute [go_sem] partsOk
set_option maxHeartbeats 1000000 in
theorem Value_pure (f : Fd) : PL.Pure Try.prog 153 [fld f] (ent (valueM f)) := by
  by_cases h1 : f.kind = 1
  · have h1' : (f.kind != 1) = false := by rw [h1]; rfl
    refine PL.Pure.of_v Try.func153 (by decide) rfl Try.ntmps153 Try.results153 (by simp) (ent_dids _) ?_
    simp only [go_sem, reduceIte, Nat.reduceEqDiff, reduceCtorEq, Nat.reduceLT, Nat.reduceAdd, Nat.reduceSub, Nat.reduceMul, Nat.reduceLeDiff, Int.reduceLT, Int.reduceLE, Int.reduceToNat, Int.reduceEq, Int.reduceAdd, Int.reduceSub, Int.reduceNeg, Int.reduceBNe, Int.reduceBEq, fld, ent, valueM, h1']
    simp [h1]
  · have h1' : (f.kind != 1) = true := bne_iff_ne.2 h1
    by_cases h2 : f.kind = 4
    · have h2' : (f.kind != 4) = false := by rw [h2]; rfl
      refine PL.Pure.of_v Try.func153 (by decide) rfl Try.ntmps153 Try.results153 (by simp) (ent_dids _) ?_
      simp only [go_sem, reduceIte, Nat.reduceEqDiff, reduceCtorEq, Nat.reduceLT, Nat.reduceAdd, Nat.reduceSub, Nat.reduceMul, Nat.reduceLeDiff, Int.reduceLT, Int.reduceLE, Int.reduceToNat, Int.reduceEq, Int.reduceAdd, Int.reduceSub, Int.reduceNeg, Int.reduceBNe, Int.reduceBEq, fld, ent, valueM, h1', h2']
      simp [h2]
    · have h2' : (f.kind != 4) = true := bne_iff_ne.2 h2
      refine PL.Pure.of_v Try.func153 (by decide) rfl Try.ntmps153 Try.results153 (by simp) (ent_dids _) ?_
      simp only [go_sem, reduceIte, Nat.reduceEqDiff, reduceCtorEq, Nat.reduceLT, Nat.reduceAdd, Nat.reduceSub, Nat.reduceMul, Nat.reduceLeDiff, Int.reduceLT, Int.reduceLE, Int.reduceToNat, Int.reduceEq, Int.reduceAdd, Int.reduceSub, Int.reduceNeg, Int.reduceBNe, Int.reduceBEq, fld, ent, valueM, h1', h2', h1, h2, or_self]
def blanksM (l : List Fd) (sc : Int) : List En := (l.filter fun f => f.at'.sc == sc).map valueM
theorem sized_ent (l : List En) : Sized 5 (l.map ent) := fun e he => by
  obtain ⟨x, _, rfl⟩ := List.mem_map.1 he; rfl
theorem atoms_ent (l : List En) : Atoms (l.map ent) := fun e he => by
  obtain ⟨x, _, rfl⟩ := List.mem_map.1 he; rfl
theorem sized_ent1 (e : En) : Sized 5 [PV.agg [.int .i64 e.at'.sc, .str e.at'.gr, .str e.at'.nm, .int .i64 e.n, .sl .no (e.l.map .str)]] := sized_ent [e]
theorem atoms_ent1 (e : En) : Atoms [PV.agg [.int .i64 e.at'.sc, .str e.at'.gr, .str e.at'.nm, .int .i64 e.n, .sl .no (e.l.map .str)]] := atoms_ent [e]
theorem map_ent (l : List En) (e : En) : l.map ent ++ [PV.agg [.int .i64 e.at'.sc, .str e.at'.gr, .str e.at'.nm, .int .i64 e.n, .sl .no (e.l.map .str)]] = (l ++ [e]).map ent := by simp [ent]
theorem take_snoc {α : Type} {l : List α} {k : Nat} (h : k < l.length) {d : α} : l.take (k + 1) = l.take k ++ [l.getD k d] := by
  rw [List.take_succ_eq_append_getElem h, List.getD_eq_getElem?_getD, List.getElem?_eq_getElem h]; rfl
theorem blanks_len (l : List Fd) (sc : Int) : (blanksM l sc).length ≤ l.length := by
  simp only [blanksM, List.length_map]; exact List.length_filter_le _ _
theorem didsL_ent (l : List En) : PV.didsL (l.map ent) = [] := by
  induction l with
  | nil => rfl
  | cons e l ih => rw [List.map_cons, PV.didsL, ih, ent_dids]; rfl
theorem ents_dids (l : List En) : (ents l).dids = [] := by simp only [ents, PV.dids, didsL_ent]
theorem blankDoc_dids (l : List En) : (doc ⟨l, []⟩).dids = [] := by simp only [doc, PV.dids, PV.didsL, didsL_ent, List.map_nil, List.append_nil]
def rootL : List Fd := [⟨⟨0, [], [99, 111, 117, 112, 111, 110]⟩, 2, [], [], 0⟩, ⟨⟨1, [], [110, 111, 116, 101]⟩, 2, [], [], 0⟩, ⟨⟨1, [], [113, 116, 121]⟩, 1, [], [], 1⟩,
  ⟨⟨1, [], [115, 105, 122, 101]⟩, 3, [109, 101, 100, 105, 117, 109], [[115, 109, 97, 108, 108], [109, 101, 100, 105, 117, 109], [108, 97, 114, 103, 101]], 0⟩, ⟨⟨1, [], [116, 97, 103, 115]⟩, 4, [], [], 0⟩]
theorem sized_fld (l : List Fd) : Sized 7 (l.map fld) := fun e he => by
  obtain ⟨x, _, rfl⟩ := List.mem_map.1 he; rfl
theorem atoms_fld (l : List Fd) : Atoms (l.map fld) := fun e he => by
  obtain ⟨x, _, rfl⟩ := List.mem_map.1 he; rfl
theorem didsL_fld (l : List Fd) : PV.didsL (l.map fld) = [] := by
  induction l with
  | nil => rfl
  | cons e l ih => rw [List.map_cons, PV.didsL, ih]; simp only [fld, PV.dids, PV.didsL, didsL_str, List.append_nil]
theorem flds_dids (l : List Fd) : (flds l).dids = [] := by simp only [flds, PV.dids, didsL_fld]