/- Contracts of functions and laws of this seat, each for every input that it names: lemmas of the proof. -/
import Derived.Test.YtcinpbgpbehndaaDe
set_option linter.unusedSimpArgs false
set_option linter.unusedVariables false
set_option linter.unusedSimpArgs false
set_option linter.unusedVariables false
namespace Go.Proofs.Ytcinpbgpbehndaa
open Go.PL
structure Fd where
  at' : Rf
  kind : Int
  df : Str
  cases' : List Str
  worth : Int
  deriving DecidableEq, Inhabited
def fld (f : Fd) : PV := .agg [.int .i64 f.at'.sc, .str f.at'.gr, .str f.at'.nm, .int .i64 f.kind, .str f.df, .sl .no (f.cases'.map .str), .int .i64 f.worth]
def flds (l : List Fd) : PV := .sl .no (l.map fld)
theorem getD_fld {l : List Fd} {i : Nat} (h : i < l.length) : (l.map fld).getD i .any = fld (l.getD i default) := by
  simp [List.getD_eq_getElem?_getD, h]
def valueM (f : Fd) : En := ⟨f.at', 0, if f.kind = 1 ∨ f.kind = 4 then [] else [f.df]⟩
attribute [go_sem] partsOk
set_option maxHeartbeats 1000000 in
theorem Value_pure (f : Fd) : PL.Pure Try.prog 108 [fld f] (ent (valueM f)) := by
  by_cases h1 : f.kind = 1
  · have h1' : (f.kind != 1) = false := by rw [h1]; rfl
    refine PL.Pure.of_v Try.func108 (by decide) rfl Try.ntmps108 Try.results108 (by simp) (ent_dids _) ?_
    simp only [go_sem, reduceIte, Nat.reduceEqDiff, reduceCtorEq, Nat.reduceLT, Nat.reduceAdd, Nat.reduceSub, Nat.reduceMul, Nat.reduceLeDiff, Int.reduceLT, Int.reduceLE, Int.reduceToNat, Int.reduceEq, Int.reduceAdd, Int.reduceSub, Int.reduceNeg, Int.reduceBNe, Int.reduceBEq, fld, ent, valueM, h1']
    simp [h1]
  · have h1' : (f.kind != 1) = true := bne_iff_ne.2 h1
    by_cases h2 : f.kind = 4
    · have h2' : (f.kind != 4) = false := by rw [h2]; rfl
      refine PL.Pure.of_v Try.func108 (by decide) rfl Try.ntmps108 Try.results108 (by simp) (ent_dids _) ?_
      simp only [go_sem, reduceIte, Nat.reduceEqDiff, reduceCtorEq, Nat.reduceLT, Nat.reduceAdd, Nat.reduceSub, Nat.reduceMul, Nat.reduceLeDiff, Int.reduceLT, Int.reduceLE, Int.reduceToNat, Int.reduceEq, Int.reduceAdd, Int.reduceSub, Int.reduceNeg, Int.reduceBNe, Int.reduceBEq, fld, ent, valueM, h1', h2']
      simp [h2]
    · have h2' : (f.kind != 4) = true := bne_iff_ne.2 h2
      refine PL.Pure.of_v Try.func108 (by decide) rfl Try.ntmps108 Try.results108 (by simp) (ent_dids _) ?_
      simp only [go_sem, reduceIte, Nat.reduceEqDiff, reduceCtorEq, Nat.reduceLT, Nat.reduceAdd, Nat.reduceSub, Nat.reduceMul, Nat.reduceLeDiff, Int.reduceLT, Int.reduceLE, Int.reduceToNat, Int.reduceEq, Int.reduceAdd, Int.reduceSub, Int.reduceNeg, Int.reduceBNe, Int.reduceBEq, fld, ent, valueM, h1', h2', h1, h2, or_self]
def blanksM (l : List Fd) (sc : Int) : List En := (l.filter fun f => f.at'.sc == sc).map valueM
theorem sized_ent (l : List En) : Sized 5 (l.map ent) := fun e he => by
  obtain ⟨x, _, rfl⟩ := List.mem_map.1 he; rfl
theorem atoms_ent (l : List En) : Atoms (l.map ent) := fun e he => by
  obtain ⟨x, _, rfl⟩ := List.mem_map.1 he; rfl
theorem sized_ent1 (e : En) : Sized 5 [PV.agg [.int .i64 e.at'.sc, .str e.at'.gr, .str e.at'.nm, .int .i64 e.n, .sl .no (e.l.map .str)]] := sized_ent [e]
theorem atoms_ent1 (e : En) : Atoms [PV.agg [.int .i64 e.at'.sc, .str e.at'.gr, .str e.at'.nm, .int .i64 e.n, .sl .no (e.l.map .str)]] := atoms_ent [e]
theorem map_ent (l : List En) (e : En) : l.map ent ++ [PV.agg [.int .i64 e.at'.sc, .str e.at'.gr, .str e.at'.nm, .int .i64 e.n, .sl .no (e.l.map .str)]] = (l ++ [e]).map ent := by simp [ent]
theorem take_snoc {α : Type} {l : List α} {k : Nat} (h : k < l.length) {d : α} : l.take (k + 1) = l.take k ++ [l.getD k d] := by
  rw [List.take_succ_eq_append_getElem h, List.getD_eq_getElem?_getD, List.getElem?_eq_getElem h]; rfl
theorem blanks_len (l : List Fd) (sc : Int) : (blanksM l sc).length ≤ l.length := by
  simp only [blanksM, List.length_map]; exact List.length_filter_le _ _
theorem didsL_ent (l : List En) : PV.didsL (l.map ent) = [] := by
  induction l with
  | nil => rfl
  | cons e l ih => rw [List.map_cons, PV.didsL, ih, ent_dids]; rfl
theorem ents_dids (l : List En) : (ents l).dids = [] := by simp only [ents, PV.dids, didsL_ent]
set_option maxRecDepth 20000 in
set_option maxHeartbeats 4000000 in
theorem blanks_pure (l : List Fd) (sc : Int) (hl : l.length ≤ 1000000) : PL.Pure Try.prog 75 [flds l, .int .i64 sc] (ents (blanksM l sc)) := by
  have hm : l.length ≤ maxLen := by rw [maxLen_eq]; omega
  refine PL.Pure.of_v Try.func75 (by decide) rfl Try.ntmps75 Try.results75 (by simp) (ents_dids _) ?_
  simp only [go_sem, reduceIte, Nat.reduceEqDiff, reduceCtorEq, Nat.reduceLT, Nat.reduceAdd, Nat.reduceSub, Nat.reduceMul, Nat.reduceLeDiff, Int.reduceLT, Int.reduceLE, Int.reduceToNat, Int.reduceEq, Int.reduceAdd, Int.reduceSub, Int.reduceNeg, Int.reduceBNe, Int.reduceBEq, flds]
  refine awp_nilRow 5 23 5 39 rfl rfl ?_
  refine vLoopM (ι := { k : Nat // k ≤ l.length }) 26 (fun x => [(1, .int .i64 sc), (5, .sl (.row 23) ((blanksM (l.take x.1) sc).map ent)), (8, flds l), (9, .int .i64 (l.length : Int)), (10, .int .i64 (x.1 : Int))]) (fun x => []) (fun x => [(23, .live (blanksM (l.take x.1) sc).length 5 39)]) (fun x => l.length - x.1) ⟨0, by omega⟩
    ⟨rfl, (forall_cons rfl (forall_cons rfl (forall_cons rfl (forall_cons rfl (forall_cons rfl (forall_nil)))))), forall_nil, (forall_cons rfl (forall_nil))⟩ (fun x => ⟨forall_cons rfl (forall_cons (by simp [PV.ids, refInM]) (forall_cons rfl (forall_cons rfl (forall_cons rfl (forall_nil))))), forall_nil⟩) (fun x => ?_)
  obtain ⟨k, hk⟩ := x
  simp only
  by_cases h : (k : Int) < (l.length : Int)
  · have hka : k < l.length := by omega
    have w1 := w64s hka hm
    have i1 : (0 : Int) ≤ (k : Int) := by omega
    have hc := Value_pure (l.getD k default)
    have hlen := blanks_len (l.take k) sc
    have hlen2 : (l.take k).length ≤ k := List.length_take_le _ _
    have hr := room_small (show (blanksM (l.take k) sc).length + 1 ≤ 100000000000 by omega) (show 72 ≤ 1000 by omega)
    cases he : ((l.getD k default).at'.sc == sc)
    · have hs : blanksM (l.take (k + 1)) sc = blanksM (l.take k) sc := by
        rw [take_snoc hka (d := default)]
        simp only [blanksM, List.filter_append, List.filter_cons, he, Bool.false_eq_true, if_false, List.filter_nil, List.append_nil]
      simp only [go_sem, reduceIte, Nat.reduceEqDiff, reduceCtorEq, Nat.reduceLT, Nat.reduceAdd, Nat.reduceSub, Nat.reduceMul, Nat.reduceLeDiff, Int.reduceLT, Int.reduceLE, Int.reduceToNat, Int.reduceEq, Int.reduceAdd, Int.reduceSub, Int.reduceNeg, Int.reduceBNe, Int.reduceBEq, flds, h, getD_fld hka, fld, i1, he, w1]
      exact ⟨⟨k + 1, by omega⟩, by show l.length - (k + 1) < l.length - k; omega, ⟨rfl, forall_cons rfl (forall_cons (by show PV.sl _ _ = PV.sl _ _; rw [hs]) (forall_cons rfl (forall_cons rfl (forall_cons rfl (forall_nil))))), forall_nil, forall_cons (by show some _ = some _; rw [hs]) forall_nil⟩⟩
    · have hs : blanksM (l.take (k + 1)) sc = blanksM (l.take k) sc ++ [valueM (l.getD k default)] := by
        rw [take_snoc hka (d := default)]
        simp only [blanksM, List.filter_append, List.filter_cons, he, if_true, List.filter_nil, List.map_append, List.map_cons, List.map_nil]
      generalize hv : valueM (l.getD k default) = v at *
      simp only [go_sem, reduceIte, Nat.reduceEqDiff, reduceCtorEq, Nat.reduceLT, Nat.reduceAdd, Nat.reduceSub, Nat.reduceMul, Nat.reduceLeDiff, Int.reduceLT, Int.reduceLE, Int.reduceToNat, Int.reduceEq, Int.reduceAdd, Int.reduceSub, Int.reduceNeg, Int.reduceBNe, Int.reduceBEq, flds, h, getD_fld hka, fld, i1, he]
      refine vCall_of (hc) ?_ ?_ ?_; (focus simp only [go_sem, reduceIte, Nat.reduceEqDiff, reduceCtorEq, Nat.reduceLT, Nat.reduceAdd, Nat.reduceSub, Nat.reduceMul, Nat.reduceLeDiff, Int.reduceLT, Int.reduceLE, Int.reduceToNat, Int.reduceEq, Int.reduceAdd, Int.reduceSub, Int.reduceNeg, Int.reduceBNe, Int.reduceBEq, fld]); (focus simp only [go_sem, reduceIte, Nat.reduceEqDiff, reduceCtorEq, Nat.reduceLT, Nat.reduceAdd, Nat.reduceSub, Nat.reduceMul, Nat.reduceLeDiff, Int.reduceLT, Int.reduceLE, Int.reduceToNat, Int.reduceEq, Int.reduceAdd, Int.reduceSub, Int.reduceNeg, Int.reduceBNe, Int.reduceBEq, fld])
      simp only [go_sem, reduceIte, Nat.reduceEqDiff, reduceCtorEq, Nat.reduceLT, Nat.reduceAdd, Nat.reduceSub, Nat.reduceMul, Nat.reduceLeDiff, Int.reduceLT, Int.reduceLE, Int.reduceToNat, Int.reduceEq, Int.reduceAdd, Int.reduceSub, Int.reduceNeg, Int.reduceBNe, Int.reduceBEq, ent, sized_ent, sized_ent1, atoms_ent1, hr, w1]
      exact ⟨⟨k + 1, by omega⟩, by show l.length - (k + 1) < l.length - k; omega, ⟨rfl, forall_cons rfl (forall_cons (by show PV.sl _ _ = PV.sl _ _; rw [hs, ← map_ent]) (forall_cons rfl (forall_cons rfl (forall_cons rfl (forall_nil))))), forall_nil, forall_cons (by show some _ = some _; rw [hs, List.length_append]; rfl) forall_nil⟩⟩
  · obtain rfl : k = l.length := by omega
    simp only [go_sem, reduceIte, Nat.reduceEqDiff, reduceCtorEq, Nat.reduceLT, Nat.reduceAdd, Nat.reduceSub, Nat.reduceMul, Nat.reduceLeDiff, Int.reduceLT, Int.reduceLE, Int.reduceToNat, Int.reduceEq, Int.reduceAdd, Int.reduceSub, Int.reduceNeg, Int.reduceBNe, Int.reduceBEq, h, ents, List.take_length]

theorem blankDoc_dids (l : List En) : (doc ⟨l, []⟩).dids = [] := by simp only [doc, PV.dids, PV.didsL, didsL_ent, List.map_nil, List.append_nil]
set_option maxHeartbeats 1000000 in
theorem Blank_pure (l : List Fd) (hl : l.length ≤ 1000000) : PL.Pure Try.prog 40 [flds l] (doc ⟨blanksM l 0, []⟩) := by
  have hc := blanks_pure l 0 hl
  refine PL.Pure.of_v Try.func40 (by decide) rfl Try.ntmps40 Try.results40 (by simp) (blankDoc_dids _) ?_
  simp only [go_sem, reduceIte, Nat.reduceEqDiff, reduceCtorEq, Nat.reduceLT, Nat.reduceAdd, Nat.reduceSub, Nat.reduceMul, Nat.reduceLeDiff, Int.reduceLT, Int.reduceLE, Int.reduceToNat, Int.reduceEq, Int.reduceAdd, Int.reduceSub, Int.reduceNeg, Int.reduceBNe, Int.reduceBEq, flds]
  refine vCall_of (hc) ?_ ?_ ?_; (focus simp only [go_sem, reduceIte, Nat.reduceEqDiff, reduceCtorEq, Nat.reduceLT, Nat.reduceAdd, Nat.reduceSub, Nat.reduceMul, Nat.reduceLeDiff, Int.reduceLT, Int.reduceLE, Int.reduceToNat, Int.reduceEq, Int.reduceAdd, Int.reduceSub, Int.reduceNeg, Int.reduceBNe, Int.reduceBEq, flds]); (focus simp only [go_sem, reduceIte, Nat.reduceEqDiff, reduceCtorEq, Nat.reduceLT, Nat.reduceAdd, Nat.reduceSub, Nat.reduceMul, Nat.reduceLeDiff, Int.reduceLT, Int.reduceLE, Int.reduceToNat, Int.reduceEq, Int.reduceAdd, Int.reduceSub, Int.reduceNeg, Int.reduceBNe, Int.reduceBEq, flds])
  simp only [go_sem, reduceIte, Nat.reduceEqDiff, reduceCtorEq, Nat.reduceLT, Nat.reduceAdd, Nat.reduceSub, Nat.reduceMul, Nat.reduceLeDiff, Int.reduceLT, Int.reduceLE, Int.reduceToNat, Int.reduceEq, Int.reduceAdd, Int.reduceSub, Int.reduceNeg, Int.reduceBNe, Int.reduceBEq, ents, doc]
def rootL : List Fd := [⟨⟨0, [], [99, 111, 117, 112, 111, 110]⟩, 2, [], [], 0⟩, ⟨⟨1, [], [110, 111, 116, 101]⟩, 2, [], [], 0⟩, ⟨⟨1, [], [113, 116, 121]⟩, 1, [], [], 1⟩,
  ⟨⟨1, [], [115, 105, 122, 101]⟩, 3, [109, 101, 100, 105, 117, 109], [[115, 109, 97, 108, 108], [109, 101, 100, 105, 117, 109], [108, 97, 114, 103, 101]], 0⟩, ⟨⟨1, [], [116, 97, 103, 115]⟩, 4, [], [], 0⟩]
theorem sized_fld (l : List Fd) : Sized 7 (l.map fld) := fun e he => by
  obtain ⟨x, _, rfl⟩ := List.mem_map.1 he; rfl
theorem atoms_fld (l : List Fd) : Atoms (l.map fld) := fun e he => by
  obtain ⟨x, _, rfl⟩ := List.mem_map.1 he; rfl
theorem didsL_fld (l : List Fd) : PV.didsL (l.map fld) = [] := by
  induction l with
  | nil => rfl
  | cons e l ih => rw [List.map_cons, PV.didsL, ih]; simp only [fld, PV.dids, PV.didsL, didsL_str, List.append_nil]
theorem flds_dids (l : List Fd) : (flds l).dids = [] := by simp only [flds, PV.dids, didsL_fld]
set_option maxRecDepth 20000 in
set_option maxHeartbeats 4000000 in
theorem Root_pure : PL.Pure Try.prog 41 [] (flds rootL) := by
  refine PL.Pure.of_v Try.func41 (by decide) rfl Try.ntmps41 Try.results41 (by simp) (flds_dids _) ?_
  simp only [go_sem, reduceIte, Nat.reduceEqDiff, reduceCtorEq, Nat.reduceLT, Nat.reduceAdd, Nat.reduceSub, Nat.reduceMul, Nat.reduceLeDiff, Int.reduceLT, Int.reduceLE, Int.reduceToNat, Int.reduceEq, Int.reduceAdd, Int.reduceSub, Int.reduceNeg, Int.reduceBNe, Int.reduceBEq, room_small, flds, fld, rootL]
