/- Contracts of functions and laws of this seat, each for every input that it names: lemmas of the proof. -/
import Derived.Test.YtbojhapdidieoaaTa
import Derived.Test.YtbojhapdidieoaaPlF
set_option linter.unusedSimpArgs false
set_option linter.unusedVariables false
set_option linter.unusedSimpArgs false
set_option linter.unusedVariables false
namespace Go.Proofs.Ytbojhapdidieoaa
open Go.PL
structure Nd where
  e : Eg
  st : Int
  sch : List Fd
  dep : Int
  deriving DecidableEq, Inhabited
def nd (n : Nd) : PV := .agg [.int .i64 n.e.id.r, .int .i64 n.e.id.n, .int .i64 n.e.par.r, .int .i64 n.e.par.n, .int .i64 n.e.ln.kind, .int .i64 n.e.ln.at'.sc, .str n.e.ln.at'.gr, .str n.e.ln.at'.nm, .str n.e.ln.nm, .str n.e.ln.ot, .int .i64 n.e.ln.fac, .int .i64 n.e.ln.fd.at'.sc, .str n.e.ln.fd.at'.gr, .str n.e.ln.fd.at'.nm, .int .i64 n.e.ln.fd.kind, .str n.e.ln.fd.df, .sl .no (n.e.ln.fd.cases'.map .str), .int .i64 n.e.ln.fd.worth, .sl .no (n.e.ln.fo.map pr), .sl .no (n.e.ln.ba.map pr), .int .i64 n.st, .sl .no (n.sch.map fld), .int .i64 n.dep]
def kts (l : List Nd) : List PV := l.map fun n => tg n.e.id
def nds (l : List Nd) : List PV := l.map nd
/-- a tree as it is read: its nodes, as they came -/
def tr (l : List Nd) : PV := .rptr [.rmap (kts l) (nds l)]
def mc (l : List Nd) : MapC := ⟨kts l, nds l⟩
theorem didsL_pr (l : List Pr) : PV.didsL (l.map pr) = [] := by
  induction l with
  | nil => rfl
  | cons t l ih => simp only [List.map_cons, PV.didsL, ih, pr, PV.dids, List.append_nil]
theorem eg_dids (e : Eg) : (eg e).dids = [] := by simp only [eg, PV.dids, PV.didsL, didsL_pr, didsL_str, List.append_nil]
theorem nd_dids (n : Nd) : (nd n).dids = [] := by simp only [nd, PV.dids, PV.didsL, didsL_pr, didsL_fld, didsL_str, List.append_nil]
theorem tg_dids (t : Tg) : (tg t).dids = [] := by simp only [tg, PV.dids, PV.didsL, List.append_nil]
theorem nomapL_map {α : Type} (f : α → PV) (h : ∀ x, (f x).nomap = true) (l : List α) : PV.nomapL (l.map f) = true := nomapL_iff.2 fun c hc => by
  obtain ⟨x, _, rfl⟩ := List.mem_map.1 hc; exact h x
theorem nomapL_str (l : List Str) : PV.nomapL (l.map .str) = true := nomapL_map _ (fun _ => rfl) l
theorem nomapL_pr (l : List Pr) : PV.nomapL (l.map pr) = true := nomapL_map _ (fun _ => rfl) l
theorem nomap_fld (f : Fd) : (fld f).nomap = true := by simp only [fld, PV.nomap, PV.nomapL, nomapL_str, Bool.and_self]
theorem nomap_nd (n : Nd) : (nd n).nomap = true := by simp only [nd, PV.nomap, PV.nomapL, nomapL_pr, nomapL_str, nomapL_map _ nomap_fld, Bool.and_self]
theorem findP_tags (id : Tg) : ∀ (l : List Nd) (i : Nat), findP [.int, .int] [.int .i64 id.r, .int .i64 id.n] (kts l) i = some ((l.findIdx? fun n => decide (id = n.e.id)).map (· + i))
  | [], i => rfl
  | n :: l, i => by
    have ih := findP_tags id l (i + 1)
    simp only [kts, tg] at ih
    simp only [kts, List.map_cons, tg, findP, eqLeaves, eqLeaf, if_true, List.findIdx?_cons, Bool.and_true, tg_fold]
    by_cases h : id = n.e.id
    · simp [h]
    · simp only [h, decide_false, ih]
      simp only [Bool.false_eq_true, if_false, Option.map_map]
      congr 2
      funext x
      simp; omega
theorem findP_tags0 (id : Tg) (l : List Nd) : findP [.int, .int] [.int .i64 id.r, .int .i64 id.n] (kts l) 0 = some (l.findIdx? fun n => decide (id = n.e.id)) := by
  rw [findP_tags]; congr 1; cases List.findIdx? (fun n => decide (id = n.e.id)) l <;> rfl
def findN (l : List Nd) (id : Tg) : Option Nd := l.find? fun n => decide (id = n.e.id)
theorem findIdx_find {l : List Nd} {id : Tg} : (l.findIdx? fun n => decide (id = n.e.id)) = none ↔ findN l id = none := by
  unfold findN; rw [List.findIdx?_eq_none_iff, List.find?_eq_none]; simp
theorem findIdx_some {l : List Nd} {id : Tg} {i : Nat} (h : (l.findIdx? fun n => decide (id = n.e.id)) = some i) : i < l.length ∧ findN l id = some (l.getD i default) := by
  rw [List.findIdx?_eq_some_iff_getElem] at h
  obtain ⟨h1, h2, h3⟩ := h
  refine ⟨h1, ?_⟩
  unfold findN
  rw [List.find?_eq_some_iff_getElem]
  exact ⟨by rw [getD_lt h1]; exact h2, i, h1, (getD_lt h1).symm, fun j hj => by simpa using h3 j hj⟩
theorem getD_nd {l : List Nd} {i : Nat} (h : i < l.length) : (nds l).getD i .any = nd (l.getD i default) := getD_map h
theorem getD_kt {l : List Nd} {i : Nat} (h : i < l.length) : (kts l).getD i .any = tg (l.getD i default).e.id := getD_map (d := default) h

set_option maxHeartbeats 1000000 in
theorem TRoot_pure : PL.Pure Try.prog 99 [] (tg default) := by
  refine PL.Pure.of_v Try.func99 (by decide) rfl Try.ntmps99 Try.results99 (by simp) (rfl) ?_
  simp only [go_sem, reduceIte, Nat.reduceEqDiff, reduceCtorEq, Nat.reduceLT, Nat.reduceAdd, Nat.reduceSub, Nat.reduceMul, Nat.reduceLeDiff, Int.reduceLT, Int.reduceLE, Int.reduceToNat, Int.reduceEq, Int.reduceAdd, Int.reduceSub, Int.reduceNeg, Int.reduceBNe, Int.reduceBEq]
  rfl
set_option maxRecDepth 20000 in
set_option maxHeartbeats 4000000 in
theorem SRoot_pure : PL.Pure Try.prog 100 [] (flds rootL) := by
  refine PL.Pure.of_v Try.func100 (by decide) rfl Try.ntmps100 Try.results100 (by simp) (flds_dids _) ?_
  simp only [go_sem, reduceIte, Nat.reduceEqDiff, reduceCtorEq, Nat.reduceLT, Nat.reduceAdd, Nat.reduceSub, Nat.reduceMul, Nat.reduceLeDiff, Int.reduceLT, Int.reduceLE, Int.reduceToNat, Int.reduceEq, Int.reduceAdd, Int.reduceSub, Int.reduceNeg, Int.reduceBNe, Int.reduceBEq]
  repeat ((with_reducible refine And.intro ?_ ?_); (focus ((repeat' (with_reducible apply And.intro)) <;> (first | omega | exact room_small (by omega) (by omega) | exact room_small (by simp; omega) (by omega) | exact sized_str _ | (simp; done) | (simp; omega)))))
  rfl
def rootN : Nd := ⟨default, 2, rootL, 0⟩
def atN (l : List Nd) (id : Tg) : Nd := if id = default then rootN else (findN l id).getD default
theorem mk_new : PL.Mk Try.prog 47 [] (fun b => .rptr [.mref b]) (mc []) := by
  refine PL.Mk.of_v Try.func47 (by decide) rfl Try.ntmps47 Try.results47 (by simp) (fun b => rfl) ?_
  simp only [go_sem, reduceIte, Nat.reduceEqDiff, reduceCtorEq, Nat.reduceLT, Nat.reduceAdd, Nat.reduceSub, Nat.reduceMul, Nat.reduceLeDiff, Int.reduceLT, Int.reduceLE, Int.reduceToNat, Int.reduceEq, Int.reduceAdd, Int.reduceSub, Int.reduceNeg, Int.reduceBNe, Int.reduceBEq]
  intro b
  exact ⟨b, 3, [.mref b], rfl, by simp, rfl, by simp [mc, kts, nds], rfl⟩
set_option maxRecDepth 20000 in
set_option maxHeartbeats 8000000 in
theorem at_pure (l : List Nd) (id : Tg) : PL.Pure Try.prog 57 [tr l, tg id] (nd (atN l id)) := by
  unfold atN
  by_cases h : id = default
  · rw [if_pos h]
    subst h
    refine PL.Pure.of_v Try.func57 (by decide) rfl Try.ntmps57 Try.results57 (by simp) (nd_dids _) ?_
    simp only [go_sem, reduceIte, Nat.reduceEqDiff, reduceCtorEq, Nat.reduceLT, Nat.reduceAdd, Nat.reduceSub, Nat.reduceMul, Nat.reduceLeDiff, Int.reduceLT, Int.reduceLE, Int.reduceToNat, Int.reduceEq, Int.reduceAdd, Int.reduceSub, Int.reduceNeg, Int.reduceBNe, Int.reduceBEq, tr, tg]
    refine vDrawQ (by kernel_rfl) (by kernel_rfl) ?_
    simp only [go_sem, reduceIte, Nat.reduceEqDiff, reduceCtorEq, Nat.reduceLT, Nat.reduceAdd, Nat.reduceSub, Nat.reduceMul, Nat.reduceLeDiff, Int.reduceLT, Int.reduceLE, Int.reduceToNat, Int.reduceEq, Int.reduceAdd, Int.reduceSub, Int.reduceNeg, Int.reduceBNe, Int.reduceBEq]
    refine vCall_of (TRoot_pure) ?_ ?_ ?_; (focus simp only [go_sem, reduceIte, Nat.reduceEqDiff, reduceCtorEq, Nat.reduceLT, Nat.reduceAdd, Nat.reduceSub, Nat.reduceMul, Nat.reduceLeDiff, Int.reduceLT, Int.reduceLE, Int.reduceToNat, Int.reduceEq, Int.reduceAdd, Int.reduceSub, Int.reduceNeg, Int.reduceBNe, Int.reduceBEq, tg]); (focus simp only [go_sem, reduceIte, Nat.reduceEqDiff, reduceCtorEq, Nat.reduceLT, Nat.reduceAdd, Nat.reduceSub, Nat.reduceMul, Nat.reduceLeDiff, Int.reduceLT, Int.reduceLE, Int.reduceToNat, Int.reduceEq, Int.reduceAdd, Int.reduceSub, Int.reduceNeg, Int.reduceBNe, Int.reduceBEq, tg])
    simp only [go_sem, reduceIte, Nat.reduceEqDiff, reduceCtorEq, Nat.reduceLT, Nat.reduceAdd, Nat.reduceSub, Nat.reduceMul, Nat.reduceLeDiff, Int.reduceLT, Int.reduceLE, Int.reduceToNat, Int.reduceEq, Int.reduceAdd, Int.reduceSub, Int.reduceNeg, Int.reduceBNe, Int.reduceBEq, tg]
    refine vCall_of (SRoot_pure) ?_ ?_ ?_; (focus simp only [go_sem, reduceIte, Nat.reduceEqDiff, reduceCtorEq, Nat.reduceLT, Nat.reduceAdd, Nat.reduceSub, Nat.reduceMul, Nat.reduceLeDiff, Int.reduceLT, Int.reduceLE, Int.reduceToNat, Int.reduceEq, Int.reduceAdd, Int.reduceSub, Int.reduceNeg, Int.reduceBNe, Int.reduceBEq, tg]); (focus simp only [go_sem, reduceIte, Nat.reduceEqDiff, reduceCtorEq, Nat.reduceLT, Nat.reduceAdd, Nat.reduceSub, Nat.reduceMul, Nat.reduceLeDiff, Int.reduceLT, Int.reduceLE, Int.reduceToNat, Int.reduceEq, Int.reduceAdd, Int.reduceSub, Int.reduceNeg, Int.reduceBNe, Int.reduceBEq, tg])
    simp only [go_sem, reduceIte, Nat.reduceEqDiff, reduceCtorEq, Nat.reduceLT, Nat.reduceAdd, Nat.reduceSub, Nat.reduceMul, Nat.reduceLeDiff, Int.reduceLT, Int.reduceLE, Int.reduceToNat, Int.reduceEq, Int.reduceAdd, Int.reduceSub, Int.reduceNeg, Int.reduceBNe, Int.reduceBEq, flds]
    rfl
  · rw [if_neg h]
    have hd : decide (id = default) = false := by simpa using h
    refine PL.Pure.of_v Try.func57 (by decide) rfl Try.ntmps57 Try.results57 (by simp) (nd_dids _) ?_
    simp only [go_sem, reduceIte, Nat.reduceEqDiff, reduceCtorEq, Nat.reduceLT, Nat.reduceAdd, Nat.reduceSub, Nat.reduceMul, Nat.reduceLeDiff, Int.reduceLT, Int.reduceLE, Int.reduceToNat, Int.reduceEq, Int.reduceAdd, Int.reduceSub, Int.reduceNeg, Int.reduceBNe, Int.reduceBEq, tr, tg]
    refine vDrawQ (by kernel_rfl) (by kernel_rfl) ?_
    simp only [go_sem, reduceIte, Nat.reduceEqDiff, reduceCtorEq, Nat.reduceLT, Nat.reduceAdd, Nat.reduceSub, Nat.reduceMul, Nat.reduceLeDiff, Int.reduceLT, Int.reduceLE, Int.reduceToNat, Int.reduceEq, Int.reduceAdd, Int.reduceSub, Int.reduceNeg, Int.reduceBNe, Int.reduceBEq]
    refine vCall_of (TRoot_pure) ?_ ?_ ?_; (focus simp only [go_sem, reduceIte, Nat.reduceEqDiff, reduceCtorEq, Nat.reduceLT, Nat.reduceAdd, Nat.reduceSub, Nat.reduceMul, Nat.reduceLeDiff, Int.reduceLT, Int.reduceLE, Int.reduceToNat, Int.reduceEq, Int.reduceAdd, Int.reduceSub, Int.reduceNeg, Int.reduceBNe, Int.reduceBEq, tg]); (focus simp only [go_sem, reduceIte, Nat.reduceEqDiff, reduceCtorEq, Nat.reduceLT, Nat.reduceAdd, Nat.reduceSub, Nat.reduceMul, Nat.reduceLeDiff, Int.reduceLT, Int.reduceLE, Int.reduceToNat, Int.reduceEq, Int.reduceAdd, Int.reduceSub, Int.reduceNeg, Int.reduceBNe, Int.reduceBEq, tg])
    simp only [go_sem, reduceIte, Nat.reduceEqDiff, reduceCtorEq, Nat.reduceLT, Nat.reduceAdd, Nat.reduceSub, Nat.reduceMul, Nat.reduceLeDiff, Int.reduceLT, Int.reduceLE, Int.reduceToNat, Int.reduceEq, Int.reduceAdd, Int.reduceSub, Int.reduceNeg, Int.reduceBNe, Int.reduceBEq, tg, tg_fold, hd]
    cases hf : l.findIdx? (fun n => decide (id = n.e.id)) with
    | none =>
      have := findIdx_find.1 hf
      refine vDrawQ (by kernel_rfl) (by kernel_rfl) ?_
      simp only [go_sem, reduceIte, Nat.reduceEqDiff, reduceCtorEq, Nat.reduceLT, Nat.reduceAdd, Nat.reduceSub, Nat.reduceMul, Nat.reduceLeDiff, Int.reduceLT, Int.reduceLE, Int.reduceToNat, Int.reduceEq, Int.reduceAdd, Int.reduceSub, Int.reduceNeg, Int.reduceBNe, Int.reduceBEq, findP_tags0, hf, this, Option.getD_none]
      rfl
    | some i =>
      obtain ⟨h1, h2⟩ := findIdx_some hf
      refine vDrawQ (by kernel_rfl) (by kernel_rfl) ?_
      simp only [go_sem, reduceIte, Nat.reduceEqDiff, reduceCtorEq, Nat.reduceLT, Nat.reduceAdd, Nat.reduceSub, Nat.reduceMul, Nat.reduceLeDiff, Int.reduceLT, Int.reduceLE, Int.reduceToNat, Int.reduceEq, Int.reduceAdd, Int.reduceSub, Int.reduceNeg, Int.reduceBNe, Int.reduceBEq, findP_tags0, hf, h2, Option.getD_some, getD_nd h1, nd]
end Go.Proofs.Ytbojhapdidieoaa
