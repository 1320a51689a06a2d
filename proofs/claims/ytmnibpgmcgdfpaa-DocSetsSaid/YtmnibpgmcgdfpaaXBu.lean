/- Contracts of functions and laws of this seat, each for every input that it names: lemmas of the proof. -/
import Derived.Test.YtmnibpgmcgdfpaaPlL
import Derived.Test.YtmnibpgmcgdfpaaXAa
import Derived.Test.YtmnibpgmcgdfpaaXAc
import Derived.Test.YtmnibpgmcgdfpaaXAn
import Derived.Test.YtmnibpgmcgdfpaaXAu
import Derived.Test.YtmnibpgmcgdfpaaXBi
import Derived.Test.YtmnibpgmcgdfpaaXBq
set_option linter.unusedSimpArgs false
set_option linter.unusedVariables false
set_option linter.unusedSimpArgs false
set_option linter.unusedVariables false
namespace Go.Proofs.Ytmnibpgmcgdfpaa
open Go.PL
def awX : Ln := ⟨1, ⟨1, [], [110, 111, 116, 101]⟩, [109, 101, 109, 111], [], 0, default, [], []⟩
def awA : Eg := ⟨⟨1, 1⟩, default, awX⟩
def awB : Eg := ⟨⟨2, 1⟩, default, awX⟩
theorem putB : putM [awA] awB = ([awA, awB], 0) := by decide +kernel
end Go.Proofs.Ytmnibpgmcgdfpaa

set_option linter.unusedSimpArgs false
set_option linter.unusedVariables false
set_option linter.unusedSimpArgs false
set_option linter.unusedVariables false
namespace Go.Proofs.Ytmnibpgmcgdfpaa
open Go.PL
end Go.Proofs.Ytmnibpgmcgdfpaa

set_option linter.unusedSimpArgs false
set_option linter.unusedVariables false
set_option linter.unusedSimpArgs false
set_option linter.unusedVariables false
namespace Go.Proofs.Ytmnibpgmcgdfpaa
open Go.PL
end Go.Proofs.Ytmnibpgmcgdfpaa

set_option linter.unusedSimpArgs false
set_option linter.unusedVariables false
set_option linter.unusedSimpArgs false
set_option linter.unusedVariables false
namespace Go.Proofs.Ytmnibpgmcgdfpaa
open Go.PL
end Go.Proofs.Ytmnibpgmcgdfpaa

set_option linter.unusedSimpArgs false
set_option linter.unusedVariables false
set_option linter.unusedSimpArgs false
set_option linter.unusedVariables false
namespace Go.Proofs.Ytmnibpgmcgdfpaa
open Go.PL
end Go.Proofs.Ytmnibpgmcgdfpaa

set_option linter.unusedSimpArgs false
set_option linter.unusedVariables false
set_option linter.unusedSimpArgs false
set_option linter.unusedVariables false
namespace Go.Proofs.Ytmnibpgmcgdfpaa
open Go.PL
def keptL : List Ln → Rf → Bool
  | [], r => true
  | x :: xs, r => if keptM x r = false then false else if (traceM x r).2 = false then false else keptL xs (traceM x r).1
structure TrS (row : List Ln) (f : List Ln → Rf → Rf × Bool) (r0 : Rf) where
  k : Nat
  r : Rf
  hk : k ≤ row.length
  h : f (row.drop k) r = f row r0
structure KpS (row : List Ln) (r0 : Rf) where
  k : Nat
  r : Rf
  hk : k ≤ row.length
  h : keptL (row.drop k) r = keptL row r0
end Go.Proofs.Ytmnibpgmcgdfpaa

set_option linter.unusedSimpArgs false
set_option linter.unusedVariables false
set_option linter.unusedSimpArgs false
set_option linter.unusedVariables false
namespace Go.Proofs.Ytmnibpgmcgdfpaa
open Go.PL
end Go.Proofs.Ytmnibpgmcgdfpaa

set_option linter.unusedSimpArgs false
set_option linter.unusedVariables false
set_option linter.unusedSimpArgs false
set_option linter.unusedVariables false
namespace Go.Proofs.Ytmnibpgmcgdfpaa
open Go.PL
def wentC (r : Rw) : Cg := ⟨3, r.item, default, default, r.l⟩
def cameC (r : Rw) : Cg := ⟨2, r.item, default, default, r.l⟩
/-- rows held against rows, item by item -/
def diffR : List Rw → List Rw → List Cg
  | [], [] => []
  | p :: ps, [] => wentC p :: diffR ps []
  | [], q :: qs => cameC q :: diffR [] qs
  | p :: ps, q :: qs => if bytesLt p.item q.item = true then wentC p :: diffR ps (q :: qs) else if bytesLt q.item p.item = true then cameC q :: diffR (p :: ps) qs else othersL q.item p.l q.l ++ diffR ps qs
termination_by a b => a.length + b.length
/-- how far the merging has come, and what has been told -/
structure DiS (p q : List Rw) (h0 : List Cg) where
  i : Nat
  j : Nat
  acc : List Cg
  row : Nat
  hi : i ≤ p.length
  hj : j ≤ q.length
  hl : acc.length ≤ h0.length + 16 * (i + j)
  h : acc ++ diffR (p.drop i) (q.drop j) = h0 ++ diffR p q
end Go.Proofs.Ytmnibpgmcgdfpaa

set_option linter.unusedSimpArgs false
set_option linter.unusedVariables false
set_option linter.unusedSimpArgs false
set_option linter.unusedVariables false
namespace Go.Proofs.Ytmnibpgmcgdfpaa
open Go.PL
/-! texts that rise, each once -/
/-! the items of both -/
def RiseR (l : List Rw) : Prop := l.Pairwise fun x y => bytesLt x.item y.item = true
theorem rise_of_right {l : List Fd} {d : Dc} (h : rightD l d = true) : RiseR d.rows := by
  simp only [rightD, Bool.and_eq_true, List.all_eq_true, List.mem_range] at h
  have hs : ∀ i, 0 < i → i < d.rows.length → bytesLt (d.rows.getD (i - 1) default).item (d.rows.getD i default).item = true := fun i h0 hi => by
    have := h.2 i hi
    simp only [rowOk, Bool.and_eq_true, Bool.or_eq_true, decide_eq_true_eq] at this
    rcases this.1.2 with e | e
    · omega
    · exact e
  unfold RiseR
  rw [List.pairwise_iff_getElem]
  intro i j hi hj hij
  rw [← getD_lt (d := default) hi, ← getD_lt (d := default) hj]
  induction j with
  | zero => omega
  | succ j ih =>
    have h1 := hs (j + 1) (by omega) hj
    simp only [Nat.add_sub_cancel] at h1
    by_cases e : i = j
    · subst e; exact h1
    · exact bl_trans (ih (by omega) (by omega)) h1
end Go.Proofs.Ytmnibpgmcgdfpaa

set_option linter.unusedSimpArgs false
set_option linter.unusedVariables false
set_option linter.unusedSimpArgs false
set_option linter.unusedVariables false
namespace Go.Proofs.Ytmnibpgmcgdfpaa
open Go.PL Go.RowKit
/-! the reference's with and Set -/
set_option maxRecDepth 20000 in
set_option maxHeartbeats 8000000 in
theorem RWith_pure (l : List En) (e : En) (k : Nat) (hl : l.length ≤ 100000) (hk : k < l.length) (hi : idx (fun x => decide (x.at' = e.at')) l = (k : Int)) : PL.Pure Try.prog 78 [ents l, ent e] (ents (l.set k e)) := by
  have hA := entryAt_pure l e.at' (by rw [maxLen_eq]; omega)
  rw [hi] at hA
  have hcl : ∀ l : List En, ∀ p ∈ l.map ent, p.ids = [] := fun l => ids_mapV ent_ids l
  have hrm := room_small (show l.length ≤ 100000000000 by omega) (show 72 ≤ 1000 by omega)
  have i0 : (0 : Int) ≤ (k : Int) := by omega
  have iz : (k : Int) < (l.length : Int) := by omega
  have hset : (l.map ent).set k (ent e) = (l.set k e).map ent := set_mapV
  refine PL.Pure.of_p [6, 8] Try.func78 (by decide) rfl Try.ntmps78 Try.results78 (by simp) (ents_dids _) ?_
  simp only [go_sem, ents, ent]
  refine ⟨fun p hp => by obtain ⟨x, _, rfl⟩ := List.mem_map.1 hp; exact ⟨rfl, rfl⟩, hcl _, fun p hp => by rw [hcl _ p hp]; simp, hrm, ?_⟩
  refine vSplit 6 (by kernel_rfl) (by kernel_rfl) fun l1 hl1 => ?_
  simp only [List.take] at hl1
  subst hl1
  simp only [go_sem]
  refine vc1 (hA) ?_
  simp only [go_sem]
  refine vTail 6 (by kernel_rfl) fun l2 hl2 => ?_
  simp only [List.drop] at hl2
  subst hl2
  simp only [ent] at hset
  simp only [go_sem, i0, iz, getD_ent' hk, ent, hset]
  exact ⟨_, rfl, Pub.vec0 (by simp) rfl (by simp) (hcl _)⟩
end Go.Proofs.Ytmnibpgmcgdfpaa

set_option linter.unusedSimpArgs false
set_option linter.unusedVariables false
set_option linter.unusedSimpArgs false
set_option linter.unusedVariables false
namespace Go.Proofs.Ytmnibpgmcgdfpaa
open Go.PL
end Go.Proofs.Ytmnibpgmcgdfpaa

set_option linter.unusedSimpArgs false
set_option linter.unusedVariables false
set_option linter.unusedSimpArgs false
set_option linter.unusedVariables false
namespace Go.Proofs.Ytmnibpgmcgdfpaa
open Go.PL
/-! young entries and changes -/
def entF (e : En) : PV := .agg [.int .i64 e.at'.sc, .str e.at'.gr, .str e.at'.nm, .int .i64 e.n, PV.frl (e.l.map .str)]
def chgF (c : Cg) : PV := .agg [.int .i64 c.kind, .str c.item, .int .i64 c.was.at'.sc, .str c.was.at'.gr, .str c.was.at'.nm, .int .i64 c.was.n, PV.frl (c.was.l.map .str), .int .i64 c.now.at'.sc, .str c.now.at'.gr, .str c.now.at'.nm, .int .i64 c.now.n, PV.frl (c.now.l.map .str), PV.frl (c.l.map entF)]
end Go.Proofs.Ytmnibpgmcgdfpaa

set_option linter.unusedSimpArgs false
set_option linter.unusedVariables false
set_option linter.unusedSimpArgs false
set_option linter.unusedVariables false
namespace Go.Proofs.Ytmnibpgmcgdfpaa
open Go.PL
end Go.Proofs.Ytmnibpgmcgdfpaa

set_option linter.unusedSimpArgs false
set_option linter.unusedVariables false
set_option linter.unusedSimpArgs false
set_option linter.unusedVariables false
namespace Go.PL
open Go.RowKit
/-! what young values hold, in the world's own terms -/
end Go.PL
namespace Go.Proofs.Ytmnibpgmcgdfpaa
open Go.PL Go.RowKit
end Go.Proofs.Ytmnibpgmcgdfpaa

set_option linter.unusedSimpArgs false
set_option linter.unusedVariables false
set_option linter.unusedSimpArgs false
set_option linter.unusedVariables false
namespace Go.PL
open Go.RowKit
end Go.PL
namespace Go.Proofs.Ytmnibpgmcgdfpaa
open Go.PL Go.RowKit
end Go.Proofs.Ytmnibpgmcgdfpaa
