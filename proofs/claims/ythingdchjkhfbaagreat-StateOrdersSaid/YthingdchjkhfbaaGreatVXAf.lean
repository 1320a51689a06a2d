/- Contracts of functions and laws of this seat, each for every input that it names: lemmas of the proof. -/
import Derived.Test.YthingdchjkhfbaaGreatVXAa
set_option linter.unusedSimpArgs false
set_option linter.unusedVariables false
set_option linter.unusedSimpArgs false
set_option linter.unusedVariables false
namespace Go.Proofs.YthingdchjkhfbaaGreat
open Go.PL
def atE (r : Rf) : En → Bool := fun e => decide (e.at' = r)
def atR (it : Str) : Rw → Bool := fun r => r.item == it
def seekM (d : Dc) (it : Str) (r : Rf) : Int × Int × Int :=
 if it = [] then (if idx (atE r) d.head < 0 then (0, 0, 6) else (-1, idx (atE r) d.head, 0))
 else if idx (atR it) d.rows < 0 then (0, 0, 12)
 else if idx (atE r) (d.rows.getD (idx (atR it) d.rows).toNat default).l < 0 then (0, 0, 6)
 else (idx (atR it) d.rows, idx (atE r) (d.rows.getD (idx (atR it) d.rows).toNat default).l, 0)
def int3 (x : Int × Int × Int) : PV := .tup [.int .i64 x.1, .int .i64 x.2.1, .int .i64 x.2.2]
attribute [go_sem] Bool.not_eq_true'
theorem beq_nil {s : Str} (h : s = []) : (s == []) = true := by rw [h]; rfl
theorem beq_nil' {s : Str} (h : ¬ s = []) : (s == []) = false := beq_eq_false_iff_ne.2 h
set_option maxRecDepth 20000 in
set_option maxHeartbeats 4000000 in
theorem seek_pure (d : Dc) (it : Str) (r : Rf) (hf : Fine d) : PL.Pure Tryz.prog 52 [doc d, .str it, ref r] (int3 (seekM d it r)) := by
 obtain ⟨f1, f2, f3, f4⟩ := hf
 by_cases hi : it = []
 ·have hi' := beq_nil hi
  have hc := IndexEnt_pure d.head 100 [.int .i64 r.sc, .str r.gr, .str r.nm] (atE r) f1 (fun e _ => seek2_pure e r)
  by_cases h1 : idx (atE r) d.head < 0
  all_goals
   refine PL.Pure.of_v Tryz.func52 (by decide) rfl Tryz.ntmps52 Tryz.results52 (by simp) rfl ?_
   simp only [go_sem, doc, ref, hi']
   refine vCall_of (hc) ?_ ?_ ?_; iterate 2 simp only [go_sem]
   simp only [go_sem, h1, int3, seekM, hi]
 ·have hi' := beq_nil' hi
  have hc := IndexRow_pure d.rows 98 [.str it] (atR it) f2 (fun e _ => seek1_pure e it)
  by_cases h1 : idx (atR it) d.rows < 0
  ·refine PL.Pure.of_v Tryz.func52 (by decide) rfl Tryz.ntmps52 Tryz.results52 (by simp) rfl ?_
   simp only [go_sem, doc, ref, hi']
   refine vCall_of (hc) ?_ ?_ ?_; iterate 2 simp only [go_sem]
   simp only [go_sem, h1, int3, seekM, hi]
  ·rcases idx_cases (atR it) d.rows with h2 | ⟨k, hk, h2⟩
   ·omega
   ·have hc2 := IndexEnt_pure (d.rows.getD k default).l 100 [.int .i64 r.sc, .str r.gr, .str r.nm] (atE r) (f4 _ (getD_mem' hk)).1 (fun e _ => seek2_pure e r)
    have i1 : (0 : Int) ≤ (k : Int) := by omega
    have i2 : (k : Int) < (d.rows.length : Int) := by omega
    have i3 : ¬ (k : Int) < 0 := by omega
    rw [h2] at hc
    by_cases h3 : idx (atE r) (d.rows.getD k default).l < 0
    all_goals
     refine PL.Pure.of_v Tryz.func52 (by decide) rfl Tryz.ntmps52 Tryz.results52 (by simp) rfl ?_
     simp only [go_sem, doc, ref, hi']
     refine vCall_of (hc) ?_ ?_ ?_; iterate 2 simp only [go_sem]
     simp only [go_sem, i1, i2, i3, getD_row hk, row]
     refine vCall_of (hc2) ?_ ?_ ?_; iterate 2 simp only [go_sem]
     simp only [go_sem, h3, int3, seekM, hi, h2, i3]
def findM (d : Dc) (it : Str) (r : Rf) : En × Int :=
 if it = [] then (if idx (atE r) d.head < 0 then (default, 6) else (d.head.getD (idx (atE r) d.head).toNat default, 0))
 else if idx (atR it) d.rows < 0 then (default, 12)
 else if idx (atE r) (d.rows.getD (idx (atR it) d.rows).toNat default).l < 0 then (default, 6)
 else ((d.rows.getD (idx (atR it) d.rows).toNat default).l.getD (idx (atE r) (d.rows.getD (idx (atR it) d.rows).toNat default).l).toNat default, 0)
def entc (x : En × Int) : PV := .tup [ent x.1, .int .i64 x.2]
theorem entc_dids (x : En × Int) : (entc x).dids = [] := by simp only [entc, PV.dids, PV.didsL, ent_dids, List.append_nil]
theorem ent_default : ent default = .agg [.int .i64 0, .str [], .str [], .int .i64 0, .sl .no []] := rfl
def Small (d : Dc) : Prop := (∀ e ∈ d.head, e.l.length ≤ 1000000) ∧ ∀ r ∈ d.rows, ∀ e ∈ r.l, e.l.length ≤ 1000000
set_option maxRecDepth 20000 in
set_option maxHeartbeats 4000000 in
theorem Find_pure (d : Dc) (it : Str) (r : Rf) (hf : Fine d) (hs : Small d) : PL.Pure Tryz.prog 26 [doc d, .str it, ref r] (entc (findM d it r)) := by
 have hc := seek_pure d it r hf
 obtain ⟨f1, f2, f3, f4⟩ := hf
 unfold seekM at hc
 unfold findM
 by_cases hi : it = []
 ·rw [if_pos hi] at hc ⊢
  rcases idx_cases (atE r) d.head with h2 | ⟨k, hk, h2⟩
  ·rw [h2] at hc ⊢
   refine PL.Pure.of_v Tryz.func26 (by decide) rfl Tryz.ntmps26 Tryz.results26 (by simp) (entc_dids _) ?_
   simp only [go_sem, doc, ref]
   refine vCall_of (hc) ?_ ?_ ?_; iterate 2 simp only [go_sem, doc, ref]
   simp only [go_sem, int3, entc, ent_default]
  ·have i1 : (0 : Int) ≤ (k : Int) := by omega
   have i2 : (k : Int) < (d.head.length : Int) := by omega
   have i3 : ¬ (k : Int) < 0 := by omega
   have ho := ownEntry_pure (d.head.getD k default) (hs.1 _ (getD_mem' hk))
   rw [h2, if_neg i3] at hc
   rw [h2, if_neg i3]
   refine PL.Pure.of_v Tryz.func26 (by decide) rfl Tryz.ntmps26 Tryz.results26 (by simp) (entc_dids _) ?_
   simp only [go_sem, doc, ref]
   refine vCall_of (hc) ?_ ?_ ?_; iterate 2 simp only [go_sem, doc, ref]
   simp only [go_sem, int3, i1, i2, getD_ent hk, ent]
   refine vCall_of (ho) ?_ ?_ ?_; iterate 2 simp only [go_sem, ent]
   simp only [go_sem, entc, ent]
 ·rw [if_neg hi] at hc ⊢
  rcases idx_cases (atR it) d.rows with h2 | ⟨k, hk, h2⟩
  ·rw [h2] at hc ⊢
   refine PL.Pure.of_v Tryz.func26 (by decide) rfl Tryz.ntmps26 Tryz.results26 (by simp) (entc_dids _) ?_
   simp only [go_sem, doc, ref]
   refine vCall_of (hc) ?_ ?_ ?_; iterate 2 simp only [go_sem, doc, ref]
   simp only [go_sem, int3, entc, ent_default]
  ·have i1 : (0 : Int) ≤ (k : Int) := by omega
   have i2 : (k : Int) < (d.rows.length : Int) := by omega
   have i3 : ¬ (k : Int) < 0 := by omega
   rw [h2, if_neg i3] at hc
   rw [h2, if_neg i3]
   simp only [Int.toNat_natCast] at hc ⊢
   rcases idx_cases (atE r) (d.rows.getD k default).l with h4 | ⟨n, hn, h4⟩
   ·rw [h4] at hc ⊢
    refine PL.Pure.of_v Tryz.func26 (by decide) rfl Tryz.ntmps26 Tryz.results26 (by simp) (entc_dids _) ?_
    simp only [go_sem, doc, ref]
    refine vCall_of (hc) ?_ ?_ ?_; iterate 2 simp only [go_sem, doc, ref]
    simp only [go_sem, int3, entc, ent_default]
   ·have j1 : (0 : Int) ≤ (n : Int) := by omega
    have j2 : (n : Int) < ((d.rows.getD k default).l.length : Int) := by omega
    have j3 : ¬ (n : Int) < 0 := by omega
    have ho := ownEntry_pure ((d.rows.getD k default).l.getD n default) (hs.2 _ (getD_mem' hk) _ (getD_mem' hn))
    rw [h4, if_neg j3] at hc
    rw [h4, if_neg j3]
    refine PL.Pure.of_v Tryz.func26 (by decide) rfl Tryz.ntmps26 Tryz.results26 (by simp) (entc_dids _) ?_
    simp only [go_sem, doc, ref]
    refine vCall_of (hc) ?_ ?_ ?_; iterate 2 simp only [go_sem, doc, ref]
    simp only [go_sem, int3, i1, i2, i3, getD_row hk, row, j1, j2, getD_ent hn, ent]
    refine vCall_of (ho) ?_ ?_ ?_; iterate 2 simp only [go_sem, ent]
    simp only [go_sem, entc, ent]
end Go.Proofs.YthingdchjkhfbaaGreat
set_option linter.unusedSimpArgs false
set_option linter.unusedVariables false
set_option linter.unusedSimpArgs false
set_option linter.unusedVariables false
namespace Go.Proofs.YthingdchjkhfbaaGreat
open Go.PL
structure Fd where
 at' : Rf
 kind : Int
 df : Str
 cases' : List Str
 worth : Int
 deriving DecidableEq, Inhabited
def fld (f : Fd) : PV := .agg [.int .i64 f.at'.sc, .str f.at'.gr, .str f.at'.nm, .int .i64 f.kind, .str f.df, .sl .no (f.cases'.map .str), .int .i64 f.worth]
def flds (l : List Fd) : PV := .sl .no (l.map fld)
theorem getD_fld {l : List Fd} {i : Nat} (h : i < l.length) : (l.map fld).getD i .any = fld (l.getD i default) := by
 simp [List.getD_eq_getElem?_getD, h]
def valueM (f : Fd) : En := ⟨f.at', 0, if f.kind = 1 ∨ f.kind = 4 then [] else [f.df]⟩
attribute [go_sem] partsOk
set_option maxHeartbeats 1000000 in
theorem Value_pure (f : Fd) : PL.Pure Tryz.prog 68 [fld f] (ent (valueM f)) := by
 by_cases h1 : f.kind = 1
 ·have h1' : (f.kind != 1) = false := by rw [h1]; rfl
  refine PL.Pure.of_v Tryz.func68 (by decide) rfl Tryz.ntmps68 Tryz.results68 (by simp) (ent_dids _) ?_
  simp only [go_sem, fld, ent, valueM, h1']
  simp [h1]
 ·have h1' : (f.kind != 1) = true := bne_iff_ne.2 h1
  by_cases h2 : f.kind = 4
  ·have h2' : (f.kind != 4) = false := by rw [h2]; rfl
   refine PL.Pure.of_v Tryz.func68 (by decide) rfl Tryz.ntmps68 Tryz.results68 (by simp) (ent_dids _) ?_
   simp only [go_sem, fld, ent, valueM, h1', h2']
   simp [h2]
  ·have h2' : (f.kind != 4) = true := bne_iff_ne.2 h2
   refine PL.Pure.of_v Tryz.func68 (by decide) rfl Tryz.ntmps68 Tryz.results68 (by simp) (ent_dids _) ?_
   simp only [go_sem, fld, ent, valueM, h1', h2', h1, h2, or_self]
theorem sized_ent (l : List En) : Sized 5 (l.map ent) := fun e he => by
 obtain ⟨x, _, rfl⟩ := List.mem_map.1 he; rfl
theorem atoms_ent (l : List En) : Atoms (l.map ent) := fun e he => by
 obtain ⟨x, _, rfl⟩ := List.mem_map.1 he; rfl
theorem take_snoc {α : Type} {l : List α} {k : Nat} (h : k < l.length) {d : α} : l.take (k + 1) = l.take k ++ [l.getD k d] := by
 rw [List.take_succ_eq_append_getElem h, List.getD_eq_getElem?_getD, List.getElem?_eq_getElem h]; rfl
theorem didsL_ent (l : List En) : PV.didsL (l.map ent) = [] := by
 induction l with
 | nil => rfl
 | cons e l ih => rw [List.map_cons, PV.didsL, ih, ent_dids]; rfl
theorem ents_dids (l : List En) : (ents l).dids = [] := by simp only [ents, PV.dids, didsL_ent]
def rootL : List Fd := [⟨⟨0, [], [99, 111, 117, 112, 111, 110]⟩, 2, [], [], 0⟩, ⟨⟨1, [], [110, 111, 116, 101]⟩, 2, [], [], 0⟩, ⟨⟨1, [], [113, 116, 121]⟩, 1, [], [], 1⟩,
 ⟨⟨1, [], [115, 105, 122, 101]⟩, 3, [109, 101, 100, 105, 117, 109], [[115, 109, 97, 108, 108], [109, 101, 100, 105, 117, 109], [108, 97, 114, 103, 101]], 0⟩, ⟨⟨1, [], [116, 97, 103, 115]⟩, 4, [], [], 0⟩]
theorem sized_fld (l : List Fd) : Sized 7 (l.map fld) := fun e he => by
 obtain ⟨x, _, rfl⟩ := List.mem_map.1 he; rfl
theorem didsL_fld (l : List Fd) : PV.didsL (l.map fld) = [] := by
 induction l with
 | nil => rfl
 | cons e l ih => rw [List.map_cons, PV.didsL, ih]; simp only [fld, PV.dids, PV.didsL, didsL_str, List.append_nil]
theorem flds_dids (l : List Fd) : (flds l).dids = [] := by simp only [flds, PV.dids, didsL_fld]
end Go.Proofs.YthingdchjkhfbaaGreat
set_option linter.unusedSimpArgs false
set_option linter.unusedVariables false
set_option linter.unusedSimpArgs false
set_option linter.unusedVariables false
namespace Go.Proofs.YthingdchjkhfbaaGreat
open Go.PL
@[go_sem] theorem cast0 : ((0 : Nat) : Int) = 0 := rfl
@[go_sem] theorem cast1 : ((1 : Nat) : Int) = 1 := rfl
attribute [go_sem] Int.cast_ofNat_Int
def nm (s : Str) (i : Nat) : Int := ((s.getD i 0).toNat : Int)
def okAt (s : Str) (i : Nat) : Bool := decide (97 ≤ nm s i ∧ nm s i ≤ 122) || (decide (48 ≤ nm s i ∧ nm s i ≤ 57) && decide (i ≠ 0))
def nameB (s : Str) : Bool := decide (1 ≤ s.length ∧ s.length ≤ 12) && (List.range s.length).all (okAt s)
theorem nm_fold (s : Str) (i : Nat) : ((s.getD i 0).toNat : Int) = nm s i := rfl
set_option maxRecDepth 20000 in
set_option maxHeartbeats 4000000 in
theorem Name_pure (s : Str) : PL.Pure Tryz.prog 32 [.str s] (.bool (nameB s)) := by
 by_cases h1 : (s.length : Int) < 1
 ·have hx : nameB s = false := by simp only [nameB, show ¬ (1 ≤ s.length ∧ s.length ≤ 12) by omega, decide_false, Bool.false_and]
  refine PL.Pure.of_v Tryz.func32 (by decide) rfl Tryz.ntmps32 Tryz.results32 (by simp) rfl ?_
  simp only [go_sem, h1, hx]
 ·by_cases h2 : (12 : Int) < (s.length : Int)
  ·have hx : nameB s = false := by simp only [nameB, show ¬ (1 ≤ s.length ∧ s.length ≤ 12) by omega, decide_false, Bool.false_and]
   refine PL.Pure.of_v Tryz.func32 (by decide) rfl Tryz.ntmps32 Tryz.results32 (by simp) rfl ?_
   simp only [go_sem, h1, h2, hx]
  ·have hn : nameB s = (List.range s.length).all (okAt s) := by simp only [nameB, show (1 ≤ s.length ∧ s.length ≤ 12) by omega, and_self, decide_true, Bool.true_and]
   refine PL.Pure.of_v Tryz.func32 (by decide) rfl Tryz.ntmps32 Tryz.results32 (by simp) rfl ?_
   simp only [go_sem, h1, h2]
   refine vLoopM (ι := { k : Nat // k ≤ s.length ∧ ∀ j, j < k → okAt s j = true }) 50 (fun x => [(0, .str s), (15, .int .i64 (s.length : Int)), (16, .int .i64 (x.1 : Int))]) (fun x => []) (fun x => []) (fun x => s.length - x.1) ⟨0, by omega, fun j hj => by omega⟩
    ⟨rfl, (fcs rfl (fcs rfl (fcs rfl fnl))), fnl, fnl⟩ (fun x => ⟨(fcs rfl (fcs rfl (fcs rfl fnl))), fnl⟩) (fun x => ?_)
   obtain ⟨k, hk, hall⟩ := x
   simp only
   by_cases h : (k : Int) < (s.length : Int)
   ·have hka : k < s.length := by omega
    have w1 : IntKind.i64.wrap ((k : Int) + 1) = ((k + 1 : Nat) : Int) := by rw [w64 (by omega)]; rfl
    have i1 : (0 : Int) ≤ (k : Int) := by omega
    cases ho : okAt s k
    ·have hx : nameB s = false := by
      rw [hn, List.all_eq_false]
      exact ⟨k, by simpa using hka, by simp [ho]⟩
     simp only [okAt, Bool.or_eq_false_iff, decide_eq_false_iff_not, Bool.and_eq_false_iff] at ho
     by_cases g1 : 97 ≤ nm s k
     ·have g2 : ¬ nm s k ≤ 122 := by omega
      have g3 : 48 ≤ nm s k := by omega
      have g4 : ¬ nm s k ≤ 57 := by omega
      simp only [go_sem, h, i1, nm_fold, g1, g2, g3, g4, hx]
     ·by_cases g3 : 48 ≤ nm s k
      ·by_cases g4 : nm s k ≤ 57
       ·have hk0 : ((k : Int) == 0) = true := by
         rw [beq_iff_eq]
         rcases ho.2 with h' | h' <;> omega
        simp only [go_sem, h, i1, nm_fold, g1, g3, g4, hk0, hx]
       ·simp only [go_sem, h, i1, nm_fold, g1, g3, g4, hx]
      ·simp only [go_sem, h, i1, nm_fold, g1, g3, hx]
    ·have nx : ∀ j, j < k + 1 → okAt s j = true := below_succ hall ho
     simp only [okAt, Bool.or_eq_true, decide_eq_true_eq, Bool.and_eq_true] at ho
     by_cases g1 : 97 ≤ nm s k
     ·have g2 : nm s k ≤ 122 := by omega
      have g3 : 48 ≤ nm s k := by omega
      have g4 : ¬ nm s k ≤ 57 := by omega
      simp only [go_sem, h, i1, nm_fold, g1, g2, g3, g4, w1]
      exact ⟨⟨k + 1, by omega, nx⟩, by show s.length - (k + 1) < s.length - k; omega, ⟨rfl, (fcs rfl (fcs rfl (fcs rfl fnl))), fnl, fnl⟩⟩
     ·have g3 : 48 ≤ nm s k := by omega
      have g4 : nm s k ≤ 57 := by omega
      have hk0 : ((k : Int) == 0) = false := beq_eq_false_iff_ne.2 (by omega)
      simp only [go_sem, h, i1, nm_fold, g1, g3, g4, hk0, w1]
      exact ⟨⟨k + 1, by omega, nx⟩, by show s.length - (k + 1) < s.length - k; omega, ⟨rfl, (fcs rfl (fcs rfl (fcs rfl fnl))), fnl, fnl⟩⟩
   ·have hx : nameB s = true := by
     rw [hn, List.all_eq_true]
     intro j hj
     exact hall j (by have := List.mem_range.1 hj; omega)
    simp only [go_sem, h, hx]
def placeB (r : Rf) : Bool := (decide (r.sc = 0) || decide (r.sc = 1)) && (nameB r.nm && (decide (r.gr = []) || nameB r.gr))
set_option maxRecDepth 20000 in
set_option maxHeartbeats 4000000 in
theorem Place_pure (r : Rf) : PL.Pure Tryz.prog 76 [ref r] (.bool (placeB r)) := by
 have hN := Name_pure r.nm
 have hG := Name_pure r.gr
 by_cases hs : r.sc = 0 ∨ r.sc = 1
 ·have hs' : (decide (r.sc = 0) || decide (r.sc = 1)) = true := by simpa using hs
  have key : PL.Pure Tryz.prog 76 [ref r] (.bool (nameB r.nm && (decide (r.gr = []) || nameB r.gr))) := by
   cases hn : nameB r.nm
   ·rw [hn] at hN
    rcases hs with h0 | h1
    ·have q : (r.sc != 0) = false := by rw [h0]; rfl
     refine PL.Pure.of_v Tryz.func76 (by decide) rfl Tryz.ntmps76 Tryz.results76 (by simp) rfl ?_
     simp only [go_sem, ref, q]
     refine vCall_of (hN) ?_ ?_ ?_; iterate 2 simp only [go_sem]
     simp only [go_sem, Bool.false_and]
    ·have q : (r.sc != 0) = true := by rw [h1]; rfl
     have q1 : (r.sc != 1) = false := by rw [h1]; rfl
     refine PL.Pure.of_v Tryz.func76 (by decide) rfl Tryz.ntmps76 Tryz.results76 (by simp) rfl ?_
     simp only [go_sem, ref, q, q1]
     refine vCall_of (hN) ?_ ?_ ?_; iterate 2 simp only [go_sem]
     simp only [go_sem, Bool.false_and]
   ·rw [hn] at hN
    by_cases hg : r.gr = []
    ·have hg' := beq_nil hg
     rcases hs with h0 | h1
     ·have q : (r.sc != 0) = false := by rw [h0]; rfl
      refine PL.Pure.of_v Tryz.func76 (by decide) rfl Tryz.ntmps76 Tryz.results76 (by simp) rfl ?_
      simp only [go_sem, ref, q]
      refine vCall_of (hN) ?_ ?_ ?_; iterate 2 simp only [go_sem]
      simp only [go_sem, Bool.true_and, hg', decide_eq_true hg, Bool.true_or]
     ·have q : (r.sc != 0) = true := by rw [h1]; rfl
      have q1 : (r.sc != 1) = false := by rw [h1]; rfl
      refine PL.Pure.of_v Tryz.func76 (by decide) rfl Tryz.ntmps76 Tryz.results76 (by simp) rfl ?_
      simp only [go_sem, ref, q, q1]
      refine vCall_of (hN) ?_ ?_ ?_; iterate 2 simp only [go_sem]
      simp only [go_sem, Bool.true_and, hg', decide_eq_true hg, Bool.true_or]
    ·have hg' := beq_nil' hg
     rcases hs with h0 | h1
     ·have q : (r.sc != 0) = false := by rw [h0]; rfl
      refine PL.Pure.of_v Tryz.func76 (by decide) rfl Tryz.ntmps76 Tryz.results76 (by simp) rfl ?_
      simp only [go_sem, ref, q]
      refine vCall_of (hN) ?_ ?_ ?_; iterate 2 simp only [go_sem]
      simp only [go_sem, hg']
      refine vCall_of (hG) ?_ ?_ ?_; iterate 2 simp only [go_sem]
      simp only [go_sem, Bool.true_and, decide_eq_false hg, Bool.false_or]
     ·have q : (r.sc != 0) = true := by rw [h1]; rfl
      have q1 : (r.sc != 1) = false := by rw [h1]; rfl
      refine PL.Pure.of_v Tryz.func76 (by decide) rfl Tryz.ntmps76 Tryz.results76 (by simp) rfl ?_
      simp only [go_sem, ref, q, q1]
      refine vCall_of (hN) ?_ ?_ ?_; iterate 2 simp only [go_sem]
      simp only [go_sem, hg']
      refine vCall_of (hG) ?_ ?_ ?_; iterate 2 simp only [go_sem]
      simp only [go_sem, Bool.true_and, decide_eq_false hg, Bool.false_or]
  simp only [placeB, hs', Bool.true_and]
  exact key
 ·have q : (r.sc != 0) = true := bne_iff_ne.2 (by omega)
  have q1 : (r.sc != 1) = true := bne_iff_ne.2 (by omega)
  have hx : placeB r = false := by
   have : (decide (r.sc = 0) || decide (r.sc = 1)) = false := by simp; omega
   simp only [placeB, this, Bool.false_and]
  refine PL.Pure.of_v Tryz.func76 (by decide) rfl Tryz.ntmps76 Tryz.results76 (by simp) rfl ?_
  simp only [go_sem, ref, q, q1, hx]
set_option maxHeartbeats 1000000 in
theorem Text_pure (s : Str) : PL.Pure Tryz.prog 77 [.str s] (.bool (decide ((s.length : Int) ≤ 40))) := by
 refine PL.Pure.of_v Tryz.func77 (by decide) rfl Tryz.ntmps77 Tryz.results77 (by simp) rfl ?_
 simp only [go_sem]
end Go.Proofs.YthingdchjkhfbaaGreat
set_option linter.unusedSimpArgs false
set_option linter.unusedVariables false
set_option linter.unusedSimpArgs false
set_option linter.unusedVariables false
namespace Go.Proofs.YthingdchjkhfbaaGreat
open Go.PL
theorem strs_dids (l : List Str) : (strs l).dids = [] := by simp only [strs, PV.dids, didsL_str]
end Go.Proofs.YthingdchjkhfbaaGreat
set_option linter.unusedSimpArgs false
set_option linter.unusedVariables false
set_option linter.unusedSimpArgs false
set_option linter.unusedVariables false
namespace Go.Proofs.YthingdchjkhfbaaGreat
open Go.PL
set_option maxRecDepth 20000 in
set_option maxHeartbeats 4000000 in
theorem RName_pure (s : Str) : PL.Pure Tryz.prog 142 [.str s] (.bool (nameB s)) := by
 by_cases h1 : (s.length : Int) < 1
 ·have hx : nameB s = false := by simp only [nameB, show ¬ (1 ≤ s.length ∧ s.length ≤ 12) by omega, decide_false, Bool.false_and]
  refine PL.Pure.of_v Tryz.func142 (by decide) rfl Tryz.ntmps142 Tryz.results142 (by simp) rfl ?_
  simp only [go_sem, h1, hx]
 ·by_cases h2 : (12 : Int) < (s.length : Int)
  ·have hx : nameB s = false := by simp only [nameB, show ¬ (1 ≤ s.length ∧ s.length ≤ 12) by omega, decide_false, Bool.false_and]
   refine PL.Pure.of_v Tryz.func142 (by decide) rfl Tryz.ntmps142 Tryz.results142 (by simp) rfl ?_
   simp only [go_sem, h1, h2, hx]
  ·have hn : nameB s = (List.range s.length).all (okAt s) := by simp only [nameB, show (1 ≤ s.length ∧ s.length ≤ 12) by omega, and_self, decide_true, Bool.true_and]
   refine PL.Pure.of_v Tryz.func142 (by decide) rfl Tryz.ntmps142 Tryz.results142 (by simp) rfl ?_
   simp only [go_sem, h1, h2]
   refine vLoopM (ι := { k : Nat // k ≤ s.length ∧ ∀ j, j < k → okAt s j = true }) 50 (fun x => [(0, .str s), (3, .int .i64 (x.1 : Int))]) (fun x => []) (fun x => []) (fun x => s.length - x.1) ⟨0, by omega, fun j hj => by omega⟩
    ⟨rfl, (fcs rfl (fcs rfl fnl)), fnl, fnl⟩ (fun x => ⟨(fcs rfl (fcs rfl fnl)), fnl⟩) (fun x => ?_)
   obtain ⟨k, hk, hall⟩ := x
   simp only
   by_cases h : (k : Int) < (s.length : Int)
   ·have hka : k < s.length := by omega
    have w1 : IntKind.i64.wrap ((k : Int) + 1) = ((k + 1 : Nat) : Int) := by rw [w64 (by omega)]; rfl
    have i1 : (0 : Int) ≤ (k : Int) := by omega
    cases ho : okAt s k
    ·have hx : nameB s = false := by
      rw [hn, List.all_eq_false]
      exact ⟨k, by simpa using hka, by simp [ho]⟩
     simp only [okAt, Bool.or_eq_false_iff, decide_eq_false_iff_not, Bool.and_eq_false_iff] at ho
     by_cases g1 : 97 ≤ nm s k
     ·have g2 : ¬ nm s k ≤ 122 := by omega
      have g3 : 48 ≤ nm s k := by omega
      have g4 : ¬ nm s k ≤ 57 := by omega
      simp only [go_sem, h, i1, nm_fold, g1, g2, g3, g4, hx]
     ·by_cases g3 : 48 ≤ nm s k
      ·by_cases g4 : nm s k ≤ 57
       ·have hk0 : ((k : Int) == 0) = true := by
         rw [beq_iff_eq]
         rcases ho.2 with h' | h' <;> omega
        simp only [go_sem, h, i1, nm_fold, g1, g3, g4, hk0, hx]
       ·simp only [go_sem, h, i1, nm_fold, g1, g3, g4, hx]
      ·simp only [go_sem, h, i1, nm_fold, g1, g3, hx]
    ·have nx : ∀ j, j < k + 1 → okAt s j = true := below_succ hall ho
     simp only [okAt, Bool.or_eq_true, decide_eq_true_eq, Bool.and_eq_true] at ho
     by_cases g1 : 97 ≤ nm s k
     ·have g2 : nm s k ≤ 122 := by omega
      have g3 : 48 ≤ nm s k := by omega
      have g4 : ¬ nm s k ≤ 57 := by omega
      simp only [go_sem, h, i1, nm_fold, g1, g2, g3, g4, w1]
      exact ⟨⟨k + 1, by omega, nx⟩, by show s.length - (k + 1) < s.length - k; omega, ⟨rfl, (fcs rfl (fcs rfl fnl)), fnl, fnl⟩⟩
     ·have g3 : 48 ≤ nm s k := by omega
      have g4 : nm s k ≤ 57 := by omega
      have hk0 : ((k : Int) == 0) = false := beq_eq_false_iff_ne.2 (by omega)
      simp only [go_sem, h, i1, nm_fold, g1, g3, g4, hk0, w1]
      exact ⟨⟨k + 1, by omega, nx⟩, by show s.length - (k + 1) < s.length - k; omega, ⟨rfl, (fcs rfl (fcs rfl fnl)), fnl, fnl⟩⟩
   ·have hx : nameB s = true := by
     rw [hn, List.all_eq_true]
     intro j hj
     exact hall j (by have := List.mem_range.1 hj; omega)
    simp only [go_sem, h, hx]
theorem place_alt (r : Rf) : placeB r = (decide (0 ≤ r.sc) && (decide (r.sc ≤ 1) && (nameB r.nm && (decide (r.gr = []) || nameB r.gr)))) := by
 have : (decide (r.sc = 0) || decide (r.sc = 1)) = (decide (0 ≤ r.sc) && decide (r.sc ≤ 1)) := by
  rw [Bool.eq_iff_iff]; simp; omega
 rw [placeB, this, Bool.and_assoc]
set_option maxRecDepth 20000 in
set_option maxHeartbeats 4000000 in
theorem RPlace_pure (r : Rf) : PL.Pure Tryz.prog 138 [ref r] (.bool (placeB r)) := by
 rw [place_alt]
 have hN := RName_pure r.nm
 have hG := RName_pure r.gr
 refine PL.Pure.of_v Tryz.func138 (by decide) rfl Tryz.ntmps138 Tryz.results138 (by simp) rfl ?_
 simp only [go_sem, ref]
 repeat' (first | (refine vGuard_t (fun h => ?_) (fun h => ?_) <;> (try simp only [go_sem, h])) | (refine vGuard_f (fun h => ?_) (fun h => ?_) <;> (try simp only [go_sem, h])) | (refine vCond_b (fun h => ?_) (fun h => ?_) <;> (try simp only [go_sem, h])) | ((refine vCall_of (hN) ?_ ?_ ?_); (focus simp only [go_sem]); (focus exact rfl); (try simp only [go_sem])) | ((refine vCall_of (hG) ?_ ?_ ?_); (focus simp only [go_sem]); (focus exact rfl); (try simp only [go_sem])) | ((refine vDrawQ (by kernel_rfl) (by kernel_rfl) ?_); (try simp only [go_sem])))
 all_goals (simp_all)
set_option maxHeartbeats 1000000 in
theorem RHas_pure (l : List Str) (s : Str) (hl : l.length ≤ maxLen) : PL.Pure Tryz.prog 170 [strs l, .str s] (.bool (l.any (· == s))) := by
 refine PL.Pure.of_v Tryz.func170 (by decide) rfl Tryz.ntmps170 Tryz.results170 (by simp) rfl ?_
 simp only [go_sem, strs]
 refine vLoopM (ι := { k : Nat // k ≤ l.length ∧ ∀ j, j < k → (l.getD j [] == s) = false }) 18 (fun x => [(0, strs l), (1, .str s), (5, .int .i64 (x.1 : Int))]) (fun x => []) (fun x => []) (fun x => l.length - x.1) ⟨0, by omega, fun j hj => by omega⟩
  ⟨rfl, (fcs rfl (fcs rfl (fcs rfl fnl))), fnl, fnl⟩ (fun x => ⟨(fcs rfl (fcs rfl (fcs rfl fnl))), fnl⟩) (fun x => ?_)
 obtain ⟨k, hk, hall⟩ := x
 simp only
 by_cases h : (k : Int) < (l.length : Int)
 ·have hka : k < l.length := by omega
  have w1 := w64s hka hl
  have i1 : (0 : Int) ≤ (k : Int) := by omega
  cases he : (l.getD k [] == s)
  ·simp only [go_sem, strs, h, getD_str hka, i1, he, w1]
   exact ⟨⟨k + 1, by omega, below_succ hall he⟩, by show l.length - (k + 1) < l.length - k; omega, ⟨rfl, (fcs rfl (fcs rfl (fcs rfl fnl))), fnl, fnl⟩⟩
  ·have hx := any_true (p := (· == s)) hka he
   simp only [go_sem, strs, h, getD_str hka, i1, he, hx]
 ·have hx := any_false (p := (· == s)) (d := []) (l := l) (fun j hj => hall j (by omega))
  simp only [go_sem, strs, h, hx]
def lessB (a b : Rf) : Bool := if a.sc ≠ b.sc then decide (a.sc < b.sc) else if a.gr ≠ b.gr then bytesLt a.gr b.gr else bytesLt a.nm b.nm
end Go.Proofs.YthingdchjkhfbaaGreat
set_option linter.unusedSimpArgs false
set_option linter.unusedVariables false
set_option linter.unusedSimpArgs false
set_option linter.unusedVariables false
namespace Go.Proofs.YthingdchjkhfbaaGreat
open Go.PL
attribute [go_sem] Option.map_some Option.map_none Option.isNone_none
theorem take_str (l : List Str) (k : Nat) : List.take k (l.map PV.str) = (l.take k).map PV.str := by rw [List.map_take]
def caseOk (l : List Str) (i : Nat) : Bool := nameB (l.getD i []) && !((l.take i).any (· == l.getD i []))
def casesB (l : List Str) : Bool := (List.range l.length).all (caseOk l)
theorem casesB_false {l : List Str} {k : Nat} (hk : k < l.length) (h : caseOk l k = false) : casesB l = false := by
 rw [casesB, List.all_eq_false]; exact ⟨k, by simpa using hk, by simp [h]⟩
theorem casesB_true {l : List Str} (h : ∀ j, j < l.length → caseOk l j = true) : casesB l = true := by
 rw [casesB, List.all_eq_true]; intro j hj; exact h j (List.mem_range.1 hj)
def tail3 (f : Fd) : Bool := casesB f.cases' && (decide ((f.cases'.length : Int) < 7) && f.cases'.any (· == f.df))
def tail2 (f : Fd) : Bool := !decide (0 < (f.cases'.length : Int)) && ((decide (f.kind = 2) && decide ((f.df.length : Int) < 41)) || (decide (f.kind = 4) && decide (f.df = [])))
def rightF (f : Fd) : Bool :=
 placeB f.at' && (if f.kind = 1 then decide (f.df = []) && (decide ((f.cases'.length : Int) = 0) && (decide (0 < f.worth) && decide (f.worth < 1048577)))
  else decide (f.worth = 0) && (if f.kind = 3 then tail3 f else tail2 f))
set_option maxRecDepth 20000 in
set_option maxHeartbeats 8000000 in
theorem RRight_pure (f : Fd) (hl : f.cases'.length ≤ maxLen) : PL.Pure Tryz.prog 137 [fld f] (.bool (rightF f)) := by
 have hP := RPlace_pure f.at'
 by_cases h3 : f.kind = 3
 ·have k1 : (f.kind == 1) = false := by rw [h3]; rfl
  have k3 : (f.kind == 3) = true := by rw [h3]; rfl
  cases hp : placeB f.at'
  ·rw [hp] at hP
   refine PL.Pure.of_v Tryz.func137 (by decide) rfl Tryz.ntmps137 Tryz.results137 (by simp) rfl ?_
   simp only [go_sem, fld]
   refine vCall_of (hP) ?_ ?_ ?_; iterate 2 simp only [go_sem, ref]
   simp only [go_sem, rightF, hp, Bool.false_and]
  ·rw [hp] at hP
   by_cases hw : f.worth = 0
   ·have hw' : (f.worth != 0) = false := by rw [hw]; rfl
    have hx : rightF f = tail3 f := by
     simp only [rightF, hp, h3, hw, Bool.true_and, decide_true, if_true]
     rfl
    rw [hx]
    refine PL.Pure.of_v Tryz.func137 (by decide) rfl Tryz.ntmps137 Tryz.results137 (by simp) rfl ?_
    simp only [go_sem, fld]
    refine vCall_of (hP) ?_ ?_ ?_; iterate 2 simp only [go_sem, ref]
    simp only [go_sem, k1, k3, hw']
    refine vLoopM (ι := { k : Nat // k ≤ f.cases'.length ∧ ∀ j, j < k → caseOk f.cases' j = true }) 96 (fun x => [(1, .ptr 1 0), (3, .int .i64 (x.1 : Int))]) (fun x => [(1, [.int .i64 f.at'.sc, .str f.at'.gr, .str f.at'.nm, .int .i64 f.kind, .str f.df, .sl .no (f.cases'.map .str), .int .i64 f.worth], false)]) (fun x => []) (fun x => f.cases'.length - x.1) ⟨0, by omega, fun j hj => by omega⟩
     ⟨rfl, (fcs rfl (fcs rfl fnl)), fcs ⟨rfl, rfl⟩ fnl, fnl⟩ (fun x => ⟨(fcs rfl (fcs rfl fnl)), (fcs rfl fnl)⟩) (fun x => ?_)
    obtain ⟨k, hk, hall⟩ := x
    simp only
    by_cases h : (k : Int) < (f.cases'.length : Int)
    ·have hka : k < f.cases'.length := by omega
     have w1 := w64s hka hl
     have i1 : (0 : Int) ≤ (k : Int) := by omega
     have i2 : (k : Int) ≤ (f.cases'.length : Int) := by omega
     have hN := RName_pure (f.cases'.getD k [])
     have hT : (f.cases'.take k).length ≤ maxLen := by rw [List.length_take]; omega
     have hH := RHas_pure (f.cases'.take k) (f.cases'.getD k []) hT
     cases hn : nameB (f.cases'.getD k [])
     ·rw [hn] at hN
      have hz : tail3 f = false := by simp only [tail3, casesB_false hka (by simp only [caseOk, hn, Bool.false_and]), Bool.false_and]
      simp only [go_sem, h, i1]
      refine vDrawQ (by kernel_rfl) (by kernel_rfl) ?_
      simp only [go_sem, getD_str hka, h, i1]
      refine vCall_of (hN) ?_ ?_ ?_; iterate 2 simp only [go_sem]
      simp only [go_sem, hz]
     ·rw [hn] at hN
      cases hh : (f.cases'.take k).any (· == f.cases'.getD k [])
      ·rw [hh] at hH
       have ok : caseOk f.cases' k = true := by simp only [caseOk, hn, hh, Bool.not_false, Bool.and_self]
       simp only [go_sem, h, i1]
       refine vDrawQ (by kernel_rfl) (by kernel_rfl) ?_
       simp only [go_sem, getD_str hka, h, i1]
       refine vCall_of (hN) ?_ ?_ ?_; iterate 2 simp only [go_sem]
       simp only [go_sem, getD_str hka, h, i1, i2, cut, Nat.sub_zero, take_str, sized_str]
       refine vCall_of (hH) ?_ ?_ ?_; iterate 2 simp only [go_sem, strs]
       simp only [go_sem, w1]
       exact ⟨⟨k + 1, by omega, below_succ hall ok⟩, by show f.cases'.length - (k + 1) < f.cases'.length - k; omega, ⟨rfl, (fcs rfl (fcs rfl fnl)), fcs ⟨rfl, rfl⟩ fnl, fnl⟩⟩
      ·rw [hh] at hH
       have hz : tail3 f = false := by simp only [tail3, casesB_false hka (by simp only [caseOk, hn, hh, Bool.not_true, Bool.and_false]), Bool.false_and]
       simp only [go_sem, h, i1]
       refine vDrawQ (by kernel_rfl) (by kernel_rfl) ?_
       simp only [go_sem, getD_str hka, h, i1]
       refine vCall_of (hN) ?_ ?_ ?_; iterate 2 simp only [go_sem]
       simp only [go_sem, getD_str hka, h, i1, i2, cut, Nat.sub_zero, take_str, sized_str]
       refine vCall_of (hH) ?_ ?_ ?_; iterate 2 simp only [go_sem, strs]
       simp only [go_sem, hz]
    ·have hc := casesB_true (l := f.cases') (fun j hj => hall j (by omega))
     have hH := RHas_pure f.cases' f.df hl
     by_cases h7 : (f.cases'.length : Int) < 7
     ·simp only [go_sem, h, h7]
      refine vCall_of (hH) ?_ ?_ ?_; iterate 2 simp only [go_sem, strs]
      simp only [go_sem, tail3, hc, h7, Bool.true_and]
     ·simp only [go_sem, h, h7, tail3, hc, Bool.true_and, Bool.false_and]
   ·have hw' : (f.worth != 0) = true := bne_iff_ne.2 hw
    have hx : rightF f = false := by
     simp only [rightF, hp, h3, hw, Bool.true_and, decide_false, Bool.false_and]
     rfl
    refine PL.Pure.of_v Tryz.func137 (by decide) rfl Tryz.ntmps137 Tryz.results137 (by simp) rfl ?_
    simp only [go_sem, fld]
    refine vCall_of (hP) ?_ ?_ ?_; iterate 2 simp only [go_sem, ref]
    simp only [go_sem, k1, k3, hw', hx]
 ·have k3 : (f.kind == 3) = false := beq_eq_false_iff_ne.2 h3
  have hx : rightF f = (placeB f.at' && (if f.kind = 1 then decide (f.df = []) && (decide ((f.cases'.length : Int) = 0) && (decide (0 < f.worth) && decide (f.worth < 1048577))) else decide (f.worth = 0) && tail2 f)) := by
   simp only [rightF, h3, if_false]
  rw [hx]
  refine PL.Pure.of_v Tryz.func137 (by decide) rfl Tryz.ntmps137 Tryz.results137 (by simp) rfl ?_
  simp only [go_sem, fld]
  refine vCall_of (hP) ?_ ?_ ?_; iterate 2 simp only [go_sem, ref]
  simp only [go_sem]
  repeat' (first | (refine vGuard_t (fun h => ?_) (fun h => ?_) <;> (try simp only [go_sem, h, k3])) | (refine vGuard_f (fun h => ?_) (fun h => ?_) <;> (try simp only [go_sem, h, k3])) | (refine vCond_b (fun h => ?_) (fun h => ?_) <;> (try simp only [go_sem, h, k3])) | ((refine vDrawQ (by kernel_rfl) (by kernel_rfl) ?_); (try simp only [go_sem, k3])))
  all_goals (simp_all [tail2])
  all_goals (cases f.df <;> simp)
def fitsF (f : Fd) (s : Str) : Bool := (rightF f && !decide (f.kind = 1)) && (if f.kind = 3 then f.cases'.any (· == s) else decide ((s.length : Int) < 41))
end Go.Proofs.YthingdchjkhfbaaGreat
set_option linter.unusedSimpArgs false
set_option linter.unusedVariables false
set_option linter.unusedSimpArgs false
set_option linter.unusedVariables false
namespace Go.Proofs.YthingdchjkhfbaaGreat
open Go.PL
theorem rall_false {p : Nat → Bool} {n k : Nat} (hk : k < n) (h : p k = false) : (List.range n).all p = false := by
 rw [List.all_eq_false]; exact ⟨k, by simpa using hk, by simp [h]⟩
theorem rall_true {p : Nat → Bool} {n : Nat} (h : ∀ j, j < n → p j = true) : (List.range n).all p = true := by
 rw [List.all_eq_true]; intro j hj; exact h j (List.mem_range.1 hj)
end Go.Proofs.YthingdchjkhfbaaGreat
set_option linter.unusedSimpArgs false
set_option linter.unusedVariables false
set_option linter.unusedSimpArgs false
set_option linter.unusedVariables false
namespace Go.Proofs.YthingdchjkhfbaaGreat
open Go.PL
def fldOk (l : List Fd) (i : Nat) : Bool := rightF (l.getD i default) && (decide (i = 0) || lessB (l.getD (i - 1) default).at' (l.getD i default).at')
def rightL (l : List Fd) : Bool := !decide (16 < (l.length : Int)) && (List.range l.length).all (fldOk l)
def scopeM (l : List Fd) (sc : Int) : List Fd := l.filter fun f => f.at'.sc == sc
end Go.Proofs.YthingdchjkhfbaaGreat
