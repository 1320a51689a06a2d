/- Contracts of functions and laws of this seat, each for every input that it names: lemmas of the proof. -/
import Derived.Test.YtnadlkjmdimjkaaXBm
import Derived.Test.YtnadlkjmdimjkaaXAc
import Derived.Test.YtnadlkjmdimjkaaRows
import Derived.ProofKit
import Derived.Test.YtnadlkjmdimjkaaPlG
set_option linter.unusedSimpArgs false
set_option linter.unusedVariables false
set_option linter.unusedSimpArgs false
set_option linter.unusedVariables false
namespace Go.Proofs.Ytnadlkjmdimjkaa
open Go.PL
def traceL : List Ln → Rf → Rf × Bool
  | [], r => (r, true)
  | x :: xs, r => if (traceM x r).2 = false then (default, false) else traceL xs (traceM x r).1
def keptL : List Ln → Rf → Bool
  | [], r => true
  | x :: xs, r => if keptM x r = false then false else if (traceM x r).2 = false then false else keptL xs (traceM x r).1
theorem traceL_cons (x : Ln) (xs : List Ln) (r : Rf) : traceL (x :: xs) r = if (traceM x r).2 = false then (default, false) else traceL xs (traceM x r).1 := rfl
theorem keptL_cons (x : Ln) (xs : List Ln) (r : Rf) : keptL (x :: xs) r = if keptM x r = false then false else if (traceM x r).2 = false then false else keptL xs (traceM x r).1 := rfl
def traceT (m : List Eg) (a b : Tg) (r : Rf) : Rf × Bool := if pathC m a b ≠ 0 then (default, false) else traceL (rowM m a b).1 r
def keptT (m : List Eg) (a b : Tg) (r : Rf) : Bool := if pathC m a b ≠ 0 then false else keptL (rowM m a b).1 r
def trc (x : Rf × Bool) (c : Int) : PV := .tup [ref x.1, .bool x.2, .int .i64 c]
theorem trc_dids (x : Rf × Bool) (c : Int) : (trc x c).dids = [] := by simp only [trc, PV.dids, PV.didsL, ref_dids, List.append_nil]
structure TrS (row : List Ln) (f : List Ln → Rf → Rf × Bool) (r0 : Rf) where
  k : Nat
  r : Rf
  hk : k ≤ row.length
  h : f (row.drop k) r = f row r0
structure KpS (row : List Ln) (r0 : Rf) where
  k : Nat
  r : Rf
  hk : k ≤ row.length
  h : keptL (row.drop k) r = keptL row r0
theorem row_ok {m : List Eg} {a b : Tg} (hm : OkM m) : (rowM m a b).1.length ≤ 1000 ∧ ∀ x ∈ (rowM m a b).1, OkLn x := by
  unfold rowM
  split
  · simp
  · rename_i h
    have hl := legs_len m a b hm
    unfold pathM at hl
    rw [if_neg h] at hl
    refine ⟨by simp only at hl; simp [lenses]; omega, fun x hx => ?_⟩
    obtain ⟨y, _, rfl⟩ := List.mem_map.1 hx
    exact okLens hm y
set_option maxRecDepth 20000 in
set_option maxHeartbeats 16000000 in
theorem TraceTo_pure (m : List Eg) (a b : Tg) (r : Rf) (hm : OkM m) (hr : RightM m) : PL.Pure Try.prog 33 [tr (treeOf m), tg a, tg b, ref r] (trc (traceT m a b r) (pathC m a b)) := by
  have hR := Row_pure m a b hm hr
  obtain ⟨hrl, hro⟩ := row_ok (a := a) (b := b) hm
  have hc2 : (rowM m a b).2 = pathC m a b := by unfold rowM; split <;> simp_all
  unfold traceT
  by_cases hc : pathC m a b = 0
  · rw [if_neg (fun h => h hc)]
    rw [hc] at hc2
    generalize hrow : rowM m a b = rw0 at *
    obtain ⟨row, c0⟩ := rw0
    simp only at hc2 hrl hro ⊢
    subst hc2
    rw [hc]
    refine PL.Pure.of_v Try.func33 (by decide) rfl Try.ntmps33 Try.results33 (by simp) (trc_dids _ _) ?_
    simp only [go_sem, tr, tg, ref]
    refine vScopeM (ι := TrS row traceL r) 47 (fun x => [(7, .ptr 7 0), (8, .ptr 8 0), (11, lnss row), (13, .int .i64 (x.k : Int))]) (fun x => [(7, [.int .i64 x.r.sc, .str x.r.gr, .str x.r.nm], false), (8, [.int .i64 0, .str [], .str []], false)]) (fun x => []) (fun x => row.length - x.k) 0 _ (by exact rfl) (fun x => ⟨(forall_cons rfl (forall_cons rfl (forall_cons rfl (forall_cons rfl (forall_nil))))), forall_cons rfl (forall_cons rfl forall_nil)⟩) (fun x => ?_) (fun cut => ?_)
    · obtain ⟨k, r1, hk, h⟩ := x
      simp only
      by_cases he : k = row.length
      · have hb : ((k : Int) == (row.length : Int)) = true := by simp [he]
        have hd : traceL row r = (r1, true) := by rw [← h, he, List.drop_length]; rfl
        simp only [go_sem, lnss, List.length_map, hb, hd, trc, ref]
      · have hb : ((k : Int) == (row.length : Int)) = false := by simp; omega
        have hka : k < row.length := by omega
        have i0 : (0 : Int) ≤ (k : Int) := by omega
        have i1 : (k : Int) < (row.length : Int) := by omega
        have w1 : IntKind.i64.wrap ((k : Int) + 1) = ((k + 1 : Nat) : Int) := by rw [w64 (by omega)]; rfl
        have hT := Trace_pure (row.getD k default) r1 (hro _ (getD_mem (d := default) hka))
        rw [drop_ln hka, traceL_cons] at h
        cases hz : (traceM (row.getD k default) r1).2
        · rw [if_pos hz] at h
          simp only [go_sem, lnss, List.length_map, hb]
          refine vDrawQ (by kernel_rfl) (by kernel_rfl) ?_
          simp only [go_sem, getD_ln hka, lns, i0, i1]
          refine vCall_of (hT) ?_ ?_ ?_; (focus simp only [go_sem, lns, ref]); (focus simp only [go_sem, lns, ref])
          simp only [go_sem, refb, ref, hz, ← h, trc]
          rfl
        · rw [if_neg (by rw [hz]; simp)] at h
          simp only [go_sem, lnss, List.length_map, hb]
          refine vDrawQ (by kernel_rfl) (by kernel_rfl) ?_
          simp only [go_sem, getD_ln hka, lns, i0, i1]
          refine vCall_of (hT) ?_ ?_ ?_; (focus simp only [go_sem, lns, ref]); (focus simp only [go_sem, lns, ref])
          simp only [go_sem, refb, ref, hz, w1]
          exact ⟨⟨k + 1, (traceM (row.getD k default) r1).1, by omega, h⟩, by show row.length - (k + 1) < row.length - k; omega, ⟨rfl, (forall_cons rfl (forall_cons rfl (forall_cons rfl (forall_cons rfl (forall_nil))))), forall_cons ⟨rfl, rfl⟩ (forall_cons ⟨rfl, rfl⟩ forall_nil), forall_nil⟩⟩
    · simp only [go_sem]
      refine vCall_of (hR) ?_ ?_ ?_; (focus simp only [go_sem, tr, tg]); (focus simp only [go_sem, tr, tg])
      simp only [go_sem, lnsc]
      exact awp_label_seq (cut ⟨0, r, Nat.zero_le _, rfl⟩ _ ⟨rfl, (forall_cons rfl (forall_cons rfl (forall_cons rfl (forall_cons rfl (forall_nil))))), forall_cons ⟨rfl, rfl⟩ (forall_cons ⟨rfl, rfl⟩ forall_nil), forall_nil⟩)
  · rw [if_pos hc]
    have hc' : (pathC m a b != 0) = true := by simpa using hc
    have hcr : rowM m a b = ([], pathC m a b) := by unfold rowM; rw [if_pos hc]
    rw [hcr] at hR
    refine PL.Pure.of_v Try.func33 (by decide) rfl Try.ntmps33 Try.results33 (by simp) (trc_dids _ _) ?_
    simp only [go_sem, tr, tg, ref]
    refine vScope0 ?_
    simp only [go_sem]
    refine vCall_of (hR) ?_ ?_ ?_; (focus simp only [go_sem, tr, tg]); (focus simp only [go_sem, tr, tg])
    simp only [go_sem, lnsc, lnss, hc', trc, ref]
    rfl
def kpc (x : Bool) (c : Int) : PV := .tup [.bool x, .int .i64 c]
theorem kpc_dids (x : Bool) (c : Int) : (kpc x c).dids = [] := rfl
set_option maxRecDepth 20000 in
set_option maxHeartbeats 16000000 in
theorem KeptTo_pure (m : List Eg) (a b : Tg) (r : Rf) (hm : OkM m) (hr : RightM m) : PL.Pure Try.prog 34 [tr (treeOf m), tg a, tg b, ref r] (kpc (keptT m a b r) (pathC m a b)) := by
  have hR := Row_pure m a b hm hr
  obtain ⟨hrl, hro⟩ := row_ok (a := a) (b := b) hm
  have hc2 : (rowM m a b).2 = pathC m a b := by unfold rowM; split <;> simp_all
  unfold keptT
  by_cases hc : pathC m a b = 0
  · rw [if_neg (fun h => h hc)]
    rw [hc] at hc2
    generalize hrow : rowM m a b = rw0 at *
    obtain ⟨row, c0⟩ := rw0
    simp only at hc2 hrl hro ⊢
    subst hc2
    rw [hc]
    refine PL.Pure.of_v Try.func34 (by decide) rfl Try.ntmps34 Try.results34 (by simp) (kpc_dids _ _) ?_
    simp only [go_sem, tr, tg, ref]
    refine vScopeM (ι := KpS row r) 50 (fun x => [(7, .ptr 7 0), (10, lnss row), (12, .int .i64 (x.k : Int))]) (fun x => [(7, [.int .i64 x.r.sc, .str x.r.gr, .str x.r.nm], false)]) (fun x => []) (fun x => row.length - x.k) 0 _ (by exact rfl) (fun x => ⟨(forall_cons rfl (forall_cons rfl (forall_cons rfl (forall_nil)))), forall_cons rfl forall_nil⟩) (fun x => ?_) (fun cut => ?_)
    · obtain ⟨k, r1, hk, h⟩ := x
      simp only
      by_cases he : k = row.length
      · have hb : ((k : Int) == (row.length : Int)) = true := by simp [he]
        have hd : keptL row r = true := by rw [← h, he, List.drop_length]; rfl
        simp only [go_sem, lnss, List.length_map, hb, hd, kpc]
      · have hb : ((k : Int) == (row.length : Int)) = false := by simp; omega
        have hka : k < row.length := by omega
        have i0 : (0 : Int) ≤ (k : Int) := by omega
        have i1 : (k : Int) < (row.length : Int) := by omega
        have w1 : IntKind.i64.wrap ((k : Int) + 1) = ((k + 1 : Nat) : Int) := by rw [w64 (by omega)]; rfl
        have hT := Trace_pure (row.getD k default) r1 (hro _ (getD_mem (d := default) hka))
        have hK := Kept_pure (row.getD k default) r1 (hro _ (getD_mem (d := default) hka))
        rw [drop_ln hka, keptL_cons] at h
        cases hy : keptM (row.getD k default) r1
        · rw [if_pos hy] at h
          rw [hy] at hK
          simp only [go_sem, lnss, List.length_map, hb]
          refine vDrawQ (by kernel_rfl) (by kernel_rfl) ?_
          simp only [go_sem, getD_ln hka, lns, i0, i1]
          refine vCall_of (hK) ?_ ?_ ?_; (focus simp only [go_sem, lns, ref]); (focus simp only [go_sem, lns, ref])
          simp only [go_sem, ← h, kpc]
        rw [if_neg (by rw [hy]; simp)] at h
        rw [hy] at hK
        cases hz : (traceM (row.getD k default) r1).2
        · rw [if_pos hz] at h
          simp only [go_sem, lnss, List.length_map, hb]
          refine vDrawQ (by kernel_rfl) (by kernel_rfl) ?_
          simp only [go_sem, getD_ln hka, lns, i0, i1]
          refine vCall_of (hK) ?_ ?_ ?_; (focus simp only [go_sem, lns, ref]); (focus simp only [go_sem, lns, ref])
          simp only [go_sem]
          refine vDrawQ (by kernel_rfl) (by kernel_rfl) ?_
          simp only [go_sem, getD_ln hka, lns, i0, i1, List.length_map]
          refine vCall_of (hT) ?_ ?_ ?_; (focus simp only [go_sem, lns, ref]); (focus simp only [go_sem, lns, ref])
          simp only [go_sem, refb, ref, hz, ← h, kpc]
        · rw [if_neg (by rw [hz]; simp)] at h
          simp only [go_sem, lnss, List.length_map, hb]
          refine vDrawQ (by kernel_rfl) (by kernel_rfl) ?_
          simp only [go_sem, getD_ln hka, lns, i0, i1]
          refine vCall_of (hK) ?_ ?_ ?_; (focus simp only [go_sem, lns, ref]); (focus simp only [go_sem, lns, ref])
          simp only [go_sem]
          refine vDrawQ (by kernel_rfl) (by kernel_rfl) ?_
          simp only [go_sem, getD_ln hka, lns, i0, i1, List.length_map]
          refine vCall_of (hT) ?_ ?_ ?_; (focus simp only [go_sem, lns, ref]); (focus simp only [go_sem, lns, ref])
          simp only [go_sem, refb, ref, hz, w1]
          exact ⟨⟨k + 1, (traceM (row.getD k default) r1).1, by omega, h⟩, by show row.length - (k + 1) < row.length - k; omega, ⟨rfl, (forall_cons rfl (forall_cons rfl (forall_cons rfl (forall_nil)))), forall_cons ⟨rfl, rfl⟩ forall_nil, forall_nil⟩⟩
    · simp only [go_sem]
      refine vCall_of (hR) ?_ ?_ ?_; (focus simp only [go_sem, tr, tg]); (focus simp only [go_sem, tr, tg])
      simp only [go_sem, lnsc]
      exact awp_label_seq (cut ⟨0, r, Nat.zero_le _, rfl⟩ _ ⟨rfl, (forall_cons rfl (forall_cons rfl (forall_cons rfl (forall_nil)))), forall_cons ⟨rfl, rfl⟩ forall_nil, forall_nil⟩)
  · rw [if_pos hc]
    have hc' : (pathC m a b != 0) = true := by simpa using hc
    have hcr : rowM m a b = ([], pathC m a b) := by unfold rowM; rw [if_pos hc]
    rw [hcr] at hR
    refine PL.Pure.of_v Try.func34 (by decide) rfl Try.ntmps34 Try.results34 (by simp) (kpc_dids _ _) ?_
    simp only [go_sem, tr, tg, ref]
    refine vScope0 ?_
    simp only [go_sem]
    refine vCall_of (hR) ?_ ?_ ?_; (focus simp only [go_sem, tr, tg]); (focus simp only [go_sem, tr, tg])
    simp only [go_sem, lnsc, lnss, hc', kpc]
end Go.Proofs.Ytnadlkjmdimjkaa

set_option linter.unusedSimpArgs false
set_option linter.unusedVariables false
set_option linter.unusedSimpArgs false
set_option linter.unusedVariables false
namespace Go.Proofs.Ytnadlkjmdimjkaa
open Go.PL
/-- two lenses that lead to and back between two schemas -/
structure Pair (l m : List Fd) (x y : Ln) : Prop where
  a : applyM l x = (m, 0)
  b : applyM m y = (l, 0)
  g : goesR y = comesR x
  c : comesR y = goesR x
theorem Pair.back {l m : List Fd} {x y : Ln} (h : Pair l m x y) : Pair m l y x := ⟨h.b, h.a, h.c.symm, h.g.symm⟩
def On (l : List Fd) (r : Rf) : Prop := ∃ f ∈ l, f.at' = r
theorem Pair.right {l m : List Fd} {x y : Ln} (h : Pair l m x y) : rightLn x = true := (apply_fwd h.a).2.1
/-- what comes is on the far side -/
theorem Pair.comes {l m : List Fd} {x y : Ln} (h : Pair l m x y) : ∀ r ∈ comesR x, On m r := by
  obtain ⟨hm, hy, cs, l1, h1, h2, h3⟩ := apply_fwd h.b
  obtain ⟨a1, a2, a3, a4, a5⟩ := go_fwd hm h2
  rw [← h.g]; exact a3
/-- a row of lenses with those that lead back -/
inductive Pairs : List Fd → List Fd → List Ln → List Ln → Prop
  | nil (l : List Fd) : Pairs l l [] []
  | cons {l m n : List Fd} {x y : Ln} {xs ys : List Ln} (h : Pair l m x y) (hs : Pairs m n xs ys) : Pairs l n (x :: xs) (ys ++ [y])
theorem Pairs.append {l m n : List Fd} {xs ys us vs : List Ln} (h1 : Pairs l m xs ys) (h2 : Pairs m n us vs) : Pairs l n (xs ++ us) (vs ++ ys) := by
  induction h1 with
  | nil => simpa using h2
  | cons h hs ih => rw [← List.append_assoc]; exact .cons h (ih h2)
theorem Pairs.back {l m : List Fd} {xs ys : List Ln} (h : Pairs l m xs ys) : Pairs m l ys xs := by
  induction h with
  | nil => exact .nil _
  | cons h hs ih => exact ih.append (.cons h.back (.nil _))
end Go.Proofs.Ytnadlkjmdimjkaa

set_option linter.unusedSimpArgs false
set_option linter.unusedVariables false
set_option linter.unusedSimpArgs false
set_option linter.unusedVariables false
namespace Go.Proofs.Ytnadlkjmdimjkaa
open Go.PL
end Go.Proofs.Ytnadlkjmdimjkaa

set_option linter.unusedSimpArgs false
set_option linter.unusedVariables false
set_option linter.unusedSimpArgs false
set_option linter.unusedVariables false
namespace Go.Proofs.Ytnadlkjmdimjkaa
open Go.PL
end Go.Proofs.Ytnadlkjmdimjkaa

set_option linter.unusedSimpArgs false
set_option linter.unusedVariables false
set_option linter.unusedSimpArgs false
set_option linter.unusedVariables false
namespace Go.Proofs.Ytnadlkjmdimjkaa
open Go.PL
open Go.ChangeShapes Go.WideShapes Go.ChangeAt Go.RowKit
theorem Try.own : ownKnob Try.prog.godebug = Option.none := by kernel_rfl
theorem Try.laidOut : laidOutB Try.prog = true := by kernel_rfl
theorem Try.lays : layAll Try.prog = true := by kernel_rfl
structure LenLn' (x : Ln) : Prop where
  c : x.fd.cases'.length ≤ maxLen
  f : x.fo.length ≤ maxLen
  b : x.ba.length ≤ maxLen
theorem pt_ref {cs : List PV} (h : PT Try.prog 25 cs) : ∃ r : Rf, cs = [.int .i64 r.sc, .str r.gr, .str r.nm] := by
  have h1 : PTs Try.prog [3, 9, 9] cs := h.struct_inv Try.underlying25
  obtain ⟨a, b, rfl, h2, h3⟩ := h1.cons_inv
  obtain ⟨c, d, rfl, h4, h5⟩ := h3.cons_inv
  obtain ⟨e, f, rfl, h6, h7⟩ := h5.cons_inv
  obtain ⟨x, rfl, _⟩ := h2.int_inv Try.underlying3
  obtain ⟨y, rfl, _⟩ := h4.string_inv Try.underlying9
  obtain ⟨z, rfl, _⟩ := h6.string_inv Try.underlying9
  rw [h7.nil_inv]
  exact ⟨⟨x, y, z⟩, rfl⟩
end Go.Proofs.Ytnadlkjmdimjkaa

set_option linter.unusedSimpArgs false
set_option linter.unusedVariables false
set_option linter.unusedSimpArgs false
set_option linter.unusedVariables false
namespace Go.Proofs.Ytnadlkjmdimjkaa
open Go.PL
end Go.Proofs.Ytnadlkjmdimjkaa

set_option linter.unusedSimpArgs false
set_option linter.unusedVariables false
set_option linter.unusedSimpArgs false
set_option linter.unusedVariables false
namespace Go.Proofs.Ytnadlkjmdimjkaa
open Go.PL
def lncells (x : Ln) : List PV := [.int .i64 x.kind, .int .i64 x.at'.sc, .str x.at'.gr, .str x.at'.nm, .str x.nm, .str x.ot, .int .i64 x.fac, .int .i64 x.fd.at'.sc, .str x.fd.at'.gr, .str x.fd.at'.nm, .int .i64 x.fd.kind, .str x.fd.df, .sl .no (x.fd.cases'.map .str), .int .i64 x.fd.worth, .sl .no (x.fo.map pr), .sl .no (x.ba.map pr)]
end Go.Proofs.Ytnadlkjmdimjkaa

set_option linter.unusedSimpArgs false
set_option linter.unusedVariables false
set_option linter.unusedSimpArgs false
set_option linter.unusedVariables false
namespace Go.Proofs.Ytnadlkjmdimjkaa
open Go.PL
structure WyS (m : List Eg) (id0 : Tg) where
  k : Nat
  id : Tg
  way : List Eg
  hk : k ≤ m.length + 1
  hl : way.length = k
  h : wayF m (m.length + 1 - k) id way = wayM m id0
end Go.Proofs.Ytnadlkjmdimjkaa

set_option linter.unusedSimpArgs false
set_option linter.unusedVariables false
set_option linter.unusedSimpArgs false
set_option linter.unusedVariables false
namespace Go.Proofs.Ytnadlkjmdimjkaa
open Go.PL
end Go.Proofs.Ytnadlkjmdimjkaa

set_option linter.unusedSimpArgs false
set_option linter.unusedVariables false
set_option linter.unusedSimpArgs false
set_option linter.unusedVariables false
namespace Go.Proofs.Ytnadlkjmdimjkaa
open Go.PL
end Go.Proofs.Ytnadlkjmdimjkaa

set_option linter.unusedSimpArgs false
set_option linter.unusedVariables false
set_option linter.unusedSimpArgs false
set_option linter.unusedVariables false
namespace Go.Proofs.Ytnadlkjmdimjkaa
open Go.PL
end Go.Proofs.Ytnadlkjmdimjkaa

set_option linter.unusedSimpArgs false
set_option linter.unusedVariables false
set_option linter.unusedSimpArgs false
set_option linter.unusedVariables false
namespace Go.Proofs.Ytnadlkjmdimjkaa
open Go.PL
def srcM (x : Ln) (r : Rf) : List Rf := if rightLn x = false then [] else if placeI (comesR x) r < 0 then [r] else if x.kind = 6 ∧ 0 < placeI (comesR x) r then [] else goesR x
set_option maxRecDepth 20000 in
set_option maxHeartbeats 8000000 in
theorem Sources_pure (x : Ln) (r : Rf) (hx : OkLn x) : PL.Pure Try.prog 59 [lns x, ref r] (refs (srcM x r)) := by
  have hR := LRight_pure x hx
  have hG := Goes_pure x hx
  have hC := Comes_pure x hx
  unfold srcM
  cases hlr : rightLn x
  · rw [hlr] at hR
    refine PL.Pure.of_v Try.func59 (by decide) rfl Try.ntmps59 Try.results59 (by simp) (refs_dids _) ?_
    simp only [go_sem, lns, ref]
    refine vCall_of (hR) ?_ ?_ ?_; (focus simp only [go_sem, lns]); (focus simp only [go_sem, lns])
    simp only [go_sem, if_true, refs, List.map_nil]
  rw [hlr] at hR
  have hg : goesM x = goesR x := by simp [goesM, hlr]
  have hc : comesM x = comesR x := by simp [comesM, hlr]
  rw [hg] at hG
  rw [hc] at hC
  have hI : PL.Pure Try.prog 73 [refs (comesR x), ref r] (.int .i64 (placeI (comesR x) r)) := IdxRef_pure (comesR x) r (by have := comesR_len x; rw [maxLen_eq]; omega)
  generalize placeI (comesR x) r = i at *
  generalize goesR x = goes at *
  generalize comesR x = comes at *
  simp only [Bool.true_eq_false, if_false]
  by_cases h : i < 0
  · rw [if_pos h]
    refine PL.Pure.of_v Try.func59 (by decide) rfl Try.ntmps59 Try.results59 (by simp) (refs_dids _) ?_
    simp only [go_sem, lns, ref]
    refine vCall_of (hR) ?_ ?_ ?_; (focus simp only [go_sem, lns]); (focus simp only [go_sem, lns])
    simp only [go_sem, lns]
    refine vDrawQ (by kernel_rfl) (by kernel_rfl) ?_
    simp only [go_sem, lns]
    refine vCall_of (hC) ?_ ?_ ?_; (focus simp only [go_sem, lns]); (focus simp only [go_sem, lns])
    simp only [go_sem, refs]
    refine vCall_of (hI) ?_ ?_ ?_; (focus simp only [go_sem, refs, ref]); (focus simp only [go_sem, refs, ref])
    simp only [go_sem, h, refs, ref, List.map_cons, List.map_nil]
  · rw [if_neg h]
    by_cases k6 : x.kind = 6
    · have e6 : (x.kind == 6) = true := by simpa using k6
      by_cases h0 : 0 < i
      · rw [if_pos ⟨k6, h0⟩]
        refine PL.Pure.of_v Try.func59 (by decide) rfl Try.ntmps59 Try.results59 (by simp) (refs_dids _) ?_
        simp only [go_sem, lns, ref]
        refine vCall_of (hR) ?_ ?_ ?_; (focus simp only [go_sem, lns]); (focus simp only [go_sem, lns])
        simp only [go_sem, lns]
        refine vDrawQ (by kernel_rfl) (by kernel_rfl) ?_
        simp only [go_sem, lns]
        refine vCall_of (hC) ?_ ?_ ?_; (focus simp only [go_sem, lns]); (focus simp only [go_sem, lns])
        simp only [go_sem, refs]
        refine vCall_of (hI) ?_ ?_ ?_; (focus simp only [go_sem, refs, ref]); (focus simp only [go_sem, refs, ref])
        simp only [go_sem, h, h0, e6, refs, List.map_nil]
      · rw [if_neg (fun hh => h0 hh.2)]
        refine PL.Pure.of_v Try.func59 (by decide) rfl Try.ntmps59 Try.results59 (by simp) (refs_dids _) ?_
        simp only [go_sem, lns, ref]
        refine vCall_of (hR) ?_ ?_ ?_; (focus simp only [go_sem, lns]); (focus simp only [go_sem, lns])
        simp only [go_sem, lns]
        refine vDrawQ (by kernel_rfl) (by kernel_rfl) ?_
        simp only [go_sem, lns]
        refine vCall_of (hC) ?_ ?_ ?_; (focus simp only [go_sem, lns]); (focus simp only [go_sem, lns])
        simp only [go_sem, refs]
        refine vCall_of (hI) ?_ ?_ ?_; (focus simp only [go_sem, refs, ref]); (focus simp only [go_sem, refs, ref])
        simp only [go_sem, h, h0, e6]
        refine vCall_of (hG) ?_ ?_ ?_; (focus simp only [go_sem, lns]); (focus simp only [go_sem, lns])
        simp only [go_sem, refs]
    · have e6 : (x.kind == 6) = false := by simpa using k6
      rw [if_neg (fun hh => k6 hh.1)]
      refine PL.Pure.of_v Try.func59 (by decide) rfl Try.ntmps59 Try.results59 (by simp) (refs_dids _) ?_
      simp only [go_sem, lns, ref]
      refine vCall_of (hR) ?_ ?_ ?_; (focus simp only [go_sem, lns]); (focus simp only [go_sem, lns])
      simp only [go_sem, lns]
      refine vDrawQ (by kernel_rfl) (by kernel_rfl) ?_
      simp only [go_sem, lns]
      refine vCall_of (hC) ?_ ?_ ?_; (focus simp only [go_sem, lns]); (focus simp only [go_sem, lns])
      simp only [go_sem, refs]
      refine vCall_of (hI) ?_ ?_ ?_; (focus simp only [go_sem, refs, ref]); (focus simp only [go_sem, refs, ref])
      simp only [go_sem, h, e6]
      refine vCall_of (hG) ?_ ?_ ?_; (focus simp only [go_sem, lns]); (focus simp only [go_sem, lns])
      simp only [go_sem, refs]
end Go.Proofs.Ytnadlkjmdimjkaa

set_option linter.unusedSimpArgs false
set_option linter.unusedVariables false
set_option linter.unusedSimpArgs false
set_option linter.unusedVariables false
namespace Go.Proofs.Ytnadlkjmdimjkaa
open Go.PL
def stepD (b : List Rf) (s : Rf) : List Rf := if (b.any fun x => decide (s = x)) = true then b else b ++ [s]
def addsD (b src : List Rf) : List Rf := src.foldl stepD b
def beforeD (x : Ln) : List Rf → List Rf → Option (List Rf)
  | acc, [] => some acc
  | acc, e :: es => if sureM x e = false then none else beforeD x (addsD acc (srcM x e)) es
theorem beforeD_cons (x : Ln) (acc : List Rf) (e : Rf) (es : List Rf) : beforeD x acc (e :: es) = if sureM x e = false then none else beforeD x (addsD acc (srcM x e)) es := rfl
def sureE : List Ln → List Rf → Bool
  | [], _ => true
  | x :: xs, es => match beforeD x [] es with | none => false | some b => sureE xs b
def cntD (G b : List Rf) : Nat := G.countP fun g => b.any fun y => decide (g = y)
theorem cnt_mono (b : List Rf) (s : Rf) : ∀ G, cntD G b ≤ cntD G (b ++ [s]) := fun G => List.countP_mono_left (fun g _ h => by rw [List.any_append, h, Bool.true_or])
theorem cnt_new {b : List Rf} {s : Rf} (hs : (b.any fun y => decide (s = y)) = false) : ∀ {G : List Rf}, s ∈ G → cntD G b + 1 ≤ cntD G (b ++ [s])
  | g :: G, h => by
    unfold cntD
    rw [List.countP_cons, List.countP_cons]
    have hm := cnt_mono b s G
    unfold cntD at hm
    by_cases hg : g = s
    · subst hg
      have e1 : ((b ++ [g]).any fun y => decide (g = y)) = true := by simp
      rw [hs, e1]
      simp only [if_true, Bool.false_eq_true, if_false]
      omega
    · have := cnt_new hs (G := G) ((List.mem_cons.1 h).resolve_left (fun e => hg e.symm))
      unfold cntD at this
      cases hb : (b.any fun y => decide (g = y))
      · simp only [Bool.false_eq_true, if_false]; omega
      · rw [List.any_append, hb]; simp only [Bool.true_or, if_true]; omega
theorem cnt_le (G b : List Rf) : cntD G b ≤ G.length := List.countP_le_length
theorem step_cnt (G b : List Rf) (s : Rf) : cntD G b ≤ cntD G (stepD b s) := by
  unfold stepD
  split
  · exact Nat.le_refl _
  · exact cnt_mono b s G
theorem step_len (b : List Rf) (s : Rf) : (stepD b s).length ≤ b.length + 1 := by
  unfold stepD
  split <;> simp
theorem step_lenG {G b : List Rf} {s : Rf} (h : s ∈ G) : (stepD b s).length + cntD G b ≤ b.length + cntD G (stepD b s) := by
  unfold stepD
  split
  · exact Nat.le_refl _
  · rename_i hn
    have := cnt_new (b := b) (s := s) (Bool.eq_false_iff.2 hn) h
    rw [List.length_append, List.length_singleton]
    omega
theorem adds_lenG {G : List Rf} : ∀ (src b : List Rf), (∀ s ∈ src, s ∈ G) → (addsD b src).length + cntD G b ≤ b.length + cntD G (addsD b src)
  | [], b, _ => Nat.le_refl _
  | s :: src, b, h => by
    have h1 := step_lenG (b := b) (h s (by simp))
    have h2 := adds_lenG src (stepD b s) (fun t ht => h t (by simp [ht]))
    show (addsD (stepD b s) src).length + _ ≤ _ + cntD G (addsD (stepD b s) src)
    omega
theorem src_cases (x : Ln) (e : Rf) : (srcM x e).length ≤ 1 ∨ ∀ s ∈ srcM x e, s ∈ goesR x := by
  unfold srcM
  split
  · simp
  split
  · simp
  split
  · simp
  · exact .inr fun s h => h
/-- how many, at most -/
theorem adds_bound {G src b : List Rf} {n : Nat} (hb : b.length ≤ n + cntD G b) (hs : src.length ≤ 1 ∨ ∀ s ∈ src, s ∈ G) : (addsD b src).length ≤ n + 1 + cntD G (addsD b src) := by
  rcases hs with h | h
  · match src, h with
    | [], _ => show b.length ≤ n + 1 + cntD G b; omega
    | [s], _ =>
      show (stepD b s).length ≤ n + 1 + cntD G (stepD b s)
      have := step_len b s
      have := step_cnt G b s
      omega
  · have := adds_lenG src b h
    omega
theorem src_len (x : Ln) (e : Rf) : (srcM x e).length ≤ 2 := by
  have := goesR_len x
  unfold srcM
  repeat' split
  all_goals simp
  all_goals omega
theorem src_take {x : Ln} {e : Rf} (j : Nat) : ((srcM x e).take j).length ≤ 1 ∨ ∀ s ∈ (srcM x e).take j, s ∈ goesR x := by
  rcases src_cases x e with h | h
  · left; rw [List.length_take]; omega
  · exact .inr fun s hs => h s (List.mem_of_mem_take hs)
theorem adds_snoc (b src : List Rf) (s : Rf) : addsD b (src ++ [s]) = stepD (addsD b src) s := by
  unfold addsD; rw [List.foldl_append]; rfl
theorem sized_ref (l : List Rf) : Sized 3 (l.map ref) := fun e he => by
  obtain ⟨x, _, rfl⟩ := List.mem_map.1 he; rfl
theorem drop_rf {l : List Rf} {k : Nat} (h : k < l.length) : l.drop k = l.getD k default :: l.drop (k + 1) := by
  rw [List.drop_eq_getElem_cons h, getD_lt h]
def optc (x : Option (List Rf)) : PV := .tup [refs (x.getD []), .bool x.isSome]
theorem optc_dids (x : Option (List Rf)) : (optc x).dids = [] := by simp only [optc, PV.dids, PV.didsL, refs_dids, List.append_nil]
set_option maxRecDepth 20000 in
set_option maxHeartbeats 16000000 in
theorem before_pure (u : Ln) (es : List Rf) (hx : OkLn u) (hl : es.length ≤ 100000) : PL.Pure Try.prog 36 [lns u, refs es] (optc (beforeD u [] es)) := by
  have hm : es.length ≤ maxLen := by rw [maxLen_eq]; omega
  have hgl := goesR_len u
  refine PL.Pure.of_v Try.func36 (by decide) rfl Try.ntmps36 Try.results36 (by simp) (optc_dids _) ?_
  simp only [go_sem, lns, refs]
  refine awp_nilRow 6 36 3 25 rfl rfl ?_
  refine vLoopM (ι := { x : Nat × (List Rf) // x.1 ≤ (es).length ∧ (beforeD u x.2 (es.drop x.1) = beforeD u [] es ∧ x.2.length ≤ x.1 + cntD (goesR u) x.2) }) 40 (fun x => [(2, .ptr 2 0), (6, .sl (.row 36) (x.1.2.map ref)), (11, refs es), (12, .int .i64 (es.length : Int)), (13, .int .i64 (x.1.1 : Int))]) (fun x => [(2, lncells u, false)]) (fun x => [(36, .live (x.1.2.length) (3) (25))]) (fun x => (es).length - x.1.1) ⟨(0, []), Nat.zero_le _, ⟨rfl, by simp⟩⟩ ⟨rfl, (forall_cons rfl (forall_cons rfl (forall_cons rfl (forall_cons rfl (forall_cons rfl forall_nil))))), (forall_cons ⟨rfl, rfl⟩ forall_nil), (forall_cons rfl forall_nil)⟩ (fun x => ⟨(forall_cons rfl (forall_cons (by simp [PV.ids, refInM]) (forall_cons rfl (forall_cons rfl (forall_cons rfl forall_nil))))), (forall_cons rfl forall_nil)⟩) (fun x => ?_); obtain ⟨⟨k, acc⟩, hk, hI⟩ := x; simp only at hk hI ⊢
  obtain ⟨hI, hJ⟩ := hI
  have hcl := cnt_le (goesR u) acc
  by_cases h : (k : Int) < (es.length : Int)
  · (have hka : k < (es).length := by omega); (have w1 := w64s hka (hm)); (have i1 : (0 : Int) ≤ (k : Int) := by omega)
    have hS := Sure_pure u (es.getD k default) hx
    have hC := Sources_pure u (es.getD k default) hx
    rw [drop_rf hka, beforeD_cons] at hI
    cases hs : sureM u (es.getD k default)
    · rw [hs] at hS
      rw [if_pos hs] at hI
      simp only [go_sem, refs, h, getD_ref hka, ref, i1, lncells]
      refine vCall_of (hS) ?_ ?_ ?_; (focus simp only [go_sem, lns, ref]); (focus simp only [go_sem, lns, ref])
      simp only [go_sem, ← hI, optc, refs, List.map_nil, Option.getD_none, Option.isSome_none]
    · rw [hs] at hS
      rw [if_neg (by rw [hs]; simp)] at hI
      have hsl := src_len u (es.getD k default)
      have hsm : (srcM u (es.getD k default)).length ≤ maxLen := by rw [maxLen_eq]; omega
      have htk := fun j => src_take (x := u) (e := es.getD k default) j
      have hfin : (srcM u (es.getD k default)).length ≤ 1 ∨ ∀ s ∈ srcM u (es.getD k default), s ∈ goesR u := src_cases _ _
      generalize srcM u (es.getD k default) = src at *
      simp only [go_sem, refs, h, getD_ref hka, ref, i1, lncells]
      refine vCall_of (hS) ?_ ?_ ?_; (focus simp only [go_sem, lns, ref]); (focus simp only [go_sem, lns, ref])
      simp only [go_sem, lncells]
      refine vCall_of (hC) ?_ ?_ ?_; (focus simp only [go_sem, lns, ref]); (focus simp only [go_sem, lns, ref])
      simp only [go_sem, refs]
      refine vLoopM (ι := { x : Nat × (List Rf) // x.1 ≤ (src).length ∧ (x.2 = addsD acc (src.take x.1)) }) 40 (fun x => [(2, .ptr 2 0), (6, .sl (.row 36) (x.1.2.map ref)), (11, refs es), (12, .int .i64 (es.length : Int)), (13, .int .i64 (k : Int)), (23, refs src), (24, .int .i64 (src.length : Int)), (25, .int .i64 (x.1.1 : Int))]) (fun x => [(2, lncells u, false)]) (fun x => [(36, .live (x.1.2.length) (3) (25))]) (fun x => (src).length - x.1.1) ⟨(0, acc), Nat.zero_le _, rfl⟩ ⟨rfl, (forall_cons rfl (forall_cons rfl (forall_cons rfl (forall_cons rfl (forall_cons rfl (forall_cons rfl (forall_cons rfl (forall_cons rfl forall_nil)))))))), (forall_cons ⟨rfl, rfl⟩ forall_nil), (forall_cons rfl forall_nil)⟩ (fun x => ⟨(forall_cons rfl (forall_cons (by simp [PV.ids, refInM]) (forall_cons rfl (forall_cons rfl (forall_cons rfl (forall_cons rfl (forall_cons rfl (forall_cons rfl forall_nil)))))))), (forall_cons rfl forall_nil)⟩) (fun x => ?_); obtain ⟨⟨kb, oin⟩, hkb, hIb⟩ := x; simp only at hkb hIb ⊢
      have hol := adds_bound hJ (htk kb)
      have hoc := cnt_le (goesR u) oin
      rw [← hIb] at hol
      by_cases hb : (kb : Int) < (src.length : Int)
      · (have hkab : kb < (src).length := by omega); (have w1b := w64s hkab (hsm)); (have i1b : (0 : Int) ≤ (kb : Int) := by omega)
        have hN := ConRef_pure oin (src.getD kb default) (by rw [maxLen_eq]; omega)
        have hsn : addsD acc (src.take (kb + 1)) = stepD oin (src.getD kb default) := by
          rw [take_snoc (d := default) hkab, adds_snoc, hIb]
        unfold stepD at hsn
        generalize (oin.any fun y => decide (src.getD kb default = y)) = c at *
        cases c
        · rw [if_neg (by simp)] at hsn
          have hr := room1 (show oin.length + 1 ≤ 1000000 by omega) (show 40 ≤ 1000 by omega)
          simp only [go_sem, refs, hb, getD_ref hkab, ref, i1b]
          refine vCall_of (hN) ?_ ?_ ?_; (focus simp only [go_sem, refs, ref]); (focus simp only [go_sem, refs, ref])
          simp only [go_sem, sized_ref, hr, w1b, ref]
          exact ⟨⟨(kb + 1, oin ++ [src.getD kb default]), by (try simp only); omega, hsn.symm⟩, by show (src).length - (kb + 1) < (src).length - kb; omega, ⟨rfl, (forall_cons rfl (forall_cons (by simp [upd, ref]) (forall_cons rfl (forall_cons rfl (forall_cons rfl (forall_cons rfl (forall_cons rfl (forall_cons rfl forall_nil)))))))), (forall_cons ⟨rfl, rfl⟩ forall_nil), (forall_cons (by simp [upd]) forall_nil)⟩⟩
        · rw [if_pos rfl] at hsn
          simp only [go_sem, refs, hb, getD_ref hkab, ref, i1b]
          refine vCall_of (hN) ?_ ?_ ?_; (focus simp only [go_sem, refs, ref]); (focus simp only [go_sem, refs, ref])
          simp only [go_sem, w1b]
          exact ⟨⟨(kb + 1, oin), by (try simp only); omega, hsn.symm⟩, by show (src).length - (kb + 1) < (src).length - kb; omega, ⟨rfl, (forall_cons rfl (forall_cons (by simp [upd, ref]) (forall_cons rfl (forall_cons rfl (forall_cons rfl (forall_cons rfl (forall_cons rfl (forall_cons rfl forall_nil)))))))), (forall_cons ⟨rfl, rfl⟩ forall_nil), (forall_cons (by simp [upd]) forall_nil)⟩⟩
      · obtain rfl : kb = src.length := by omega
        have hfb := adds_bound hJ hfin
        rw [List.take_length] at hIb
        rw [← hIb] at hI hfb
        simp only [go_sem, refs, hb, w1]
        exact ⟨⟨(k + 1, oin), by (try simp only); omega, ⟨hI, hfb⟩⟩, by show (es).length - (k + 1) < (es).length - k; omega, ⟨rfl, (forall_cons rfl (forall_cons (by simp [upd, ref]) (forall_cons rfl (forall_cons rfl (forall_cons rfl forall_nil))))), (forall_cons ⟨rfl, rfl⟩ forall_nil), (forall_cons (by simp [upd]) forall_nil)⟩⟩
  · obtain rfl : k = es.length := by omega
    rw [List.drop_length] at hI
    simp only [go_sem, refs, h, ← hI, beforeD, optc, Option.getD_some, Option.isSome_some]
end Go.Proofs.Ytnadlkjmdimjkaa

set_option linter.unusedSimpArgs false
set_option linter.unusedVariables false
set_option linter.unusedSimpArgs false
set_option linter.unusedVariables false
namespace Go.Proofs.Ytnadlkjmdimjkaa
open Go.PL
theorem before_len (u : Ln) : ∀ (es acc : List Rf) (n : Nat), acc.length ≤ n + cntD (goesR u) acc → ∀ b, beforeD u acc es = some b → b.length ≤ n + es.length + cntD (goesR u) b
  | [], acc, n, h, b, hb => by
    simp only [beforeD, Option.some.injEq] at hb
    subst hb
    simpa using h
  | e :: es, acc, n, h, b, hb => by
    rw [beforeD_cons] at hb
    split at hb
    · cases hb
    · have := before_len u es _ (n + 1) (adds_bound h (src_cases u e)) b hb
      simp only [List.length_cons]
      omega
theorem before_len2 {u : Ln} {es b : List Rf} (h : beforeD u [] es = some b) : b.length ≤ es.length + 2 := by
  have h1 := before_len u es [] 0 (by simp) b h
  have h2 := cnt_le (goesR u) b
  have h3 := goesR_len u
  omega
theorem rev_take {l : List Ln} {k : Nat} (h : k < l.length) : (l.take (k + 1)).reverse = l.getD k default :: (l.take k).reverse := by
  rw [take_snoc (d := default) h, List.reverse_append]; rfl
def sureT (m : List Eg) (a b : Tg) (r : Rf) : Bool := if pathC m a b ≠ 0 then false else sureE (rowM m a b).1.reverse [r]
theorem awp_weakP {P : Program} {c : Code} {Q : Exit → St → Prop} {s s' : St} (hw : WeakP s' s) (hr : Refs s') (h : awp P c Q s') : awp P c Q s := fun B S M a w hs => h B S M a w (hs.weakP hw hr)
structure SuS (row : List Ln) (r0 : Rf) where
  k : Nat
  es : List Rf
  hk : k ≤ row.length
  hl : es.length ≤ 1 + 2 * (row.length - k)
  h : sureE (row.take k).reverse es = sureE row.reverse [r0]
set_option maxRecDepth 20000 in
set_option maxHeartbeats 16000000 in
theorem SureAt_pure (m : List Eg) (a b : Tg) (r : Rf) (hm : OkM m) (hr : RightM m) : PL.Pure Try.prog 21 [tr (treeOf m), tg a, tg b, ref r] (kpc (sureT m a b r) (pathC m a b)) := by
  have hR := Row_pure m a b hm hr
  obtain ⟨hrl, hro⟩ := row_ok (a := a) (b := b) hm
  have hc2 : (rowM m a b).2 = pathC m a b := by unfold rowM; split <;> simp_all
  unfold sureT
  by_cases hc : pathC m a b = 0
  · rw [if_neg (fun h => h hc)]
    rw [hc] at hc2
    generalize hrow : rowM m a b = rw0 at *
    obtain ⟨row, c0⟩ := rw0
    simp only at hc2 hrl hro ⊢
    subst hc2
    rw [hc]
    refine PL.Pure.of_v Try.func21 (by decide) rfl Try.ntmps21 Try.results21 (by simp) (kpc_dids _ _) ?_
    simp only [go_sem, tr, tg, ref]
    refine vScopeM (ι := SuS row r) 44 (fun x => [(10, lnss row), (12, refs x.es), (13, .int .i64 (x.k : Int))]) (fun x => []) (fun x => []) (fun x => x.k) 0 _ (by exact rfl) (fun x => ⟨(forall_cons rfl (forall_cons rfl (forall_cons rfl (forall_nil)))), forall_nil⟩) (fun x => ?_) (fun cut => ?_)
    · obtain ⟨k, es, hk, hl, h⟩ := x
      simp only
      cases k with
      | zero =>
        have hd : sureE row.reverse [r] = true := by rw [← h]; rfl
        simp only [go_sem, hd, kpc]
      | succ k =>
        have hka : k < row.length := by omega
        have hb : (((k + 1 : Nat) : Int) == 0) = false := by rw [beq_eq_false_iff_ne]; omega
        have i0 : (0 : Int) ≤ (k : Int) := by omega
        have i1 : (k : Int) < (row.length : Int) := by omega
        have w1 : IntKind.i64.wrap (((k + 1 : Nat) : Int) - 1) = (k : Int) := by rw [w64 (by omega)]; omega
        have hB := before_pure (row.getD k default) es (hro _ (getD_mem (d := default) hka)) (by omega)
        rw [rev_take hka] at h
        cases hz : beforeD (row.getD k default) [] es with
        | none =>
          have h2 : sureE row.reverse [r] = false := by rw [← h]; simp only [sureE, hz]
          rw [hz] at hB
          simp only [go_sem, hb, w1, lnss, List.length_map, getD_ln hka, lns, i0, i1]
          refine vCall_of (hB) ?_ ?_ ?_; (focus simp only [go_sem, lns, refs]); (focus simp only [go_sem, lns, refs])
          simp only [go_sem, optc, Option.isSome_none, h2, kpc]
        | some bk =>
          have h2 : sureE (row.take k).reverse bk = sureE row.reverse [r] := by rw [← h]; simp only [sureE, hz]
          have h3 := before_len2 hz
          rw [hz] at hB
          simp only [go_sem, hb, w1, lnss, List.length_map, getD_ln hka, lns, i0, i1]
          refine vCall_of (hB) ?_ ?_ ?_; (focus simp only [go_sem, lns, refs]); (focus simp only [go_sem, lns, refs])
          simp only [go_sem, optc, Option.isSome_some, Option.getD_some]
          exact ⟨⟨k, bk, by omega, by omega, h2⟩, by show k < k + 1; omega, ⟨rfl, (forall_cons rfl (forall_cons rfl (forall_cons rfl (forall_nil)))), forall_nil, forall_nil⟩⟩
    · simp only [go_sem]
      refine vCall_of (hR) ?_ ?_ ?_; (focus simp only [go_sem, tr, tg]); (focus simp only [go_sem, tr, tg])
      simp only [go_sem, lnsc, lnss, List.length_map]
      have hp := fun s h => cut ⟨row.length, [r], Nat.le_refl _, by simp, by rw [List.take_length]⟩ s h
      refine awp_label_seq (awp_weakP (HasP.weak (n := 44) (L := [(10, lnss row), (12, refs [r]), (13, .int .i64 (row.length : Int))]) (H := []) (R := []) ⟨rfl, forall_cons (.same rfl) (forall_cons (.row 26 _) (forall_cons (.same rfl) forall_nil)), forall_nil, forall_nil⟩) (Refs.mkSt ⟨(forall_cons rfl (forall_cons rfl (forall_cons rfl (forall_nil)))), forall_nil⟩) (hp _ ⟨rfl, (forall_cons rfl (forall_cons rfl (forall_cons rfl (forall_nil)))), forall_nil, forall_nil⟩))
  · rw [if_pos hc]
    have hc' : (pathC m a b != 0) = true := by simpa using hc
    have hcr : rowM m a b = ([], pathC m a b) := by unfold rowM; rw [if_pos hc]
    rw [hcr] at hR
    refine PL.Pure.of_v Try.func21 (by decide) rfl Try.ntmps21 Try.results21 (by simp) (kpc_dids _ _) ?_
    simp only [go_sem, tr, tg, ref]
    refine vScope0 ?_
    simp only [go_sem]
    refine vCall_of (hR) ?_ ?_ ?_; (focus simp only [go_sem, tr, tg]); (focus simp only [go_sem, tr, tg])
    simp only [go_sem, lnsc, lnss, hc', kpc]
structure AlS (row : List Ln) (r0 : Rf) where
  k : Nat
  r : Rf
  kp : Bool
  hk : k ≤ row.length
  h : traceL (row.drop k) r = traceL row r0
  h2 : (kp && keptL (row.drop k) r) = keptL row r0
end Go.Proofs.Ytnadlkjmdimjkaa

set_option linter.unusedSimpArgs false
set_option linter.unusedVariables false
set_option linter.unusedSimpArgs false
set_option linter.unusedVariables false
namespace Go.Proofs.Ytnadlkjmdimjkaa
open Go.PL
end Go.Proofs.Ytnadlkjmdimjkaa
