/- Contracts of functions and laws of this seat, each for every input that it names: lemmas of the proof. -/
import Derived.Test.YtbojhapdidieoaaGreatXCh
import Derived.Test.YtbojhapdidieoaaGreatXAm
import Derived.Test.YtbojhapdidieoaaGreatRows
import Derived.ProofKit
set_option linter.unusedSimpArgs false
set_option linter.unusedVariables false
set_option linter.unusedSimpArgs false
set_option linter.unusedVariables false
namespace Go.Proofs.YtbojhapdidieoaaGreat
open Go.PL
theorem before_len (u : Ln) : ∀ (es acc : List Rf) (n : Nat), acc.length ≤ n + cntD (goesR u) acc → ∀ b, beforeD u acc es = some b → b.length ≤ n + es.length + cntD (goesR u) b
  | [], acc, n, h, b, hb => by
    simp only [beforeD, Option.some.injEq] at hb
    subst hb
    simpa using h
  | e :: es, acc, n, h, b, hb => by
    rw [beforeD_cons] at hb
    split at hb
    · cases hb
    · have := before_len u es _ (n + 1) (adds_bound h (src_cases u e)) b hb
      simp only [List.length_cons]
      omega
theorem before_len2 {u : Ln} {es b : List Rf} (h : beforeD u [] es = some b) : b.length ≤ es.length + 2 := by
  have h1 := before_len u es [] 0 (by simp) b h
  have h2 := cnt_le (goesR u) b
  have h3 := goesR_len u
  omega
theorem rev_take {l : List Ln} {k : Nat} (h : k < l.length) : (l.take (k + 1)).reverse = l.getD k default :: (l.take k).reverse := by
  rw [take_snoc (d := default) h, List.reverse_append]; rfl
def sureT (m : List Eg) (a b : Tg) (r : Rf) : Bool := if pathC m a b ≠ 0 then false else sureE (rowM m a b).1.reverse [r]
theorem awp_weakP {P : Program} {c : Code} {Q : Exit → St → Prop} {s s' : St} (hw : WeakP s' s) (hr : Refs s') (h : awp P c Q s') : awp P c Q s := fun B S M a w hs => h B S M a w (hs.weakP hw hr)
structure SuS (row : List Ln) (r0 : Rf) where
  k : Nat
  es : List Rf
  hk : k ≤ row.length
  hl : es.length ≤ 1 + 2 * (row.length - k)
  h : sureE (row.take k).reverse es = sureE row.reverse [r0]
set_option maxRecDepth 20000 in
set_option maxHeartbeats 16000000 in
theorem SureAt_pure (m : List Eg) (a b : Tg) (r : Rf) (hm : OkM m) (hr : RightM m) : PL.Pure Tryz.prog 37 [tr (treeOf m), tg a, tg b, ref r] (kpc (sureT m a b r) (pathC m a b)) := by
  have hR := Row_pure m a b hm hr
  obtain ⟨hrl, hro⟩ := row_ok (a := a) (b := b) hm
  have hc2 : (rowM m a b).2 = pathC m a b := by unfold rowM; split <;> simp_all
  unfold sureT
  by_cases hc : pathC m a b = 0
  · rw [if_neg (fun h => h hc)]
    rw [hc] at hc2
    generalize hrow : rowM m a b = rw0 at *
    obtain ⟨row, c0⟩ := rw0
    simp only at hc2 hrl hro ⊢
    subst hc2
    rw [hc]
    refine PL.Pure.of_v Tryz.func37 (by decide) rfl Tryz.ntmps37 Tryz.results37 (by simp) (kpc_dids _ _) ?_
    simp only [go_sem, tr, tg, ref]
    refine vScopeM (ι := SuS row r) 44 (fun x => [(10, lnss row), (12, refs x.es), (13, .int .i64 (x.k : Int))]) (fun x => []) (fun x => []) (fun x => x.k) 0 _ (by exact rfl) (fun x => ⟨(forall_cons rfl (forall_cons rfl (forall_cons rfl (forall_nil)))), forall_nil⟩) (fun x => ?_) (fun cut => ?_)
    · obtain ⟨k, es, hk, hl, h⟩ := x
      simp only
      cases k with
      | zero =>
        have hd : sureE row.reverse [r] = true := by rw [← h]; rfl
        simp only [go_sem, hd, kpc]
      | succ k =>
        have hka : k < row.length := by omega
        have hb : (((k + 1 : Nat) : Int) == 0) = false := by rw [beq_eq_false_iff_ne]; omega
        have i0 : (0 : Int) ≤ (k : Int) := by omega
        have i1 : (k : Int) < (row.length : Int) := by omega
        have w1 : IntKind.i64.wrap (((k + 1 : Nat) : Int) - 1) = (k : Int) := by rw [w64 (by omega)]; omega
        have hB := before_pure (row.getD k default) es (hro _ (getD_mem (d := default) hka)) (by omega)
        rw [rev_take hka] at h
        cases hz : beforeD (row.getD k default) [] es with
        | none =>
          have h2 : sureE row.reverse [r] = false := by rw [← h]; simp only [sureE, hz]
          rw [hz] at hB
          simp only [go_sem, hb, w1, lnss, List.length_map, getD_ln hka, lns, i0, i1]
          refine vCall_of (hB) ?_ ?_ ?_; (focus simp only [go_sem, lns, refs]); (focus simp only [go_sem, lns, refs])
          simp only [go_sem, optc, Option.isSome_none, h2, kpc]
        | some bk =>
          have h2 : sureE (row.take k).reverse bk = sureE row.reverse [r] := by rw [← h]; simp only [sureE, hz]
          have h3 := before_len2 hz
          rw [hz] at hB
          simp only [go_sem, hb, w1, lnss, List.length_map, getD_ln hka, lns, i0, i1]
          refine vCall_of (hB) ?_ ?_ ?_; (focus simp only [go_sem, lns, refs]); (focus simp only [go_sem, lns, refs])
          simp only [go_sem, optc, Option.isSome_some, Option.getD_some]
          exact ⟨⟨k, bk, by omega, by omega, h2⟩, by show k < k + 1; omega, ⟨rfl, (forall_cons rfl (forall_cons rfl (forall_cons rfl (forall_nil)))), forall_nil, forall_nil⟩⟩
    · simp only [go_sem]
      refine vCall_of (hR) ?_ ?_ ?_; (focus simp only [go_sem, tr, tg]); (focus simp only [go_sem, tr, tg])
      simp only [go_sem, lnsc, lnss, List.length_map]
      have hp := fun s h => cut ⟨row.length, [r], Nat.le_refl _, by simp, by rw [List.take_length]⟩ s h
      refine awp_label_seq (awp_weakP (HasP.weak (n := 44) (L := [(10, lnss row), (12, refs [r]), (13, .int .i64 (row.length : Int))]) (H := []) (R := []) ⟨rfl, forall_cons (.same rfl) (forall_cons (.row 26 _) (forall_cons (.same rfl) forall_nil)), forall_nil, forall_nil⟩) (Refs.mkSt ⟨(forall_cons rfl (forall_cons rfl (forall_cons rfl (forall_nil)))), forall_nil⟩) (hp _ ⟨rfl, (forall_cons rfl (forall_cons rfl (forall_cons rfl (forall_nil)))), forall_nil, forall_nil⟩))
  · rw [if_pos hc]
    have hc' : (pathC m a b != 0) = true := by simpa using hc
    have hcr : rowM m a b = ([], pathC m a b) := by unfold rowM; rw [if_pos hc]
    rw [hcr] at hR
    refine PL.Pure.of_v Tryz.func37 (by decide) rfl Tryz.ntmps37 Tryz.results37 (by simp) (kpc_dids _ _) ?_
    simp only [go_sem, tr, tg, ref]
    refine vScope0 ?_
    simp only [go_sem]
    refine vCall_of (hR) ?_ ?_ ?_; (focus simp only [go_sem, tr, tg]); (focus simp only [go_sem, tr, tg])
    simp only [go_sem, lnsc, lnss, hc', kpc]
def alongD (row : List Ln) (r : Rf) : Rf × Bool × Bool := if (traceL row r).2 = false then (default, false, false) else ((traceL row r).1, true, keptL row r)
def alc (x : Rf × Bool × Bool) : PV := .tup [ref x.1, .bool x.2.1, .bool x.2.2]
theorem alc_dids (x : Rf × Bool × Bool) : (alc x).dids = [] := by simp only [alc, PV.dids, PV.didsL, ref_dids, List.append_nil]
structure AlS (row : List Ln) (r0 : Rf) where
  k : Nat
  r : Rf
  kp : Bool
  hk : k ≤ row.length
  h : traceL (row.drop k) r = traceL row r0
  h2 : (kp && keptL (row.drop k) r) = keptL row r0
set_option maxRecDepth 20000 in
set_option maxHeartbeats 16000000 in
theorem Along_pure (row : List Ln) (r : Rf) (hl : row.length ≤ 1000) (ho : ∀ x ∈ row, OkLn x) : PL.Pure Tryz.prog 38 [lnss row, ref r] (alc (alongD row r)) := by
  unfold alongD
  refine PL.Pure.of_v Tryz.func38 (by decide) rfl Tryz.ntmps38 Tryz.results38 (by simp) (alc_dids _) ?_
  simp only [go_sem, lnss, ref]
  refine vLoopM (ι := AlS row r) 41 (fun x => [(0, lnss row), (3, .ptr 3 0), (4, .ptr 4 0), (7, .bool x.kp), (8, .int .i64 (x.k : Int))]) (fun x => [(3, [.int .i64 x.r.sc, .str x.r.gr, .str x.r.nm], false), (4, [.int .i64 0, .str [], .str []], false)]) (fun x => []) (fun x => row.length - x.k) ⟨0, r, true, Nat.zero_le _, rfl, by simp⟩
    ⟨rfl, (forall_cons rfl (forall_cons rfl (forall_cons rfl (forall_cons rfl (forall_cons rfl (forall_nil)))))), forall_cons ⟨rfl, rfl⟩ (forall_cons ⟨rfl, rfl⟩ forall_nil), forall_nil⟩ (fun x => ⟨(forall_cons rfl (forall_cons rfl (forall_cons rfl (forall_cons rfl (forall_cons rfl (forall_nil)))))), forall_cons rfl (forall_cons rfl forall_nil)⟩) (fun x => ?_)
  obtain ⟨k, r1, kp, hk, h, h2⟩ := x
  simp only
  by_cases hlt : (k : Int) < (row.length : Int)
  · have hka : k < row.length := by omega
    have i0 : (0 : Int) ≤ (k : Int) := by omega
    have w1 : IntKind.i64.wrap ((k : Int) + 1) = ((k + 1 : Nat) : Int) := by rw [w64 (by omega)]; rfl
    have hT := RTrace_pure (row.getD k default) r1 (ho _ (getD_mem (d := default) hka))
    have hK := RKept_pure (row.getD k default) r1 (ho _ (getD_mem (d := default) hka))
    rw [drop_ln hka, traceL_cons] at h
    rw [drop_ln hka, keptL_cons] at h2
    cases hz : (traceM (row.getD k default) r1).2
    · rw [if_pos hz] at h
      cases kp
      · simp only [go_sem, lnss, List.length_map, hlt]
        refine vDrawQ (by kernel_rfl) (by kernel_rfl) ?_
        simp only [go_sem]
        refine vDrawQ (by kernel_rfl) (by kernel_rfl) ?_
        simp only [go_sem, getD_ln hka, lns, i0, hlt, List.length_map]
        refine vCall_of (hT) ?_ ?_ ?_; (focus simp only [go_sem, lns, ref]); (focus simp only [go_sem, lns, ref])
        simp only [go_sem, refb, ref, hz, ← h, alc, if_true]
        rfl
      · simp only [go_sem, lnss, List.length_map, hlt]
        refine vDrawQ (by kernel_rfl) (by kernel_rfl) ?_
        simp only [go_sem, getD_ln hka, lns, i0, hlt, List.length_map]
        refine vCall_of (hK) ?_ ?_ ?_; (focus simp only [go_sem, lns, ref]); (focus simp only [go_sem, lns, ref])
        simp only [go_sem]
        refine vDrawQ (by kernel_rfl) (by kernel_rfl) ?_
        simp only [go_sem, getD_ln hka, lns, i0, hlt, List.length_map]
        refine vCall_of (hT) ?_ ?_ ?_; (focus simp only [go_sem, lns, ref]); (focus simp only [go_sem, lns, ref])
        simp only [go_sem, refb, ref, hz, ← h, alc, if_true]
        rfl
    · rw [if_neg (by rw [hz]; simp)] at h
      rw [if_neg (show ¬ (traceM (row.getD k default) r1).2 = false by rw [hz]; simp)] at h2
      cases kp
      · simp only [go_sem, lnss, List.length_map, hlt]
        refine vDrawQ (by kernel_rfl) (by kernel_rfl) ?_
        simp only [go_sem]
        refine vDrawQ (by kernel_rfl) (by kernel_rfl) ?_
        simp only [go_sem, getD_ln hka, lns, i0, hlt, List.length_map]
        refine vCall_of (hT) ?_ ?_ ?_; (focus simp only [go_sem, lns, ref]); (focus simp only [go_sem, lns, ref])
        simp only [go_sem, refb, ref, hz, w1]
        exact ⟨⟨k + 1, (traceM (row.getD k default) r1).1, false, by omega, h, h2⟩, by show row.length - (k + 1) < row.length - k; omega, ⟨rfl, (forall_cons rfl (forall_cons rfl (forall_cons rfl (forall_cons rfl (forall_cons rfl (forall_nil)))))), forall_cons ⟨rfl, rfl⟩ (forall_cons ⟨rfl, rfl⟩ forall_nil), forall_nil⟩⟩
      · have h3 : (keptM (row.getD k default) r1 && keptL (row.drop (k + 1)) (traceM (row.getD k default) r1).1) = keptL row r := by
          rw [← h2]
          cases keptM (row.getD k default) r1 <;> simp
        simp only [go_sem, lnss, List.length_map, hlt]
        refine vDrawQ (by kernel_rfl) (by kernel_rfl) ?_
        simp only [go_sem, getD_ln hka, lns, i0, hlt, List.length_map]
        refine vCall_of (hK) ?_ ?_ ?_; (focus simp only [go_sem, lns, ref]); (focus simp only [go_sem, lns, ref])
        simp only [go_sem]
        refine vDrawQ (by kernel_rfl) (by kernel_rfl) ?_
        simp only [go_sem, getD_ln hka, lns, i0, hlt, List.length_map]
        refine vCall_of (hT) ?_ ?_ ?_; (focus simp only [go_sem, lns, ref]); (focus simp only [go_sem, lns, ref])
        simp only [go_sem, refb, ref, hz, w1]
        exact ⟨⟨k + 1, (traceM (row.getD k default) r1).1, keptM (row.getD k default) r1, by omega, h, h3⟩, by show row.length - (k + 1) < row.length - k; omega, ⟨rfl, (forall_cons rfl (forall_cons rfl (forall_cons rfl (forall_cons rfl (forall_cons rfl (forall_nil)))))), forall_cons ⟨rfl, rfl⟩ (forall_cons ⟨rfl, rfl⟩ forall_nil), forall_nil⟩⟩
  · obtain rfl : k = row.length := by omega
    rw [List.drop_length] at h h2
    have h3 : traceL row r = (r1, true) := h.symm
    have h4 : keptL row r = kp := by rw [← h2]; simp [keptL]
    simp only [go_sem, lnss, List.length_map, hlt, h3, h4, alc, ref]
set_option maxRecDepth 20000 in
set_option maxHeartbeats 16000000 in
theorem RSureAt_pure : ∀ (n : Nat) (row : List Ln) (r : Rf), row.length = n → n ≤ 1000 → (∀ x ∈ row, OkLn x) → PL.Pure Tryz.prog 39 [lnss row, ref r] (.bool (sureR row.reverse r))
  | 0, row, r, hn, _, _ => by
    obtain rfl := List.eq_nil_of_length_eq_zero hn
    refine PL.Pure.of_v Tryz.func39 (by decide) rfl Tryz.ntmps39 Tryz.results39 (by simp) rfl ?_
    simp only [go_sem, lnss, List.map_nil, sureR, ref]
  | n + 1, row, r, hn, hl, ho => by
    have hka : n < row.length := by omega
    have hb : (((n + 1 : Nat) : Int) == 0) = false := by rw [beq_eq_false_iff_ne]; omega
    have i0 : (0 : Int) ≤ (n : Int) := by omega
    have i3 : (n : Int) < ((n + 1 : Nat) : Int) := by omega
    have i2 : (n : Int) ≤ ((n + 1 : Nat) : Int) := by omega
    have wn : IntKind.i64.wrap (((n + 1 : Nat) : Int) - 1) = (n : Int) := by rw [w64 (by omega)]; omega
    have hon := ho _ (getD_mem (d := default) hka)
    have hS := RSure_pure (row.getD n default) r hon
    have hC := RSources_pure (row.getD n default) r hon
    have hrv : row.reverse = row.getD n default :: (row.take n).reverse := by
      rw [← rev_take hka, ← hn, List.take_length]
    have hcut : PL.cut (row.map lns) 0 (n : Int) = (row.take n).map lns := by simp [PL.cut, List.map_take]
    have hIH := fun s => RSureAt_pure n (row.take n) s (by rw [List.length_take]; omega) (by omega) (fun x hx => ho x (List.mem_of_mem_take hx))
    have hsr : sureR row.reverse r = (sureM (row.getD n default) r && (srcM (row.getD n default) r).all (sureR (row.take n).reverse)) := by rw [hrv]; rfl
    rw [hsr]
    cases hs : sureM (row.getD n default) r
    · rw [hs] at hS
      refine PL.Pure.of_v Tryz.func39 (by decide) rfl Tryz.ntmps39 Tryz.results39 (by simp) rfl ?_
      simp only [go_sem, lnss, ref, List.length_map, hn, hb, wn, i0, i3, getD_ln hka, lns]
      refine vCall_of (hS) ?_ ?_ ?_; (focus simp only [go_sem, lns, ref]); (focus simp only [go_sem, lns, ref])
      simp only [go_sem, Bool.false_and]
    · rw [hs] at hS
      have hsl := src_len (row.getD n default) r
      generalize srcM (row.getD n default) r = src at *
      have hsm : src.length ≤ maxLen := by rw [maxLen_eq]; omega
      rw [Bool.true_and]
      refine PL.Pure.of_v Tryz.func39 (by decide) rfl Tryz.ntmps39 Tryz.results39 (by simp) rfl ?_
      simp only [go_sem, lnss, ref, List.length_map, hn, hb, wn, i0, i3, getD_ln hka, lns]
      refine vCall_of (hS) ?_ ?_ ?_; (focus simp only [go_sem, lns, ref]); (focus simp only [go_sem, lns, ref])
      simp only [go_sem, lns]
      refine vCall_of (hC) ?_ ?_ ?_; (focus simp only [go_sem, lns, ref]); (focus simp only [go_sem, lns, ref])
      simp only [go_sem, refs]
      refine vLoopM (ι := { x : Nat // x ≤ (src).length ∧ (∀ j, j < x → sureR (row.take n).reverse (src.getD j default) = true) }) 41 (fun x => [(0, lnss row), (6, refs src), (7, .int .i64 (x.1 : Int))]) (fun x => []) (fun x => []) (fun x => (src).length - x.1) ⟨0, Nat.zero_le _, fun j hj => absurd hj (Nat.not_lt_zero j)⟩ ⟨rfl, (forall_cons rfl (forall_cons rfl (forall_cons rfl forall_nil))), forall_nil, forall_nil⟩ (fun x => ⟨(forall_cons rfl (forall_cons rfl (forall_cons rfl forall_nil))), forall_nil⟩) (fun x => ?_); obtain ⟨k, hk, hI⟩ := x; simp only at hk hI ⊢
      by_cases h : (k : Int) < (src.length : Int)
      · (have hka : k < (src).length := by omega); (have w1 := w64s hka (hsm)); (have i1 : (0 : Int) ≤ (k : Int) := by omega)
        have hc := hIH (src.getD k default)
        cases hq : sureR (row.take n).reverse (src.getD k default)
        · have hz := all_false (p := sureR (row.take n).reverse) hka hq
          rw [hq] at hc
          simp only [go_sem, refs, h, List.length_map]
          refine vDrawQ (by kernel_rfl) (by kernel_rfl) ?_
          simp only [go_sem, lnss, hn, wn, List.length_map, hcut, i0, i2, getD_ref hka, ref]
          refine ⟨(fun e he => by obtain ⟨y, _, rfl⟩ := List.mem_map.1 he; rfl), ⟨i1, h⟩, ?_⟩
          refine vCall_of (hc) ?_ ?_ ?_; (focus simp only [go_sem, lnss, ref]); (focus simp only [go_sem, lnss, ref])
          simp only [go_sem, hz]
        · rw [hq] at hc
          simp only [go_sem, refs, h, List.length_map]
          refine vDrawQ (by kernel_rfl) (by kernel_rfl) ?_
          simp only [go_sem, lnss, hn, wn, List.length_map, hcut, i0, i2, getD_ref hka, ref]
          refine ⟨(fun e he => by obtain ⟨y, _, rfl⟩ := List.mem_map.1 he; rfl), ⟨i1, h⟩, ?_⟩
          refine vCall_of (hc) ?_ ?_ ?_; (focus simp only [go_sem, lnss, ref]); (focus simp only [go_sem, lnss, ref])
          simp only [go_sem, w1]
          exact ⟨⟨k + 1, by (try simp only); omega, below_succ hI hq⟩, by show (src).length - (k + 1) < (src).length - k; omega, ⟨rfl, (forall_cons rfl (forall_cons rfl (forall_cons rfl forall_nil))), forall_nil, forall_nil⟩⟩
      · have hz := all_true (p := sureR (row.take n).reverse) (d := default) (l := src) (fun j hj => hI j (by omega))
        simp only [go_sem, refs, h, hz, List.length_map]
set_option maxRecDepth 20000 in
set_option maxHeartbeats 8000000 in
theorem RRow19_pure (m : List Eg) (a b : Tg) (hm : OkM m) (hr : RightM m) : PL.Pure Tryz.prog 34 [egs m, tg a, tg b] (lnsc (rowM m a b)) := by
  have hR := RRow_pure m a b hm hr
  refine PL.Pure.of_v Tryz.func34 (by decide) rfl Tryz.ntmps34 Tryz.results34 (by simp) (lnsc_dids _) ?_
  simp only [go_sem, egs, tg]
  refine vCall_of (hR) ?_ ?_ ?_; (focus simp only [go_sem, egs, tg]); (focus simp only [go_sem, egs, tg])
  simp only [go_sem, lnsc, lnss]
end Go.Proofs.YtbojhapdidieoaaGreat

set_option linter.unusedSimpArgs false
set_option linter.unusedVariables false
set_option linter.unusedSimpArgs false
set_option linter.unusedVariables false
namespace Go.Proofs.YtbojhapdidieoaaGreat
open Go.PL
theorem trace_bad : ∀ (row : List Ln) (r : Rf), (traceL row r).2 = false → traceL row r = (default, false) ∧ keptL row r = false
  | [], r, h => by cases h
  | x :: xs, r, h => by
    rw [traceL_cons] at h ⊢
    rw [keptL_cons]
    split at h
    · rename_i hz
      rw [if_pos hz, if_pos hz]
      exact ⟨rfl, by split <;> rfl⟩
    · rename_i hz
      rw [if_neg hz, if_neg hz]
      obtain ⟨h1, h2⟩ := trace_bad xs _ h
      exact ⟨h1, by rw [h2]; split <;> rfl⟩
theorem along_eq (row : List Ln) (r : Rf) : alongD row r = ((traceL row r).1, (traceL row r).2, keptL row r) := by
  unfold alongD
  cases h : (traceL row r).2
  · obtain ⟨h1, h2⟩ := trace_bad row r h
    rw [if_pos rfl, h1, h2]
  · rw [if_neg (by simp)]
set_option maxRecDepth 20000 in
set_option maxHeartbeats 16000000 in
theorem CarryPaths_pure (l : List Eg) (a b : Tg) (r : Rf) (hl : l.length ≤ maxLen) (hx : ∀ e ∈ l, LenLn e.ln) : PL.Pure Tryz.prog 5 [egs l, tg a, tg b, ref r] (.bool true) := by
  have hH := RHeavyE_pure l 50 hl hx
  cases hh : heavyE l 50
  · rw [hh] at hH
    obtain ⟨o1, o2⟩ := okL hh
    have hG := Grown_pure l (by omega) o2
    have hm : OkM (grownM l) := okGrown _ okM_nil o2
    have hr : RightM (grownM l) := rightGrown _ right_nil
    generalize grownM l = m at *
    have hR := RRow19_pure m a b hm hr
    have hT := TraceTo_pure m a b r hm hr
    have hK := KeptTo_pure m a b r hm hr
    have hS := SureAt_pure m a b r hm hr
    obtain ⟨hrl, hro⟩ := row_ok (a := a) (b := b) hm
    have hc2 : (rowM m a b).2 = pathC m a b := by unfold rowM; split <;> simp_all
    unfold traceT at hT
    unfold keptT at hK
    unfold sureT at hS
    have n1 : (pathC m a b != pathC m a b) = false := by simp
    by_cases hc : pathC m a b = 0
    · have hc' : (pathC m a b != 0) = false := by simpa using hc
      rw [if_neg (fun h => h hc)] at hT hK hS
      have hA := Along_pure (rowM m a b).1 r hrl hro
      rw [along_eq] at hA
      have hQ := RSureAt_pure _ (rowM m a b).1 r rfl hrl hro
      rw [sureE_all] at hS
      have e1 : [r].all (sureR (rowM m a b).1.reverse) = sureR (rowM m a b).1.reverse r := by simp
      rw [e1] at hS
      generalize rowM m a b = row at *
      obtain ⟨row, c0⟩ := row
      simp only at hc2 hA hQ hS hT hK
      subst hc2
      generalize sureR row.reverse r = su at *
      generalize keptL row r = ke at *
      generalize traceL row r = tt at *
      obtain ⟨w, fo⟩ := tt
      have n2 : decide (w = w) = true := by simp
      have n3 : (fo == fo) = true := by simp
      have n4 : (ke == ke) = true := by simp
      have n5 : (su == su) = true := by simp
      refine PL.Pure.of_v Tryz.func5 (by decide) rfl Tryz.ntmps5 Tryz.results5 (by simp) rfl ?_
      simp only [go_sem, egs, tg, ref]
      refine vCall_of (awake19_pure) ?_ ?_ ?_; (focus simp only [go_sem]); (focus simp only [go_sem])
      simp only [go_sem]
      refine vCall_of (hH) ?_ ?_ ?_; (focus simp only [go_sem, egs]); (focus simp only [go_sem, egs])
      simp only [go_sem]
      refine vCall_of (hG) ?_ ?_ ?_; (focus simp only [go_sem, egs]); (focus simp only [go_sem, egs])
      simp only [go_sem, grv]
      refine vCall_of (hR) ?_ ?_ ?_; (focus simp only [go_sem, egs, tg]); (focus simp only [go_sem, egs, tg])
      simp only [go_sem, lnsc, tr]
      refine vCall_of (hT) ?_ ?_ ?_; (focus simp only [go_sem, tr, tg, ref]); (focus simp only [go_sem, tr, tg, ref])
      simp only [go_sem, trc, ref]
      refine vCall_of (hK) ?_ ?_ ?_; (focus simp only [go_sem, tr, tg, ref]); (focus simp only [go_sem, tr, tg, ref])
      simp only [go_sem, kpc]
      refine vCall_of (hS) ?_ ?_ ?_; (focus simp only [go_sem, tr, tg, ref]); (focus simp only [go_sem, tr, tg, ref])
      simp only [go_sem, kpc, n1, hc', lnss]
      refine vCall_of (hA) ?_ ?_ ?_; (focus simp only [go_sem, lnss, ref]); (focus simp only [go_sem, lnss, ref])
      simp only [go_sem, alc, ref, ref_fold, n2, n3, n4]
      refine vCall_of (hQ) ?_ ?_ ?_; (focus simp only [go_sem, lnss, ref]); (focus simp only [go_sem, lnss, ref])
      simp only [go_sem, n5]
    · have hc' : (pathC m a b != 0) = true := by simpa using hc
      rw [if_pos hc] at hT hK hS
      generalize rowM m a b = row at *
      obtain ⟨row, c0⟩ := row
      simp only at hc2
      subst hc2
      refine PL.Pure.of_v Tryz.func5 (by decide) rfl Tryz.ntmps5 Tryz.results5 (by simp) rfl ?_
      simp only [go_sem, egs, tg, ref]
      refine vCall_of (awake19_pure) ?_ ?_ ?_; (focus simp only [go_sem]); (focus simp only [go_sem])
      simp only [go_sem]
      refine vCall_of (hH) ?_ ?_ ?_; (focus simp only [go_sem, egs]); (focus simp only [go_sem, egs])
      simp only [go_sem]
      refine vCall_of (hG) ?_ ?_ ?_; (focus simp only [go_sem, egs]); (focus simp only [go_sem, egs])
      simp only [go_sem, grv]
      refine vCall_of (hR) ?_ ?_ ?_; (focus simp only [go_sem, egs, tg]); (focus simp only [go_sem, egs, tg])
      simp only [go_sem, lnsc, tr]
      refine vCall_of (hT) ?_ ?_ ?_; (focus simp only [go_sem, tr, tg, ref]); (focus simp only [go_sem, tr, tg, ref])
      simp only [go_sem, trc, ref]
      refine vCall_of (hK) ?_ ?_ ?_; (focus simp only [go_sem, tr, tg, ref]); (focus simp only [go_sem, tr, tg, ref])
      simp only [go_sem, kpc]
      refine vCall_of (hS) ?_ ?_ ?_; (focus simp only [go_sem, tr, tg, ref]); (focus simp only [go_sem, tr, tg, ref])
      have d1 : ((default : Rf).sc == 0 && ((default : Rf).gr == [] && (default : Rf).nm == [])) = true := rfl
      simp only [go_sem, kpc, n1, hc', d1]
  · rw [hh] at hH
    refine PL.Pure.of_v Tryz.func5 (by decide) rfl Tryz.ntmps5 Tryz.results5 (by simp) rfl ?_
    simp only [go_sem, egs, tg, ref]
    refine vCall_of (awake19_pure) ?_ ?_ ?_; (focus simp only [go_sem]); (focus simp only [go_sem])
    simp only [go_sem]
    refine vCall_of (hH) ?_ ?_ ?_; (focus simp only [go_sem, egs]); (focus simp only [go_sem, egs])
    simp only [go_sem]
end Go.Proofs.YtbojhapdidieoaaGreat

set_option linter.unusedSimpArgs false
set_option linter.unusedVariables false
set_option linter.unusedSimpArgs false
set_option linter.unusedVariables false
namespace Go.Proofs.YtbojhapdidieoaaGreat
open Go.PL
open Go.ChangeShapes Go.WideShapes Go.ChangeAt Go.RowKit
theorem Tryz.own : ownKnob Tryz.prog.godebug = Option.none := by kernel_rfl
theorem Tryz.laidOut : laidOutB Tryz.prog = true := by kernel_rfl
theorem Tryz.lays : layAll Tryz.prog = true := by kernel_rfl
theorem oddStrs : oddB Tryz.prog 55 = false := by kernel_rfl
theorem oddPrs : oddB Tryz.prog 58 = false := by kernel_rfl
theorem oddEgs : oddB Tryz.prog 22 = false := by kernel_rfl
structure LenLn' (x : Ln) : Prop where
  c : x.fd.cases'.length ≤ maxLen
  f : x.fo.length ≤ maxLen
  b : x.ba.length ≤ maxLen
theorem pt_strs {cs : List PV} (h : PT Tryz.prog 55 cs) : ∃ l : List Str, cs = [.sl .no (l.map .str)] ∧ l.length ≤ maxLen := by
  obtain ⟨l, rfl, h1, h2⟩ := h.slice_inv oddStrs Tryz.underlying55
  obtain ⟨xs, rfl, _⟩ := all_told (enc := PV.str) (Q := fun _ => True) (fun p hp => by
    obtain ⟨s, rfl, _⟩ := (h2 p hp).string Tryz.underlying9
    exact ⟨s, rfl, trivial⟩)
  exact ⟨xs, rfl, by simpa using h1⟩
theorem pt_tag {cs : List PV} (h : PT Tryz.prog 24 cs) : ∃ r : Tg, cs = [.int .i64 r.r, .int .i64 r.n] := by
  have h1 : PTs Tryz.prog [3, 3] cs := h.struct_inv Tryz.underlying24
  obtain ⟨a, b, rfl, h2, h3⟩ := h1.cons_inv
  obtain ⟨c, d, rfl, h4, h5⟩ := h3.cons_inv
  obtain ⟨x, rfl, _⟩ := h2.int_inv Tryz.underlying3
  obtain ⟨y, rfl, _⟩ := h4.int_inv Tryz.underlying3
  rw [h5.nil_inv]
  exact ⟨⟨x, y⟩, rfl⟩
theorem pt_ref {cs : List PV} (h : PT Tryz.prog 54 cs) : ∃ r : Rf, cs = [.int .i64 r.sc, .str r.gr, .str r.nm] := by
  have h1 : PTs Tryz.prog [3, 9, 9] cs := h.struct_inv Tryz.underlying54
  obtain ⟨a, b, rfl, h2, h3⟩ := h1.cons_inv
  obtain ⟨c, d, rfl, h4, h5⟩ := h3.cons_inv
  obtain ⟨e, f, rfl, h6, h7⟩ := h5.cons_inv
  obtain ⟨x, rfl, _⟩ := h2.int_inv Tryz.underlying3
  obtain ⟨y, rfl, _⟩ := h4.string_inv Tryz.underlying9
  obtain ⟨z, rfl, _⟩ := h6.string_inv Tryz.underlying9
  rw [h7.nil_inv]
  exact ⟨⟨x, y, z⟩, rfl⟩
theorem pt_fld {cs : List PV} (h : PT Tryz.prog 57 cs) : ∃ f : Fd, cs = [.int .i64 f.at'.sc, .str f.at'.gr, .str f.at'.nm, .int .i64 f.kind, .str f.df, .sl .no (f.cases'.map .str), .int .i64 f.worth] ∧ f.cases'.length ≤ maxLen := by
  have h1 : PTs Tryz.prog [54, 3, 9, 55, 2] cs := h.struct_inv Tryz.underlying57
  obtain ⟨a1, b1, rfl, h2, h3⟩ := h1.cons_inv
  obtain ⟨a2, b2, rfl, h4, h5⟩ := h3.cons_inv
  obtain ⟨a3, b3, rfl, h6, h7⟩ := h5.cons_inv
  obtain ⟨a4, b4, rfl, h8, h9⟩ := h7.cons_inv
  obtain ⟨a5, b5, rfl, h10, h11⟩ := h9.cons_inv
  obtain ⟨r, rfl⟩ := pt_ref h2
  obtain ⟨x, rfl, _⟩ := h4.int_inv Tryz.underlying3
  obtain ⟨y, rfl, _⟩ := h6.string_inv Tryz.underlying9
  obtain ⟨l, rfl, hl⟩ := pt_strs h8
  obtain ⟨z, rfl, _⟩ := h10.int_inv Tryz.underlying2
  rw [h11.nil_inv]
  exact ⟨⟨r, x, y, l, z⟩, rfl, hl⟩
theorem pa_pair {p : PV} (h : PA Tryz.prog 160 p) : ∃ e : Pr, p = pr e := by
  obtain ⟨cs, rfl, h1⟩ := PA.agg tagg_160 h
  have h1 : PTs Tryz.prog [9, 9] cs := h1.struct_inv Tryz.underlying160
  obtain ⟨a, b, rfl, h2, h3⟩ := h1.cons_inv
  obtain ⟨c, d, rfl, h4, h5⟩ := h3.cons_inv
  obtain ⟨x, rfl, _⟩ := h2.string_inv Tryz.underlying9
  obtain ⟨y, rfl, _⟩ := h4.string_inv Tryz.underlying9
  rw [h5.nil_inv]
  exact ⟨⟨x, y⟩, rfl⟩
theorem pt_prs {cs : List PV} (h : PT Tryz.prog 58 cs) : ∃ l : List Pr, cs = [.sl .no (l.map pr)] ∧ l.length ≤ maxLen := by
  obtain ⟨l, rfl, h1, h2⟩ := h.slice_inv oddPrs Tryz.underlying58
  obtain ⟨xs, rfl, _⟩ := all_told (enc := pr) (Q := fun _ => True) (fun p hp => by
    obtain ⟨s, rfl⟩ := pa_pair (h2 p hp)
    exact ⟨s, rfl, trivial⟩)
  exact ⟨xs, rfl, by simpa using h1⟩
def lncellsG (x : Ln) : List PV := [.int .i64 x.kind, .int .i64 x.at'.sc, .str x.at'.gr, .str x.at'.nm, .str x.nm, .str x.ot, .int .i64 x.fac, .int .i64 x.fd.at'.sc, .str x.fd.at'.gr, .str x.fd.at'.nm, .int .i64 x.fd.kind, .str x.fd.df, .sl .no (x.fd.cases'.map .str), .int .i64 x.fd.worth, .sl .no (x.fo.map pr), .sl .no (x.ba.map pr)]
theorem pt_lens {cs : List PV} (h : PT Tryz.prog 60 cs) : ∃ x : Ln, cs = lncellsG x ∧ LenLn' x := by
  have h1 : PTs Tryz.prog [3, 54, 9, 9, 2, 57, 58, 58] cs := h.struct_inv Tryz.underlying60
  obtain ⟨a1, b1, rfl, h2, h3⟩ := h1.cons_inv
  obtain ⟨a2, b2, rfl, h4, h5⟩ := h3.cons_inv
  obtain ⟨a3, b3, rfl, h6, h7⟩ := h5.cons_inv
  obtain ⟨a4, b4, rfl, h8, h9⟩ := h7.cons_inv
  obtain ⟨a5, b5, rfl, h10, h11⟩ := h9.cons_inv
  obtain ⟨a6, b6, rfl, h12, h13⟩ := h11.cons_inv
  obtain ⟨a7, b7, rfl, h14, h15⟩ := h13.cons_inv
  obtain ⟨a8, b8, rfl, h16, h17⟩ := h15.cons_inv
  obtain ⟨x1, rfl, _⟩ := h2.int_inv Tryz.underlying3
  obtain ⟨x2, rfl⟩ := pt_ref h4
  obtain ⟨x3, rfl, _⟩ := h6.string_inv Tryz.underlying9
  obtain ⟨x4, rfl, _⟩ := h8.string_inv Tryz.underlying9
  obtain ⟨x5, rfl, _⟩ := h10.int_inv Tryz.underlying2
  obtain ⟨x6, rfl, k6⟩ := pt_fld h12
  obtain ⟨x7, rfl, k7⟩ := pt_prs h14
  obtain ⟨x8, rfl, k8⟩ := pt_prs h16
  rw [h17.nil_inv]
  exact ⟨⟨x1, x2, x3, x4, x5, x6, x7, x8⟩, rfl, ⟨k6, k7, k8⟩⟩
theorem pa_edge {p : PV} (h : PA Tryz.prog 91 p) : ∃ e : Eg, p = eg e ∧ LenLn' e.ln := by
  obtain ⟨cs, rfl, h1⟩ := PA.agg tagg_91 h
  have h1 : PTs Tryz.prog [24, 24, 60] cs := h1.struct_inv Tryz.underlying91
  obtain ⟨a1, b1, rfl, h2, h3⟩ := h1.cons_inv
  obtain ⟨a2, b2, rfl, h4, h5⟩ := h3.cons_inv
  obtain ⟨a3, b3, rfl, h6, h7⟩ := h5.cons_inv
  obtain ⟨x1, rfl⟩ := pt_tag h2
  obtain ⟨x2, rfl⟩ := pt_tag h4
  obtain ⟨x3, rfl, k3⟩ := pt_lens h6
  rw [h7.nil_inv]
  exact ⟨⟨x1, x2, x3⟩, rfl, k3⟩
theorem pa_edges {p : PV} (h : PA Tryz.prog 22 p) : ∃ l : List Eg, p = egs l ∧ l.length ≤ maxLen ∧ ∀ e ∈ l, LenLn' e.ln := by
  obtain ⟨l, rfl, h1, h2⟩ := h.slice oddEgs Tryz.underlying22
  obtain ⟨xs, rfl, h3⟩ := all_told (fun p hp => pa_edge (h2 p hp))
  exact ⟨xs, rfl, by simpa using h1, h3⟩
theorem pa_tag {p : PV} (h : PA Tryz.prog 24 p) : ∃ t : Tg, p = tg t := by
  obtain ⟨cs, rfl, h1⟩ := PA.agg tagg_24 h
  obtain ⟨r, rfl⟩ := pt_tag h1
  exact ⟨r, rfl⟩
theorem pa_ref {p : PV} (h : PA Tryz.prog 54 p) : ∃ r : Rf, p = ref r := by
  obtain ⟨cs, rfl, h1⟩ := PA.agg tagg_54 h
  obtain ⟨r, rfl⟩ := pt_ref h1
  exact ⟨r, rfl⟩
end Go.Proofs.YtbojhapdidieoaaGreat
