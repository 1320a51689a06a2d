/- Contracts of functions and laws of this seat, each for every input that it names: lemmas of the proof. -/
import Derived.Test.YtcomkajmhlhphaaGreatXCp
import Derived.Test.YtcomkajmhlhphaaGreatXCe
set_option linter.unusedSimpArgs false
set_option linter.unusedVariables false
set_option linter.unusedSimpArgs false
set_option linter.unusedVariables false
namespace Go.Proofs.YtcomkajmhlhphaaGreat
open Go.PL
theorem before_len (u : Ln) : ∀ (es acc : List Rf) (n : Nat), acc.length ≤ n + cntD (goesR u) acc → ∀ b, beforeD u acc es = some b → b.length ≤ n + es.length + cntD (goesR u) b
  | [], acc, n, h, b, hb => by
    simp only [beforeD, Option.some.injEq] at hb
    subst hb
    simpa using h
  | e :: es, acc, n, h, b, hb => by
    rw [beforeD_cons] at hb
    split at hb
    · cases hb
    · have := before_len u es _ (n + 1) (adds_bound h (src_cases u e)) b hb
      simp only [List.length_cons]
      omega
theorem before_len2 {u : Ln} {es b : List Rf} (h : beforeD u [] es = some b) : b.length ≤ es.length + 2 := by
  have h1 := before_len u es [] 0 (by simp) b h
  have h2 := cnt_le (goesR u) b
  have h3 := goesR_len u
  omega
theorem rev_take {l : List Ln} {k : Nat} (h : k < l.length) : (l.take (k + 1)).reverse = l.getD k default :: (l.take k).reverse := by
  rw [take_snoc (d := default) h, List.reverse_append]; rfl
def sureT (m : List Eg) (a b : Tg) (r : Rf) : Bool := if pathC m a b ≠ 0 then false else sureE (rowM m a b).1.reverse [r]
theorem awp_weakP {P : Program} {c : Code} {Q : Exit → St → Prop} {s s' : St} (hw : WeakP s' s) (hr : Refs s') (h : awp P c Q s') : awp P c Q s := fun B S M a w hs => h B S M a w (hs.weakP hw hr)
structure SuS (row : List Ln) (r0 : Rf) where
  k : Nat
  es : List Rf
  hk : k ≤ row.length
  hl : es.length ≤ 1 + 2 * (row.length - k)
  h : sureE (row.take k).reverse es = sureE row.reverse [r0]
set_option maxRecDepth 20000 in
set_option maxHeartbeats 16000000 in
theorem SureAt_pure (m : List Eg) (a b : Tg) (r : Rf) (hm : OkM m) (hr : RightM m) : PL.Pure Tryz.prog 29 [tr (treeOf m), tg a, tg b, ref r] (kpc (sureT m a b r) (pathC m a b)) := by
  have hR := Row_pure m a b hm hr
  obtain ⟨hrl, hro⟩ := row_ok (a := a) (b := b) hm
  have hc2 : (rowM m a b).2 = pathC m a b := by unfold rowM; split <;> simp_all
  unfold sureT
  by_cases hc : pathC m a b = 0
  · rw [if_neg (fun h => h hc)]
    rw [hc] at hc2
    generalize hrow : rowM m a b = rw0 at *
    obtain ⟨row, c0⟩ := rw0
    simp only at hc2 hrl hro ⊢
    subst hc2
    rw [hc]
    refine PL.Pure.of_v Tryz.func29 (by decide) rfl Tryz.ntmps29 Tryz.results29 (by simp) (kpc_dids _ _) ?_
    simp only [go_sem, tr, tg, ref]
    refine vScopeM (ι := SuS row r) 44 (fun x => [(10, lnss row), (12, refs x.es), (13, .int .i64 (x.k : Int))]) (fun x => []) (fun x => []) (fun x => x.k) 0 _ (by exact rfl) (fun x => ⟨(forall_cons rfl (forall_cons rfl (forall_cons rfl (forall_nil)))), forall_nil⟩) (fun x => ?_) (fun cut => ?_)
    · obtain ⟨k, es, hk, hl, h⟩ := x
      simp only
      cases k with
      | zero =>
        have hd : sureE row.reverse [r] = true := by rw [← h]; rfl
        simp only [go_sem, hd, kpc]
      | succ k =>
        have hka : k < row.length := by omega
        have hb : (((k + 1 : Nat) : Int) == 0) = false := by rw [beq_eq_false_iff_ne]; omega
        have i0 : (0 : Int) ≤ (k : Int) := by omega
        have i1 : (k : Int) < (row.length : Int) := by omega
        have w1 : IntKind.i64.wrap (((k + 1 : Nat) : Int) - 1) = (k : Int) := by rw [w64 (by omega)]; omega
        have hB := before_pure (row.getD k default) es (hro _ (getD_mem (d := default) hka)) (by omega)
        rw [rev_take hka] at h
        cases hz : beforeD (row.getD k default) [] es with
        | none =>
          have h2 : sureE row.reverse [r] = false := by rw [← h]; simp only [sureE, hz]
          rw [hz] at hB
          simp only [go_sem, hb, w1, lnss, List.length_map, getD_ln hka, lns, i0, i1]
          refine vCall_of (hB) ?_ ?_ ?_; (focus simp only [go_sem, lns, refs]); (focus simp only [go_sem, lns, refs])
          simp only [go_sem, optc, Option.isSome_none, h2, kpc]
        | some bk =>
          have h2 : sureE (row.take k).reverse bk = sureE row.reverse [r] := by rw [← h]; simp only [sureE, hz]
          have h3 := before_len2 hz
          rw [hz] at hB
          simp only [go_sem, hb, w1, lnss, List.length_map, getD_ln hka, lns, i0, i1]
          refine vCall_of (hB) ?_ ?_ ?_; (focus simp only [go_sem, lns, refs]); (focus simp only [go_sem, lns, refs])
          simp only [go_sem, optc, Option.isSome_some, Option.getD_some]
          exact ⟨⟨k, bk, by omega, by omega, h2⟩, by show k < k + 1; omega, ⟨rfl, (forall_cons rfl (forall_cons rfl (forall_cons rfl (forall_nil)))), forall_nil, forall_nil⟩⟩
    · simp only [go_sem]
      refine vCall_of (hR) ?_ ?_ ?_; (focus simp only [go_sem, tr, tg]); (focus simp only [go_sem, tr, tg])
      simp only [go_sem, lnsc, lnss, List.length_map]
      have hp := fun s h => cut ⟨row.length, [r], Nat.le_refl _, by simp, by rw [List.take_length]⟩ s h
      refine awp_label_seq (awp_weakP (HasP.weak (n := 44) (L := [(10, lnss row), (12, refs [r]), (13, .int .i64 (row.length : Int))]) (H := []) (R := []) ⟨rfl, forall_cons (.same rfl) (forall_cons (.row 26 _) (forall_cons (.same rfl) forall_nil)), forall_nil, forall_nil⟩) (Refs.mkSt ⟨(forall_cons rfl (forall_cons rfl (forall_cons rfl (forall_nil)))), forall_nil⟩) (hp _ ⟨rfl, (forall_cons rfl (forall_cons rfl (forall_cons rfl (forall_nil)))), forall_nil, forall_nil⟩))
  · rw [if_pos hc]
    have hc' : (pathC m a b != 0) = true := by simpa using hc
    have hcr : rowM m a b = ([], pathC m a b) := by unfold rowM; rw [if_pos hc]
    rw [hcr] at hR
    refine PL.Pure.of_v Tryz.func29 (by decide) rfl Tryz.ntmps29 Tryz.results29 (by simp) (kpc_dids _ _) ?_
    simp only [go_sem, tr, tg, ref]
    refine vScope0 ?_
    simp only [go_sem]
    refine vCall_of (hR) ?_ ?_ ?_; (focus simp only [go_sem, tr, tg]); (focus simp only [go_sem, tr, tg])
    simp only [go_sem, lnsc, lnss, hc', kpc]
def alongD (row : List Ln) (r : Rf) : Rf × Bool × Bool := if (traceL row r).2 = false then (default, false, false) else ((traceL row r).1, true, keptL row r)
def alc (x : Rf × Bool × Bool) : PV := .tup [ref x.1, .bool x.2.1, .bool x.2.2]
theorem alc_dids (x : Rf × Bool × Bool) : (alc x).dids = [] := by simp only [alc, PV.dids, PV.didsL, ref_dids, List.append_nil]
structure AlS (row : List Ln) (r0 : Rf) where
  k : Nat
  r : Rf
  kp : Bool
  hk : k ≤ row.length
  h : traceL (row.drop k) r = traceL row r0
  h2 : (kp && keptL (row.drop k) r) = keptL row r0
set_option maxRecDepth 20000 in
set_option maxHeartbeats 16000000 in
theorem Along_pure (row : List Ln) (r : Rf) (hl : row.length ≤ 1000) (ho : ∀ x ∈ row, OkLn x) : PL.Pure Tryz.prog 45 [lnss row, ref r] (alc (alongD row r)) := by
  unfold alongD
  refine PL.Pure.of_v Tryz.func45 (by decide) rfl Tryz.ntmps45 Tryz.results45 (by simp) (alc_dids _) ?_
  simp only [go_sem, lnss, ref]
  refine vLoopM (ι := AlS row r) 41 (fun x => [(0, lnss row), (3, .ptr 3 0), (4, .ptr 4 0), (7, .bool x.kp), (8, .int .i64 (x.k : Int))]) (fun x => [(3, [.int .i64 x.r.sc, .str x.r.gr, .str x.r.nm], false), (4, [.int .i64 0, .str [], .str []], false)]) (fun x => []) (fun x => row.length - x.k) ⟨0, r, true, Nat.zero_le _, rfl, by simp⟩
    ⟨rfl, (forall_cons rfl (forall_cons rfl (forall_cons rfl (forall_cons rfl (forall_cons rfl (forall_nil)))))), forall_cons ⟨rfl, rfl⟩ (forall_cons ⟨rfl, rfl⟩ forall_nil), forall_nil⟩ (fun x => ⟨(forall_cons rfl (forall_cons rfl (forall_cons rfl (forall_cons rfl (forall_cons rfl (forall_nil)))))), forall_cons rfl (forall_cons rfl forall_nil)⟩) (fun x => ?_)
  obtain ⟨k, r1, kp, hk, h, h2⟩ := x
  simp only
  by_cases hlt : (k : Int) < (row.length : Int)
  · have hka : k < row.length := by omega
    have i0 : (0 : Int) ≤ (k : Int) := by omega
    have w1 : IntKind.i64.wrap ((k : Int) + 1) = ((k + 1 : Nat) : Int) := by rw [w64 (by omega)]; rfl
    have hT := RTrace_pure (row.getD k default) r1 (ho _ (getD_mem (d := default) hka))
    have hK := RKept_pure (row.getD k default) r1 (ho _ (getD_mem (d := default) hka))
    rw [drop_ln hka, traceL_cons] at h
    rw [drop_ln hka, keptL_cons] at h2
    cases hz : (traceM (row.getD k default) r1).2
    · rw [if_pos hz] at h
      cases kp
      · simp only [go_sem, lnss, List.length_map, hlt]
        refine vDrawQ (by kernel_rfl) (by kernel_rfl) ?_
        simp only [go_sem]
        refine vDrawQ (by kernel_rfl) (by kernel_rfl) ?_
        simp only [go_sem, getD_ln hka, lns, i0, hlt, List.length_map]
        refine vCall_of (hT) ?_ ?_ ?_; (focus simp only [go_sem, lns, ref]); (focus simp only [go_sem, lns, ref])
        simp only [go_sem, refb, ref, hz, ← h, alc, if_true]
        rfl
      · simp only [go_sem, lnss, List.length_map, hlt]
        refine vDrawQ (by kernel_rfl) (by kernel_rfl) ?_
        simp only [go_sem, getD_ln hka, lns, i0, hlt, List.length_map]
        refine vCall_of (hK) ?_ ?_ ?_; (focus simp only [go_sem, lns, ref]); (focus simp only [go_sem, lns, ref])
        simp only [go_sem]
        refine vDrawQ (by kernel_rfl) (by kernel_rfl) ?_
        simp only [go_sem, getD_ln hka, lns, i0, hlt, List.length_map]
        refine vCall_of (hT) ?_ ?_ ?_; (focus simp only [go_sem, lns, ref]); (focus simp only [go_sem, lns, ref])
        simp only [go_sem, refb, ref, hz, ← h, alc, if_true]
        rfl
    · rw [if_neg (by rw [hz]; simp)] at h
      rw [if_neg (show ¬ (traceM (row.getD k default) r1).2 = false by rw [hz]; simp)] at h2
      cases kp
      · simp only [go_sem, lnss, List.length_map, hlt]
        refine vDrawQ (by kernel_rfl) (by kernel_rfl) ?_
        simp only [go_sem]
        refine vDrawQ (by kernel_rfl) (by kernel_rfl) ?_
        simp only [go_sem, getD_ln hka, lns, i0, hlt, List.length_map]
        refine vCall_of (hT) ?_ ?_ ?_; (focus simp only [go_sem, lns, ref]); (focus simp only [go_sem, lns, ref])
        simp only [go_sem, refb, ref, hz, w1]
        exact ⟨⟨k + 1, (traceM (row.getD k default) r1).1, false, by omega, h, h2⟩, by show row.length - (k + 1) < row.length - k; omega, ⟨rfl, (forall_cons rfl (forall_cons rfl (forall_cons rfl (forall_cons rfl (forall_cons rfl (forall_nil)))))), forall_cons ⟨rfl, rfl⟩ (forall_cons ⟨rfl, rfl⟩ forall_nil), forall_nil⟩⟩
      · have h3 : (keptM (row.getD k default) r1 && keptL (row.drop (k + 1)) (traceM (row.getD k default) r1).1) = keptL row r := by
          rw [← h2]
          cases keptM (row.getD k default) r1 <;> simp
        simp only [go_sem, lnss, List.length_map, hlt]
        refine vDrawQ (by kernel_rfl) (by kernel_rfl) ?_
        simp only [go_sem, getD_ln hka, lns, i0, hlt, List.length_map]
        refine vCall_of (hK) ?_ ?_ ?_; (focus simp only [go_sem, lns, ref]); (focus simp only [go_sem, lns, ref])
        simp only [go_sem]
        refine vDrawQ (by kernel_rfl) (by kernel_rfl) ?_
        simp only [go_sem, getD_ln hka, lns, i0, hlt, List.length_map]
        refine vCall_of (hT) ?_ ?_ ?_; (focus simp only [go_sem, lns, ref]); (focus simp only [go_sem, lns, ref])
        simp only [go_sem, refb, ref, hz, w1]
        exact ⟨⟨k + 1, (traceM (row.getD k default) r1).1, keptM (row.getD k default) r1, by omega, h, h3⟩, by show row.length - (k + 1) < row.length - k; omega, ⟨rfl, (forall_cons rfl (forall_cons rfl (forall_cons rfl (forall_cons rfl (forall_cons rfl (forall_nil)))))), forall_cons ⟨rfl, rfl⟩ (forall_cons ⟨rfl, rfl⟩ forall_nil), forall_nil⟩⟩
  · obtain rfl : k = row.length := by omega
    rw [List.drop_length] at h h2
    have h3 : traceL row r = (r1, true) := h.symm
    have h4 : keptL row r = kp := by rw [← h2]; simp [keptL]
    simp only [go_sem, lnss, List.length_map, hlt, h3, h4, alc, ref]
set_option maxRecDepth 20000 in
set_option maxHeartbeats 16000000 in
theorem RSureAt_pure : ∀ (n : Nat) (row : List Ln) (r : Rf), row.length = n → n ≤ 1000 → (∀ x ∈ row, OkLn x) → PL.Pure Tryz.prog 46 [lnss row, ref r] (.bool (sureR row.reverse r))
  | 0, row, r, hn, _, _ => by
    obtain rfl := List.eq_nil_of_length_eq_zero hn
    refine PL.Pure.of_v Tryz.func46 (by decide) rfl Tryz.ntmps46 Tryz.results46 (by simp) rfl ?_
    simp only [go_sem, lnss, List.map_nil, sureR, ref]
  | n + 1, row, r, hn, hl, ho => by
    have hka : n < row.length := by omega
    have hb : (((n + 1 : Nat) : Int) == 0) = false := by rw [beq_eq_false_iff_ne]; omega
    have i0 : (0 : Int) ≤ (n : Int) := by omega
    have i3 : (n : Int) < ((n + 1 : Nat) : Int) := by omega
    have i2 : (n : Int) ≤ ((n + 1 : Nat) : Int) := by omega
    have wn : IntKind.i64.wrap (((n + 1 : Nat) : Int) - 1) = (n : Int) := by rw [w64 (by omega)]; omega
    have hon := ho _ (getD_mem (d := default) hka)
    have hS := RSure_pure (row.getD n default) r hon
    have hC := RSources_pure (row.getD n default) r hon
    have hrv : row.reverse = row.getD n default :: (row.take n).reverse := by
      rw [← rev_take hka, ← hn, List.take_length]
    have hcut : PL.cut (row.map lns) 0 (n : Int) = (row.take n).map lns := by simp [PL.cut, List.map_take]
    have hIH := fun s => RSureAt_pure n (row.take n) s (by rw [List.length_take]; omega) (by omega) (fun x hx => ho x (List.mem_of_mem_take hx))
    have hsr : sureR row.reverse r = (sureM (row.getD n default) r && (srcM (row.getD n default) r).all (sureR (row.take n).reverse)) := by rw [hrv]; rfl
    rw [hsr]
    cases hs : sureM (row.getD n default) r
    · rw [hs] at hS
      refine PL.Pure.of_v Tryz.func46 (by decide) rfl Tryz.ntmps46 Tryz.results46 (by simp) rfl ?_
      simp only [go_sem, lnss, ref, List.length_map, hn, hb, wn, i0, i3, getD_ln hka, lns]
      refine vCall_of (hS) ?_ ?_ ?_; (focus simp only [go_sem, lns, ref]); (focus simp only [go_sem, lns, ref])
      simp only [go_sem, Bool.false_and]
    · rw [hs] at hS
      have hsl := src_len (row.getD n default) r
      generalize srcM (row.getD n default) r = src at *
      have hsm : src.length ≤ maxLen := by rw [maxLen_eq]; omega
      rw [Bool.true_and]
      refine PL.Pure.of_v Tryz.func46 (by decide) rfl Tryz.ntmps46 Tryz.results46 (by simp) rfl ?_
      simp only [go_sem, lnss, ref, List.length_map, hn, hb, wn, i0, i3, getD_ln hka, lns]
      refine vCall_of (hS) ?_ ?_ ?_; (focus simp only [go_sem, lns, ref]); (focus simp only [go_sem, lns, ref])
      simp only [go_sem, lns]
      refine vCall_of (hC) ?_ ?_ ?_; (focus simp only [go_sem, lns, ref]); (focus simp only [go_sem, lns, ref])
      simp only [go_sem, refs]
      refine vLoopM (ι := { x : Nat // x ≤ (src).length ∧ (∀ j, j < x → sureR (row.take n).reverse (src.getD j default) = true) }) 41 (fun x => [(0, lnss row), (6, refs src), (7, .int .i64 (x.1 : Int))]) (fun x => []) (fun x => []) (fun x => (src).length - x.1) ⟨0, Nat.zero_le _, fun j hj => absurd hj (Nat.not_lt_zero j)⟩ ⟨rfl, (forall_cons rfl (forall_cons rfl (forall_cons rfl forall_nil))), forall_nil, forall_nil⟩ (fun x => ⟨(forall_cons rfl (forall_cons rfl (forall_cons rfl forall_nil))), forall_nil⟩) (fun x => ?_); obtain ⟨k, hk, hI⟩ := x; simp only at hk hI ⊢
      by_cases h : (k : Int) < (src.length : Int)
      · (have hka : k < (src).length := by omega); (have w1 := w64s hka (hsm)); (have i1 : (0 : Int) ≤ (k : Int) := by omega)
        have hc := hIH (src.getD k default)
        cases hq : sureR (row.take n).reverse (src.getD k default)
        · have hz := all_false (p := sureR (row.take n).reverse) hka hq
          rw [hq] at hc
          simp only [go_sem, refs, h, List.length_map]
          refine vDrawQ (by kernel_rfl) (by kernel_rfl) ?_
          simp only [go_sem, lnss, hn, wn, List.length_map, hcut, i0, i2, getD_ref hka, ref]
          refine ⟨(fun e he => by obtain ⟨y, _, rfl⟩ := List.mem_map.1 he; rfl), ⟨i1, h⟩, ?_⟩
          refine vCall_of (hc) ?_ ?_ ?_; (focus simp only [go_sem, lnss, ref]); (focus simp only [go_sem, lnss, ref])
          simp only [go_sem, hz]
        · rw [hq] at hc
          simp only [go_sem, refs, h, List.length_map]
          refine vDrawQ (by kernel_rfl) (by kernel_rfl) ?_
          simp only [go_sem, lnss, hn, wn, List.length_map, hcut, i0, i2, getD_ref hka, ref]
          refine ⟨(fun e he => by obtain ⟨y, _, rfl⟩ := List.mem_map.1 he; rfl), ⟨i1, h⟩, ?_⟩
          refine vCall_of (hc) ?_ ?_ ?_; (focus simp only [go_sem, lnss, ref]); (focus simp only [go_sem, lnss, ref])
          simp only [go_sem, w1]
          exact ⟨⟨k + 1, by (try simp only); omega, below_succ hI hq⟩, by show (src).length - (k + 1) < (src).length - k; omega, ⟨rfl, (forall_cons rfl (forall_cons rfl (forall_cons rfl forall_nil))), forall_nil, forall_nil⟩⟩
      · have hz := all_true (p := sureR (row.take n).reverse) (d := default) (l := src) (fun j hj => hI j (by omega))
        simp only [go_sem, refs, h, hz, List.length_map]
end Go.Proofs.YtcomkajmhlhphaaGreat

set_option linter.unusedSimpArgs false
set_option linter.unusedVariables false
set_option linter.unusedSimpArgs false
set_option linter.unusedVariables false
namespace Go.Proofs.YtcomkajmhlhphaaGreat
open Go.PL
structure Ft where
  k : Int
  at' : Rf
  to : Rf
  deriving DecidableEq, Inhabited
def ft (x : Ft) : PV := .agg [.int .i64 x.k, .int .i64 x.at'.sc, .str x.at'.gr, .str x.at'.nm, .int .i64 x.to.sc, .str x.to.gr, .str x.to.nm]
def fts (l : List Ft) : PV := .sl .no (l.map ft)
def ftc (x : Ft × Int) : PV := .tup [ft x.1, .int .i64 x.2]
def ftsc (x : List Ft × Int) : PV := .tup [fts x.1, .int .i64 x.2]
theorem ft_dids (x : Ft) : (ft x).dids = [] := rfl
theorem fts_dids (l : List Ft) : (fts l).dids = [] := by
  unfold fts
  simp only [PV.dids]
  induction l with
  | nil => rfl
  | cons e l ih => simp only [List.map_cons, PV.didsL, ih, ft_dids, List.append_nil]
theorem ftc_dids (x : Ft × Int) : (ftc x).dids = [] := rfl
theorem ftsc_dids (x : List Ft × Int) : (ftsc x).dids = [] := by simp only [ftsc, PV.dids, PV.didsL, fts_dids, List.append_nil]
theorem sized_ft (l : List Ft) : Sized 7 (l.map ft) := fun e he => by
  obtain ⟨x, _, rfl⟩ := List.mem_map.1 he; rfl
theorem getD_ft {l : List Ft} {i : Nat} (h : i < l.length) : (l.map ft).getD i .any = ft (l.getD i default) := getD_map h
/-- what becomes of a field's place -/
def goesF (m : List Eg) (a b : Tg) (r : Rf) : Ft :=
  if (traceT m a b r).2 = false then ⟨3, r, default⟩ else if keptT m a b r = true then ⟨1, r, (traceT m a b r).1⟩ else ⟨2, r, (traceT m a b r).1⟩
def endsM (m : List Eg) (a b : Tg) : PV := .tup [flds (if pathC m a b ≠ 0 then [] else (schM (treeOf m) a).1), flds (if pathC m a b ≠ 0 then [] else (schM (treeOf m) b).1), .int .i64 (pathC m a b)]
theorem fl2_dids (A B : List Fd) (c : Int) : (PV.tup [flds A, flds B, .int .i64 c]).dids = [] := by simp only [PV.dids, PV.didsL, flds_dids, List.append_nil]
set_option maxRecDepth 20000 in
set_option maxHeartbeats 8000000 in
theorem LEnds_pure (m : List Eg) (a b : Tg) (hm : OkM m) : PL.Pure Tryz.prog 27 [tr (treeOf m), tg a, tg b] (endsM m a b) := by
  have hSa := Schema_pure m a hm
  have hSb := Schema_pure m b hm
  unfold endsM pathC
  have ea : upC m a = (schM (treeOf m) a).2 := rfl
  have eb : upC m b = (schM (treeOf m) b).2 := rfl
  rw [ea, eb]
  generalize schM (treeOf m) a = ya at *
  generalize schM (treeOf m) b = yb at *
  obtain ⟨A, ca⟩ := ya
  obtain ⟨B, cb⟩ := yb
  simp only
  by_cases h1 : ca = 0
  · subst h1
    by_cases h2 : cb = 0
    · subst h2
      simp only [ne_eq, not_true_eq_false, if_false]
      refine PL.Pure.of_v Tryz.func27 (by decide) rfl Tryz.ntmps27 Tryz.results27 (by simp) (fl2_dids _ _ _) ?_
      simp only [go_sem, tr, tg]
      refine vCall_of (hSa) ?_ ?_ ?_; (focus simp only [go_sem, tr, tg]); (focus simp only [go_sem, tr, tg])
      simp only [go_sem, fldsc]
      refine vCall_of (hSb) ?_ ?_ ?_; (focus simp only [go_sem, tr, tg]); (focus simp only [go_sem, tr, tg])
      simp only [go_sem, fldsc, flds]
    · have h2' : (cb != 0) = true := by simpa using h2
      simp only [ne_eq, not_true_eq_false, if_false, h2, not_false_eq_true, if_true]
      refine PL.Pure.of_v Tryz.func27 (by decide) rfl Tryz.ntmps27 Tryz.results27 (by simp) (fl2_dids _ _ _) ?_
      simp only [go_sem, tr, tg]
      refine vCall_of (hSa) ?_ ?_ ?_; (focus simp only [go_sem, tr, tg]); (focus simp only [go_sem, tr, tg])
      simp only [go_sem, fldsc]
      refine vCall_of (hSb) ?_ ?_ ?_; (focus simp only [go_sem, tr, tg]); (focus simp only [go_sem, tr, tg])
      simp only [go_sem, fldsc, h2', flds, List.map_nil]
  · have h1' : (ca != 0) = true := by simpa using h1
    simp only [ne_eq, h1, not_false_eq_true, if_true]
    refine PL.Pure.of_v Tryz.func27 (by decide) rfl Tryz.ntmps27 Tryz.results27 (by simp) (fl2_dids _ _ _) ?_
    simp only [go_sem, tr, tg]
    refine vCall_of (hSa) ?_ ?_ ?_; (focus simp only [go_sem, tr, tg]); (focus simp only [go_sem, tr, tg])
    simp only [go_sem, fldsc, h1', flds, List.map_nil]
set_option maxRecDepth 20000 in
set_option maxHeartbeats 8000000 in
theorem LGoes_pure (m : List Eg) (a b : Tg) (r : Rf) (hm : OkM m) (hr : RightM m) (hc : pathC m a b = 0) : PL.Pure Tryz.prog 28 [tr (treeOf m), tg a, tg b, ref r] (ftc (goesF m a b r, 0)) := by
  have hT := TraceTo_pure m a b r hm hr
  have hK := KeptTo_pure m a b r hm hr
  rw [hc] at hT hK
  unfold goesF
  generalize traceT m a b r = t at *
  generalize keptT m a b r = kp at *
  obtain ⟨w, ok⟩ := t
  simp only
  cases ok
  · simp only [if_true]
    refine PL.Pure.of_v Tryz.func28 (by decide) rfl Tryz.ntmps28 Tryz.results28 (by simp) (ftc_dids _) ?_
    simp only [go_sem, tr, tg, ref]
    refine vCall_of (hT) ?_ ?_ ?_; (focus simp only [go_sem, tr, tg, ref]); (focus simp only [go_sem, tr, tg, ref])
    simp only [go_sem, trc, ref, ftc, ft]
    try rfl
  · simp only [Bool.true_eq_false, if_false]
    cases kp
    · simp only [Bool.false_eq_true, if_false]
      refine PL.Pure.of_v Tryz.func28 (by decide) rfl Tryz.ntmps28 Tryz.results28 (by simp) (ftc_dids _) ?_
      simp only [go_sem, tr, tg, ref]
      refine vCall_of (hT) ?_ ?_ ?_; (focus simp only [go_sem, tr, tg, ref]); (focus simp only [go_sem, tr, tg, ref])
      simp only [go_sem, trc, ref]
      refine vCall_of (hK) ?_ ?_ ?_; (focus simp only [go_sem, tr, tg, ref]); (focus simp only [go_sem, tr, tg, ref])
      simp only [go_sem, kpc, ftc, ft]
    · simp only [if_true]
      refine PL.Pure.of_v Tryz.func28 (by decide) rfl Tryz.ntmps28 Tryz.results28 (by simp) (ftc_dids _) ?_
      simp only [go_sem, tr, tg, ref]
      refine vCall_of (hT) ?_ ?_ ?_; (focus simp only [go_sem, tr, tg, ref]); (focus simp only [go_sem, tr, tg, ref])
      simp only [go_sem, trc, ref]
      refine vCall_of (hK) ?_ ?_ ?_; (focus simp only [go_sem, tr, tg, ref]); (focus simp only [go_sem, tr, tg, ref])
      simp only [go_sem, kpc, ftc, ft]
def metF (m : List Eg) (a b : Tg) (l : List Fd) : List Rf := (l.map fun f => goesF m a b f.at').filterMap fun x => if x.k = 3 then none else some x.to
def lateF (m : List Eg) (a b : Tg) (met : List Rf) (r : Rf) : Ft := ⟨if sureT m a b r = true then 4 else if r ∈ met then 5 else 6, r, default⟩
def fatesM (m : List Eg) (a b : Tg) : List Ft × Int :=
  if pathC m a b ≠ 0 then ([], pathC m a b) else (((schM (treeOf m) a).1.map fun f => goesF m a b f.at') ++ ((schM (treeOf m) b).1.map fun f => lateF m a b (metF m a b (schM (treeOf m) a).1) f.at'), 0)
theorem findP_refs (r : Rf) : ∀ (l : List Rf) (i : Nat), findP [.int, .str, .str] [.int .i64 r.sc, .str r.gr, .str r.nm] (l.map ref) i = some ((l.findIdx? fun x => decide (r = x)).map (· + i))
  | [], i => rfl
  | x :: l, i => by
    have ih := findP_refs r l (i + 1)
    simp only [List.map_cons, ref, findP, eqLeaves, eqLeaf, if_true, List.findIdx?_cons, Bool.and_true, ref_fold]
    try simp only [ref] at ih
    by_cases h : r = x
    · simp [h]
    · simp only [h, decide_false, ih]
      simp only [Bool.false_eq_true, if_false, Option.map_map]
      congr 2
      funext x
      simp; omega
theorem findP_refs0 (r : Rf) (l : List Rf) : findP [.int, .str, .str] [.int .i64 r.sc, .str r.gr, .str r.nm] (l.map ref) 0 = some (l.findIdx? fun x => decide (r = x)) := by
  rw [findP_refs]; congr 1; cases List.findIdx? (fun x => decide (r = x)) l <;> rfl
theorem metF_snoc (m : List Eg) (a b : Tg) {l : List Fd} {k : Nat} (h : k < l.length) : metF m a b (l.take (k + 1)) = metF m a b (l.take k) ++ (if (goesF m a b (l.getD k default).at').k = 3 then [] else [(goesF m a b (l.getD k default).at').to]) := by
  unfold metF
  rw [take_snoc (d := default) h, List.map_append, List.filterMap_append]
  congr 1
  simp only [List.map_cons, List.map_nil, List.filterMap_cons, List.filterMap_nil]
  split <;> simp_all
structure FaS (m : List Eg) (a b : Tg) (A : List Fd) where
  k : Nat
  ks : List Rf
  hk : k ≤ A.length
  h : ∀ r, r ∈ ks ↔ r ∈ metF m a b (A.take k)
theorem idx_mem {r : Rf} {l : List Rf} : (l.findIdx? fun x => decide (r = x)) = none ↔ r ∉ l := by
  rw [List.findIdx?_eq_none_iff]
  constructor
  · intro h hm; have := h r hm; simp at this
  · intro h x hx
    simp only [decide_eq_false_iff_not]
    rintro rfl
    exact h hx
end Go.Proofs.YtcomkajmhlhphaaGreat

set_option linter.unusedSimpArgs false
set_option linter.unusedVariables false
set_option linter.unusedSimpArgs false
set_option linter.unusedVariables false
namespace Go.Proofs.YtcomkajmhlhphaaGreat
open Go.PL
theorem okSchL {m : List Eg} {a : Tg} (hm : OkM m) (hu : upC m a = 0) : OkFs (schM (treeOf m) a).1 := by
  obtain ⟨wa, fa, _⟩ := live_way hu
  exact okFold _ (fun e he => hm.l e (wa.mem e he)) okRoot fa
theorem set_const {α : Type} (l : List α) (i : Nat) (c : PV) : (l.map fun _ => c).set i c = l.map fun _ => c := by
  apply List.ext_getElem
  · simp
  · intro j h1 h2
    simp [List.getElem_set]
theorem idx_lt {r : Rf} {l : List Rf} {i : Nat} (h : (l.findIdx? fun x => decide (r = x)) = some i) : i < l.length ∧ r ∈ l := by
  rw [List.findIdx?_eq_some_iff_getElem] at h
  obtain ⟨h1, h2, _⟩ := h
  have : r = l[i] := by simpa using h2
  exact ⟨h1, this ▸ List.getElem_mem h1⟩
theorem getD_const {α : Type} {l : List α} {i : Nat} (h : i < l.length) (c : PV) : (l.map fun _ => c).getD i .any = c := by
  rw [getD_lt (by simpa using h)]; simp
theorem sealL_ft (o : Nat → Option MapC) (l : List Ft) : PV.sealL o (l.map ft) = l.map ft := by
  induction l with
  | nil => rfl
  | cons x l ih => simp only [List.map_cons, PV.sealL, PV.shut, ft, ih]
def tcells (t : Tg) : List PV := [.int .i64 t.r, .int .i64 t.n]
set_option maxRecDepth 20000 in
set_option maxHeartbeats 32000000 in
theorem LFates_pure (m : List Eg) (a b : Tg) (hm : OkM m) (hr : RightM m) : PL.Pure Tryz.prog 11 [tr (treeOf m), tg a, tg b] (ftsc (fatesM m a b)) := by
  have hE := LEnds_pure m a b hm
  unfold endsM at hE
  unfold fatesM
  by_cases hc : pathC m a b = 0
  · have hG := fun r => LGoes_pure m a b r hm hr hc
    have hS := fun r => SureAt_pure m a b r hm hr
    have okA := okSchL hm (pathC_zero.1 hc).1
    have okB := okSchL hm (pathC_zero.1 hc).2
    have snoc : ∀ k, k < (schM (treeOf m) a).1.length → metF m a b ((schM (treeOf m) a).1.take (k + 1)) = metF m a b ((schM (treeOf m) a).1.take k) ++ (if (goesF m a b ((schM (treeOf m) a).1.getD k default).at').k = 3 then [] else [(goesF m a b ((schM (treeOf m) a).1.getD k default).at').to]) := fun k hk => metF_snoc m a b hk
    rw [hc] at hE hS ⊢
    simp only [ne_eq, not_true_eq_false, if_false] at hE ⊢
    generalize (schM (treeOf m) a).1 = A at *
    generalize (schM (treeOf m) b).1 = B at *
    have hAn := okA.n
    have hBn := okB.n
    have hAm : A.length ≤ maxLen := by rw [maxLen_eq]; omega
    have hBm : B.length ≤ maxLen := by rw [maxLen_eq]; omega
    refine PL.Pure.of_vs Tryz.func11 (by decide) rfl Tryz.ntmps11 Tryz.results11 (by simp) (ftsc_dids _) ?_
    simp only [go_sem, tr, tg]
    refine vCall_of (hE) ?_ ?_ ?_; (focus simp only [go_sem, tr, tg]); (focus simp only [go_sem, tr, tg])
    simp only [go_sem, flds]
    intro bm
    refine awp_nilRow 11 64 7 53 rfl rfl ?_
    refine vLoopO (ι := FaS m a b A) 102 (fun x => [(0, tr (treeOf m)), (4, .ptr 4 0), (5, .ptr 5 0), (9, flds B), (11, .sl (.row 64) (((A.take x.k).map fun f => goesF m a b f.at').map ft)), (12, .mref bm), (36, flds A), (37, .int .i64 (A.length : Int)), (38, .int .i64 (x.k : Int))])
      (fun x => [(4, tcells a, false), (5, tcells b, false)]) (fun x => [(64, .live x.k 7 53)]) (fun x => [(bm, ⟨x.ks.map ref, x.ks.map fun _ => .agg []⟩)]) (fun x => []) (fun x => A.length - x.k) ⟨0, [], Nat.zero_le _, fun r => by simp [metF]⟩
      ⟨⟨rfl, (forall_cons rfl (forall_cons rfl (forall_cons rfl (forall_cons rfl (forall_cons rfl (forall_cons rfl (forall_cons rfl (forall_cons rfl (forall_cons rfl (forall_nil)))))))))), forall_cons ⟨rfl, rfl⟩ (forall_cons ⟨rfl, rfl⟩ forall_nil), forall_cons rfl forall_nil⟩, forall_cons (by simp [upd, Hp.setq, St.with]) forall_nil, forall_nil⟩ (fun x => ⟨(forall_cons rfl (forall_cons rfl (forall_cons rfl (forall_cons rfl (forall_cons rfl (forall_cons rfl (forall_cons rfl (forall_cons rfl (forall_cons rfl (forall_nil)))))))))), forall_cons rfl (forall_cons rfl forall_nil)⟩) (fun x => ?_)
    obtain ⟨k, ks, hk, h⟩ := x
    simp only
    by_cases hlt : (k : Int) < (A.length : Int)
    · have hka : k < A.length := by omega
      have i0 : (0 : Int) ≤ (k : Int) := by omega
      have w1 : IntKind.i64.wrap ((k : Int) + 1) = ((k + 1 : Nat) : Int) := by rw [w64 (by omega)]; rfl
      have g1 := hG (A.getD k default).at'
      have hsn := snoc k hka
      have htk : ((A.take (k + 1)).map fun f => goesF m a b f.at') = ((A.take k).map fun f => goesF m a b f.at') ++ [goesF m a b (A.getD k default).at'] := by rw [take_snoc (d := default) hka, List.map_append]; rfl
      have hlk : ((A.take k).map fun f => goesF m a b f.at').length = k := by simp; omega
      have hrm := room1 (show k + 1 ≤ 1000000 by omega) (show 88 ≤ 1000 by omega)
      generalize goesF m a b (A.getD k default).at' = g at *
      have nx : ∀ (s' : St) (ks' : List Rf), (∀ r, r ∈ ks' ↔ r ∈ metF m a b (A.take (k + 1))) → HasO 102 [(0, tr (treeOf m)), (4, .ptr 4 0), (5, .ptr 5 0), (9, flds B), (11, .sl (.row 64) (((A.take (k + 1)).map fun f => goesF m a b f.at').map ft)), (12, .mref bm), (36, flds A), (37, .int .i64 (A.length : Int)), (38, .int .i64 ((k + 1 : Nat) : Int))]
          [(4, tcells a, false), (5, tcells b, false)] [(64, .live (k + 1) 7 53)] [(bm, ⟨ks'.map ref, ks'.map fun _ => .agg []⟩)] [] s' → ∃ j : FaS m a b A, A.length - j.k < A.length - k ∧ HasO 102 [(0, tr (treeOf m)), (4, .ptr 4 0), (5, .ptr 5 0), (9, flds B), (11, .sl (.row 64) (((A.take j.k).map fun f => goesF m a b f.at').map ft)), (12, .mref bm), (36, flds A), (37, .int .i64 (A.length : Int)), (38, .int .i64 (j.k : Int))]
          [(4, tcells a, false), (5, tcells b, false)] [(64, .live j.k 7 53)] [(bm, ⟨j.ks.map ref, j.ks.map fun _ => .agg []⟩)] [] s' := fun s' ks' hks hh => ⟨⟨k + 1, ks', by omega, hks⟩, by show A.length - (k + 1) < A.length - k; omega, hh⟩
      by_cases k3 : g.k = 3
      · have e3 : (g.k != 3) = false := by simpa using k3
        rw [if_pos k3, List.append_nil] at hsn
        simp only [go_sem, flds, hlt, List.length_map, getD_fld hka, fld, i0, tcells]
        refine vCall_of (g1) ?_ ?_ ?_; (focus simp only [go_sem, tr, tg, ref]); (focus simp only [go_sem, tr, tg, ref])
        simp only [go_sem, ftc, ft, e3, sized_ft, List.length_map, hlk, hrm, w1]
        refine nx _ ks (by rw [hsn]; exact h) ⟨⟨rfl, (forall_cons rfl (forall_cons rfl (forall_cons rfl (forall_cons rfl (forall_cons ?_ (forall_cons rfl (forall_cons rfl (forall_cons rfl (forall_cons rfl forall_nil))))))))), forall_cons ⟨rfl, rfl⟩ (forall_cons ⟨rfl, rfl⟩ forall_nil), forall_cons rfl forall_nil⟩, forall_cons ?_ forall_nil, forall_nil⟩
        · show PV.sl _ _ = PV.sl _ _
          rw [htk, List.map_append]; rfl
        · simp [upd, Hp.setq, St.with]
      · have e3 : (g.k != 3) = true := by simpa using k3
        rw [if_neg k3] at hsn
        cases hf : ks.findIdx? (fun x => decide (g.to = x)) with
        | none =>
          simp only [go_sem, flds, hlt, List.length_map, getD_fld hka, fld, i0, tcells]
          refine vCall_of (g1) ?_ ?_ ?_; (focus simp only [go_sem, tr, tg, ref]); (focus simp only [go_sem, tr, tg, ref])
          simp only [go_sem, ftc, ft, e3, findP_refs0, hf, sized_ft, List.length_map, hlk, hrm, w1]
          refine nx _ (ks ++ [g.to]) (fun r => by rw [hsn, List.mem_append, List.mem_append, h]) ⟨⟨rfl, (forall_cons rfl (forall_cons rfl (forall_cons rfl (forall_cons rfl (forall_cons ?_ (forall_cons rfl (forall_cons rfl (forall_cons rfl (forall_cons rfl forall_nil))))))))), forall_cons ⟨rfl, rfl⟩ (forall_cons ⟨rfl, rfl⟩ forall_nil), forall_cons rfl forall_nil⟩, forall_cons ?_ forall_nil, forall_nil⟩
          · show PV.sl _ _ = PV.sl _ _
            rw [htk, List.map_append]; rfl
          · simp [upd, Hp.setq, St.with, ref]
        | some i =>
          simp only [go_sem, flds, hlt, List.length_map, getD_fld hka, fld, i0, tcells]
          refine vCall_of (g1) ?_ ?_ ?_; (focus simp only [go_sem, tr, tg, ref]); (focus simp only [go_sem, tr, tg, ref])
          simp only [go_sem, ftc, ft, e3, findP_refs0, hf, sized_ft, List.length_map, hlk, hrm, w1]
          have hin : g.to ∈ ks := Classical.not_not.1 fun hn => by rw [idx_mem.2 hn] at hf; cases hf
          refine nx _ ks (fun r => by
            rw [hsn, List.mem_append, ← h]
            constructor
            · exact .inl
            · rintro (e | e)
              · exact e
              · rw [List.mem_singleton.1 e]; exact hin) ⟨⟨rfl, (forall_cons rfl (forall_cons rfl (forall_cons rfl (forall_cons rfl (forall_cons ?_ (forall_cons rfl (forall_cons rfl (forall_cons rfl (forall_cons rfl forall_nil))))))))), forall_cons ⟨rfl, rfl⟩ (forall_cons ⟨rfl, rfl⟩ forall_nil), forall_cons rfl forall_nil⟩, forall_cons ?_ forall_nil, forall_nil⟩
          · show PV.sl _ _ = PV.sl _ _
            rw [htk, List.map_append]; rfl
          · simp [upd, Hp.setq, St.with, set_const]
    · obtain rfl : k = A.length := by omega
      have htl : A.take A.length = A := List.take_length
      rw [htl] at h
      have hla : (A.map fun f => goesF m a b f.at').length = A.length := by simp
      simp only [go_sem, flds, hlt, htl, List.length_map]
      refine awp_moveRow 11 64 99 A.length 7 53 ((A.map fun f => goesF m a b f.at').map ft) rfl rfl rfl ?_
      refine vLoopO (ι := { k : Nat // k ≤ B.length }) 102 (fun x => [(0, tr (treeOf m)), (4, .ptr 4 0), (5, .ptr 5 0), (11, .sl (.row 99) (((A.map fun f => goesF m a b f.at') ++ ((B.take x.1).map fun f => lateF m a b (metF m a b A) f.at')).map ft)), (12, .mref bm), (66, flds B), (67, .int .i64 (B.length : Int)), (68, .int .i64 (x.1 : Int))])
        (fun x => [(4, tcells a, false), (5, tcells b, false)]) (fun x => [(99, .live (A.length + x.1) 7 53)]) (fun x => [(bm, ⟨ks.map ref, ks.map fun _ => .agg []⟩)]) (fun x => []) (fun x => B.length - x.1) ⟨0, Nat.zero_le _⟩
        ⟨⟨rfl, (forall_cons rfl (forall_cons rfl (forall_cons rfl (forall_cons ?_ (forall_cons rfl (forall_cons rfl (forall_cons ?_ (forall_cons rfl forall_nil)))))))), forall_cons ⟨rfl, rfl⟩ (forall_cons ⟨rfl, rfl⟩ forall_nil), forall_cons rfl forall_nil⟩, forall_cons (by simp [upd, Hp.setq, St.with, mkStO, upds]) forall_nil, forall_nil⟩ (fun x => ⟨(forall_cons rfl (forall_cons rfl (forall_cons rfl (forall_cons rfl (forall_cons rfl (forall_cons rfl (forall_cons rfl (forall_cons rfl (forall_nil))))))))), forall_cons rfl (forall_cons rfl forall_nil)⟩) (fun x => ?_)
      · show PV.sl _ _ = PV.sl _ _
        simp
      · simp [upd, Hp.setq, St.with, mkStO, upds, flds]
      obtain ⟨j, hj⟩ := x
      simp only
      by_cases hjt : (j : Int) < (B.length : Int)
      · have hja : j < B.length := by omega
        have i0 : (0 : Int) ≤ (j : Int) := by omega
        have w1 : IntKind.i64.wrap ((j : Int) + 1) = ((j + 1 : Nat) : Int) := by rw [w64 (by omega)]; rfl
        have s1 := hS (B.getD j default).at'
        have hsnB : (A.map fun f => goesF m a b f.at') ++ ((B.take (j + 1)).map fun f => lateF m a b (metF m a b A) f.at') = ((A.map fun f => goesF m a b f.at') ++ ((B.take j).map fun f => lateF m a b (metF m a b A) f.at')) ++ [lateF m a b (metF m a b A) (B.getD j default).at'] := by rw [take_snoc (d := default) hja, List.map_append, List.append_assoc]; rfl
        have hll : ((A.map fun f => goesF m a b f.at') ++ ((B.take j).map fun f => lateF m a b (metF m a b A) f.at')).length = A.length + j := by simp; omega
        have hrm := room1 (show A.length + j + 1 ≤ 1000000 by omega) (show 88 ≤ 1000 by omega)
        have nx : ∀ (s' : St), HasO 102 [(0, tr (treeOf m)), (4, .ptr 4 0), (5, .ptr 5 0), (11, .sl (.row 99) (((A.map fun f => goesF m a b f.at') ++ ((B.take (j + 1)).map fun f => lateF m a b (metF m a b A) f.at')).map ft)), (12, .mref bm), (66, flds B), (67, .int .i64 (B.length : Int)), (68, .int .i64 ((j + 1 : Nat) : Int))]
            [(4, tcells a, false), (5, tcells b, false)] [(99, .live (A.length + (j + 1)) 7 53)] [(bm, ⟨ks.map ref, ks.map fun _ => .agg []⟩)] [] s' → ∃ x : { k : Nat // k ≤ B.length }, B.length - x.1 < B.length - j ∧ HasO 102 [(0, tr (treeOf m)), (4, .ptr 4 0), (5, .ptr 5 0), (11, .sl (.row 99) (((A.map fun f => goesF m a b f.at') ++ ((B.take x.1).map fun f => lateF m a b (metF m a b A) f.at')).map ft)), (12, .mref bm), (66, flds B), (67, .int .i64 (B.length : Int)), (68, .int .i64 (x.1 : Int))]
            [(4, tcells a, false), (5, tcells b, false)] [(99, .live (A.length + x.1) 7 53)] [(bm, ⟨ks.map ref, ks.map fun _ => .agg []⟩)] [] s' := fun s' hh => ⟨⟨j + 1, by omega⟩, by show B.length - (j + 1) < B.length - j; omega, hh⟩
        have hlate : lateF m a b (metF m a b A) (B.getD j default).at' = ⟨if sureT m a b (B.getD j default).at' = true then 4 else if (B.getD j default).at' ∈ ks then 5 else 6, (B.getD j default).at', default⟩ := by
          unfold lateF
          simp only [h]
        rw [hlate] at hsnB
        clear hlate
        generalize sureT m a b (B.getD j default).at' = su at *
        cases hf : ks.findIdx? (fun x => decide ((B.getD j default).at' = x)) with
        | none =>
          rw [if_neg (idx_mem.1 hf)] at hsnB
          cases su
          all_goals
            simp only [go_sem, flds, hjt, List.length_map, getD_fld hja, fld, i0, tcells]
            refine vCall_of (s1) ?_ ?_ ?_; (focus simp only [go_sem, tr, tg, ref]); (focus simp only [go_sem, tr, tg, ref])
            simp only [go_sem, kpc, findP_refs0, hf, sized_ft, List.length_map, hll, hrm, w1]
            refine nx _ ⟨⟨rfl, (forall_cons rfl (forall_cons rfl (forall_cons rfl (forall_cons ?_ (forall_cons rfl (forall_cons rfl (forall_cons rfl (forall_cons rfl forall_nil)))))))), forall_cons ⟨rfl, rfl⟩ (forall_cons ⟨rfl, rfl⟩ forall_nil), forall_cons rfl forall_nil⟩, forall_cons (by simp [upd, Hp.setq, St.with]) forall_nil, forall_nil⟩
            show PV.sl _ _ = PV.sl _ _
            rw [hsnB]
            simp only [List.map_append, List.map_cons, List.map_nil]
            rfl
        | some i =>
          obtain ⟨hi, hin⟩ := idx_lt hf
          rw [if_pos hin] at hsnB
          have hgc := getD_const hi (.agg [])
          cases su
          all_goals
            simp only [go_sem, flds, hjt, List.length_map, getD_fld hja, fld, i0, tcells]
            refine vCall_of (s1) ?_ ?_ ?_; (focus simp only [go_sem, tr, tg, ref]); (focus simp only [go_sem, tr, tg, ref])
            simp only [go_sem, kpc, findP_refs0, hf, hgc, sized_ft, List.length_map, hll, hrm, w1]
            refine nx _ ⟨⟨rfl, (forall_cons rfl (forall_cons rfl (forall_cons rfl (forall_cons ?_ (forall_cons rfl (forall_cons rfl (forall_cons rfl (forall_cons rfl forall_nil)))))))), forall_cons ⟨rfl, rfl⟩ (forall_cons ⟨rfl, rfl⟩ forall_nil), forall_cons rfl forall_nil⟩, forall_cons (by simp [upd, Hp.setq, St.with]) forall_nil, forall_nil⟩
            show PV.sl _ _ = PV.sl _ _
            rw [hsnB]
            simp only [List.map_append, List.map_cons, List.map_nil]
            rfl
      · obtain rfl : j = B.length := by omega
        have htb : B.take B.length = B := List.take_length
        simp only [go_sem, flds, hjt, htb, List.length_map]
        exact ⟨_, rfl, by simp only [ftsc, fts, PV.shut, PV.sealL, sealL_ft]⟩
  · have hc' : (pathC m a b != 0) = true := by simpa using hc
    simp only [ne_eq, hc, not_false_eq_true, if_true] at hE ⊢
    refine PL.Pure.of_v Tryz.func11 (by decide) rfl Tryz.ntmps11 Tryz.results11 (by simp) (ftsc_dids _) ?_
    simp only [go_sem, tr, tg]
    refine vCall_of (hE) ?_ ?_ ?_; (focus simp only [go_sem, tr, tg]); (focus simp only [go_sem, tr, tg])
    simp only [go_sem, flds, List.map_nil, hc', ftsc, fts]
end Go.Proofs.YtcomkajmhlhphaaGreat
