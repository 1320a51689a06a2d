/- Contracts of functions and laws of this seat, each for every input that it names: lemmas of the proof. -/
import Derived.Test.YtnadlkjmdimjkaaGreatXCt
import Derived.Test.YtnadlkjmdimjkaaGreatXBk
set_option linter.unusedSimpArgs false
set_option linter.unusedVariables false
set_option linter.unusedSimpArgs false
set_option linter.unusedVariables false
namespace Go.Proofs.YtnadlkjmdimjkaaGreat
open Go.PL
structure AoS (row : List Ln) (o0 : Opn) where
  k : Nat
  o : Opn
  hk : k ≤ row.length
  ok : OkOp o
  h : alongO (row.drop k) o = alongO row o0
def zcells : List PV := [.int .i64 0, .int .i64 0, .int .i64 0, .int .i64 0, .int .i64 0, .str [], .int .i64 0, .str [], .int .i64 0, .str [], .str [], .int .i64 0, .bool false, .str [], .sl .nil []]
set_option maxRecDepth 20000 in
set_option maxHeartbeats 16000000 in
theorem SAlong_pure (row : List Ln) (o : Opn) (hl : row.length ≤ 1000) (hx : ∀ x ∈ row, OkLn x) (ho : OkOp o) : PL.Pure Tryz.prog 124 [lnss row, opv o] (opb (alongO row o)) := by
  have hW := sown_pure o ho
  refine PL.Pure.of_v Tryz.func124 (by decide) rfl Tryz.ntmps124 Tryz.results124 (by simp) (opb_dids _) ?_
  simp only [go_sem, lnss, opv]
  refine vScopeM (ι := AoS row o) 31 (fun x => [(0, lnss row), (3, .ptr 3 0), (4, .ptr 4 0), (6, .int .i64 (x.k : Int))]) (fun x => [(3, ocells x.o, false), (4, zcells, false)]) (fun x => []) (fun x => row.length - x.k) 0 _ (by exact rfl) (fun x => ⟨(forall_cons rfl (forall_cons rfl (forall_cons rfl (forall_cons rfl (forall_nil))))), forall_cons rfl (forall_cons rfl forall_nil)⟩) (fun x => ?_) (fun cut => ?_)
  · obtain ⟨k, p, hk, ok, h⟩ := x
    simp only
    by_cases he : k = row.length
    · have hb : ((k : Int) == (row.length : Int)) = true := by simp [he]
      have hd : alongO row o = (p, true) := by rw [← h, he, List.drop_length]; rfl
      simp only [go_sem, lnss, List.length_map, hb, hd, opb, opv, ocells, zcells]
    · have hb : ((k : Int) == (row.length : Int)) = false := by simp; omega
      have hka : k < row.length := by omega
      have i0 : (0 : Int) ≤ (k : Int) := by omega
      have i1 : (k : Int) < (row.length : Int) := by omega
      have w1 : IntKind.i64.wrap ((k : Int) + 1) = ((k + 1 : Nat) : Int) := by rw [w64 (by omega)]; rfl
      have hT := Over_pure (row.getD k default) p (hx _ (getD_mem (d := default) hka)) ok
      have okn := over_okD (x := row.getD k default) ok
      rw [drop_ln hka, alongO_cons] at h
      cases hz : (overM (row.getD k default) p).2
      · rw [if_pos hz] at h
        simp only [go_sem, lnss, List.length_map, hb]
        refine vDrawQ (by kernel_rfl) (by kernel_rfl) ?_
        simp only [go_sem, getD_ln hka, lns, i0, i1, ocells, opv]
        refine vCall_of (hT) ?_ ?_ ?_; iterate 2 simp only [go_sem, lns, opv]
        simp only [go_sem, opb, opv, hz, ← h, zcells]
        try rfl
      · rw [if_neg (by rw [hz]; simp)] at h
        simp only [go_sem, lnss, List.length_map, hb]
        refine vDrawQ (by kernel_rfl) (by kernel_rfl) ?_
        simp only [go_sem, getD_ln hka, lns, i0, i1, ocells, opv]
        refine vCall_of (hT) ?_ ?_ ?_; iterate 2 simp only [go_sem, lns, opv]
        simp only [go_sem, opb, opv, hz, w1, zcells]
        exact ⟨⟨k + 1, (overM (row.getD k default) p).1, by omega, okn, h⟩, by show row.length - (k + 1) < row.length - k; omega, ⟨rfl, (forall_cons rfl (forall_cons rfl (forall_cons rfl (forall_cons rfl (forall_nil))))), forall_cons ⟨rfl, rfl⟩ (forall_cons ⟨rfl, rfl⟩ forall_nil), forall_nil⟩⟩
  · simp only [go_sem]
    refine vCall_of (hW) ?_ ?_ ?_; iterate 2 simp only [go_sem, opv]
    simp only [go_sem, opv]
    exact awp_label_seq (cut ⟨0, o, Nat.zero_le _, ho, rfl⟩ _ ⟨rfl, (forall_cons rfl (forall_cons rfl (forall_cons rfl (forall_cons rfl (forall_nil))))), forall_cons ⟨rfl, rfl⟩ (forall_cons ⟨rfl, rfl⟩ forall_nil), forall_nil⟩)
theorem along_ok : ∀ (xs : List Ln) {o : Opn}, OkOp o → OkOp (alongO xs o).1
  | [], o, h => h
  | x :: xs, o, h => by
    rw [alongO_cons]
    split
    · exact ⟨Nat.zero_le _⟩
    · exact along_ok xs (over_okD h)
theorem sch_ok {o : Opn} (h : OkOp o) (t : Tg) : OkOp (schO o t) := ⟨h.d⟩
theorem def_ok : OkOp (default : Opn) := ⟨Nat.zero_le _⟩
theorem way_ok {m : List Eg} {a b : Tg} {o : Opn} (h : OkOp o) : OkOp (wayO m a b o).1 := by
  unfold wayO
  split
  · exact def_ok
  · split
    · exact def_ok
    · exact sch_ok (along_ok _ h) _
theorem to_okO {m : List Eg} {b : Tg} {o : Opn} (h : OkOp o) : OkOp (toT m o b).o := by
  unfold toT
  split
  · exact def_ok
  · exact way_ok h
theorem OkOp.len {o : Opn} (h : OkOp o) : o.drops.length ≤ maxLen := by have := h.d; rw [maxLen_eq]; omega
set_option maxRecDepth 20000 in
set_option maxHeartbeats 16000000 in
theorem talong_pure (m : List Eg) (o : Opn) (a b : Tg) (hm : OkM m) (hr : RightM m) (ho : OkOp o) : PL.Pure Tryz.prog 63 [tr (treeOf m), opv o, tg a, tg b] (opb (wayO m a b o)) := by
  have hR := Row_pure m a b hm hr
  obtain ⟨hrl, hro⟩ := row_ok (a := a) (b := b) hm
  have hA := SAlong_pure (rowM m a b).1 o hrl hro ho
  have hc2 : (rowM m a b).2 = pathC m a b := by unfold rowM; split <;> simp_all
  unfold wayO
  by_cases hc : pathC m a b = 0
  · rw [if_neg (fun h => h hc)]
    rw [hc] at hc2
    generalize rowM m a b = rw0 at *
    obtain ⟨row, c0⟩ := rw0
    simp only at hc2 hrl hro hA ⊢
    subst hc2
    cases hz : (alongO row o).2
    · simp only [if_true]
      refine PL.Pure.of_v Tryz.func63 (by decide) rfl Tryz.ntmps63 Tryz.results63 (by simp) (opb_dids _) ?_
      simp only [go_sem, tr, tg, opv]
      refine vCall_of (hR) ?_ ?_ ?_; iterate 2 simp only [go_sem, tr, tg]
      simp only [go_sem, lnsc, lnss]
      refine vCall_of (hA) ?_ ?_ ?_; iterate 2 simp only [go_sem, lnss, opv]
      simp only [go_sem, opb, opv, hz]
      try rfl
    · simp only [Bool.true_eq_false, if_false]
      refine PL.Pure.of_v Tryz.func63 (by decide) rfl Tryz.ntmps63 Tryz.results63 (by simp) (opb_dids _) ?_
      simp only [go_sem, tr, tg, opv]
      refine vCall_of (hR) ?_ ?_ ?_; iterate 2 simp only [go_sem, tr, tg]
      simp only [go_sem, lnsc, lnss]
      refine vCall_of (hA) ?_ ?_ ?_; iterate 2 simp only [go_sem, lnss, opv]
      simp only [go_sem, opb, opv, hz, schO]
  · have hc' : (pathC m a b != 0) = true := by simpa using hc
    rw [if_pos hc]
    refine PL.Pure.of_v Tryz.func63 (by decide) rfl Tryz.ntmps63 Tryz.results63 (by simp) (opb_dids _) ?_
    simp only [go_sem, tr, tg, opv]
    refine vCall_of (hR) ?_ ?_ ?_; iterate 2 simp only [go_sem, tr, tg]
    simp only [go_sem, lnsc, lnss, hc2, hc', opb, opv_default]
    try rfl
def seenv (x : SeenT) : PV := .tup [opv x.o, .bool x.ok, .int .i64 x.c]
theorem seenv_dids (x : SeenT) : (seenv x).dids = [] := by simp only [seenv, PV.dids, PV.didsL, opv_dids, List.append_nil]
theorem okSchO {m : List Eg} {a : Tg} (hm : OkM m) (hu : upC m a = 0) : OkFs (schM (treeOf m) a).1 := by
  obtain ⟨wa, fa, _⟩ := live_way hu
  exact okFold _ (fun e he => hm.l e (wa.mem e he)) okRoot fa
set_option maxRecDepth 20000 in
set_option maxHeartbeats 16000000 in
theorem TrTo_pure (m : List Eg) (o : Opn) (b : Tg) (hm : OkM m) (hr : RightM m) (ho : OkOp o) : PL.Pure Tryz.prog 25 [tr (treeOf m), opv o, tg b] (seenv (toT m o b)) := by
  have hR := ORight_pure o ho.len
  have hSa := Schema_pure m o.sch hm
  have hSb := Schema_pure m b hm
  have hA := talong_pure m o o.sch b hm hr ho
  cases h1 : rightO o
  · rw [h1] at hR
    have ht : toT m o b = ⟨default, false, 5⟩ := by simp [toT, checkO, h1]
    rw [ht]
    refine PL.Pure.of_v Tryz.func25 (by decide) rfl Tryz.ntmps25 Tryz.results25 (by simp) (seenv_dids _) ?_
    simp only [go_sem, tr, tg, opv]
    refine vCall_of (hR) ?_ ?_ ?_; iterate 2 simp only [go_sem, opv]
    simp only [go_sem, seenv, opv_default]
    try rfl
  rw [h1] at hR
  by_cases h2 : upC m o.sch = 0
  · have okA := okSchO hm h2
    have hF := OFits_pure (schM (treeOf m) o.sch).1 o okA ho.len
    have v2 : (schM (treeOf m) o.sch).2 = 0 := h2
    by_cases h3 : upC m b = 0
    · have v3 : (schM (treeOf m) b).2 = 0 := h3
      cases h4 : fitsO (schM (treeOf m) o.sch).1 o
      · rw [h4] at hF
        have ht : toT m o b = ⟨default, false, 16⟩ := by simp [toT, checkO, h1, h2, h3, h4]
        rw [ht]
        clear ht h4 h2 h3 okA hA
        generalize schM (treeOf m) o.sch = ya at *
        obtain ⟨A, ca⟩ := ya
        generalize schM (treeOf m) b = yb at *
        obtain ⟨B, cb⟩ := yb
        simp only at v2 v3 hF
        subst v2 v3
        refine PL.Pure.of_v Tryz.func25 (by decide) rfl Tryz.ntmps25 Tryz.results25 (by simp) (seenv_dids _) ?_
        simp only [go_sem, tr, tg, opv]
        refine vCall_of (hR) ?_ ?_ ?_; iterate 2 simp only [go_sem, opv]
        simp only [go_sem]
        refine vCall_of (hSa) ?_ ?_ ?_; iterate 2 simp only [go_sem, tr, tg]
        simp only [go_sem, fldsc, flds]
        refine vCall_of (hSb) ?_ ?_ ?_; iterate 2 simp only [go_sem, tr, tg]
        simp only [go_sem, fldsc, flds]
        refine vCall_of (hF) ?_ ?_ ?_; iterate 2 simp only [go_sem, flds, opv]
        simp only [go_sem, seenv, opv_default]
        try rfl
      · rw [h4] at hF
        have ht : toT m o b = ⟨(wayO m o.sch b o).1, (wayO m o.sch b o).2, 0⟩ := by simp [toT, checkO, h1, h2, h3, h4]
        rw [ht]
        clear ht h4 h2 h3 okA
        generalize wayO m o.sch b o = yw at *
        obtain ⟨wq, wk⟩ := yw
        generalize schM (treeOf m) o.sch = ya at *
        obtain ⟨A, ca⟩ := ya
        generalize schM (treeOf m) b = yb at *
        obtain ⟨B, cb⟩ := yb
        simp only at v2 v3 hF
        subst v2 v3
        refine PL.Pure.of_v Tryz.func25 (by decide) rfl Tryz.ntmps25 Tryz.results25 (by simp) (seenv_dids _) ?_
        simp only [go_sem, tr, tg, opv]
        refine vCall_of (hR) ?_ ?_ ?_; iterate 2 simp only [go_sem, opv]
        simp only [go_sem]
        refine vCall_of (hSa) ?_ ?_ ?_; iterate 2 simp only [go_sem, tr, tg]
        simp only [go_sem, fldsc, flds]
        refine vCall_of (hSb) ?_ ?_ ?_; iterate 2 simp only [go_sem, tr, tg]
        simp only [go_sem, fldsc, flds]
        refine vCall_of (hF) ?_ ?_ ?_; iterate 2 simp only [go_sem, flds, opv]
        simp only [go_sem]
        refine vCall_of (hA) ?_ ?_ ?_; iterate 2 simp only [go_sem, tr, opv, tg]
        simp only [go_sem, opb, opv, seenv]
    · have v3 : ((schM (treeOf m) b).2 != 0) = true := by have h' : (schM (treeOf m) b).2 ≠ 0 := h3; simpa using h'
      have ht : toT m o b = ⟨default, false, (schM (treeOf m) b).2⟩ := by
        have e : upC m b = (schM (treeOf m) b).2 := rfl
        rw [← e]; simp [toT, checkO, h1, h2, h3]
      rw [ht]
      clear ht h2 h3 okA hA
      generalize schM (treeOf m) o.sch = ya at *
      obtain ⟨A, ca⟩ := ya
      generalize schM (treeOf m) b = yb at *
      obtain ⟨B, cb⟩ := yb
      simp only at v2 v3 hF
      subst v2
      refine PL.Pure.of_v Tryz.func25 (by decide) rfl Tryz.ntmps25 Tryz.results25 (by simp) (seenv_dids _) ?_
      simp only [go_sem, tr, tg, opv]
      refine vCall_of (hR) ?_ ?_ ?_; iterate 2 simp only [go_sem, opv]
      simp only [go_sem]
      refine vCall_of (hSa) ?_ ?_ ?_; iterate 2 simp only [go_sem, tr, tg]
      simp only [go_sem, fldsc, flds]
      refine vCall_of (hSb) ?_ ?_ ?_; iterate 2 simp only [go_sem, tr, tg]
      simp only [go_sem, fldsc, flds, v3, seenv, opv_default]
      try rfl
  · have v2 : ((schM (treeOf m) o.sch).2 != 0) = true := by have h' : (schM (treeOf m) o.sch).2 ≠ 0 := h2; simpa using h'
    have ht : toT m o b = ⟨default, false, (schM (treeOf m) o.sch).2⟩ := by
      have e : upC m o.sch = (schM (treeOf m) o.sch).2 := rfl
      rw [← e]; simp [toT, checkO, h1, h2]
    rw [ht]
    clear ht h2 hA
    generalize schM (treeOf m) o.sch = ya at *
    obtain ⟨A, ca⟩ := ya
    simp only at v2
    refine PL.Pure.of_v Tryz.func25 (by decide) rfl Tryz.ntmps25 Tryz.results25 (by simp) (seenv_dids _) ?_
    simp only [go_sem, tr, tg, opv]
    refine vCall_of (hR) ?_ ?_ ?_; iterate 2 simp only [go_sem, opv]
    simp only [go_sem]
    refine vCall_of (hSa) ?_ ?_ ?_; iterate 2 simp only [go_sem, tr, tg]
    simp only [go_sem, fldsc, flds, v2, seenv, opv_default]
    try rfl
set_option maxRecDepth 20000 in
set_option maxHeartbeats 16000000 in
theorem TrRound_pure (m : List Eg) (o : Opn) (b : Tg) (hm : OkM m) (hr : RightM m) (ho : OkOp o) : PL.Pure Tryz.prog 26 [tr (treeOf m), opv o, tg b] (seenv (roundT m o b)) := by
  have hT := TrTo_pure m o b hm hr ho
  have okt := to_okO (m := m) (b := b) ho
  have hA := talong_pure m (toT m o b).o b o.sch hm hr okt
  unfold roundT
  generalize toT m o b = t at *
  obtain ⟨q, ok, c⟩ := t
  simp only at hA okt ⊢
  by_cases hc : c = 0
  · subst hc
    cases ok
    · refine PL.Pure.of_v Tryz.func26 (by decide) rfl Tryz.ntmps26 Tryz.results26 (by simp) (seenv_dids _) ?_
      simp only [go_sem, tr, tg, opv]
      refine vCall_of (hT) ?_ ?_ ?_; iterate 2 simp only [go_sem, tr, tg, opv]
      simp only [go_sem, seenv, opv, opv_default, or_true, if_true]
      try rfl
    · refine PL.Pure.of_v Tryz.func26 (by decide) rfl Tryz.ntmps26 Tryz.results26 (by simp) (seenv_dids _) ?_
      simp only [go_sem, tr, tg, opv]
      refine vCall_of (hT) ?_ ?_ ?_; iterate 2 simp only [go_sem, tr, tg, opv]
      simp only [go_sem, seenv, opv]
      refine vCall_of (hA) ?_ ?_ ?_; iterate 2 simp only [go_sem, tr, opv, tg]
      simp only [go_sem, opb, opv, Bool.true_eq_false, or_false, if_false, ne_eq, not_true_eq_false, seenv]
  · have hc' : (c != 0) = true := by simpa using hc
    rw [if_pos (.inl hc)]
    refine PL.Pure.of_v Tryz.func26 (by decide) rfl Tryz.ntmps26 Tryz.results26 (by simp) (seenv_dids _) ?_
    simp only [go_sem, tr, tg, opv]
    refine vCall_of (hT) ?_ ?_ ?_; iterate 2 simp only [go_sem, tr, tg, opv]
    simp only [go_sem, seenv, opv, opv_default, hc']
    try rfl
set_option maxRecDepth 20000 in
set_option maxHeartbeats 16000000 in
theorem TrRead_pure (m : List Eg) (o : Opn) (hm : OkM m) (ho : OkOp o) : PL.Pure Tryz.prog 27 [tr (treeOf m), opv o] (.bool (readO m o)) := by
  have hR := ORight_pure o ho.len
  have hSa := Schema_pure m o.sch hm
  unfold readO
  cases h1 : rightO o
  · rw [h1] at hR
    refine PL.Pure.of_v Tryz.func27 (by decide) rfl Tryz.ntmps27 Tryz.results27 (by simp) rfl ?_
    simp only [go_sem, tr, opv]
    refine vCall_of (hR) ?_ ?_ ?_; iterate 2 simp only [go_sem, opv]
    simp only [go_sem, Bool.false_and]
  rw [h1] at hR
  by_cases h2 : upC m o.sch = 0
  · have hF := OFits_pure (schM (treeOf m) o.sch).1 o (okSchO hm h2) ho.len
    rw [decide_eq_true h2]
    have v2 : (schM (treeOf m) o.sch).2 = 0 := h2
    generalize schM (treeOf m) o.sch = ya at *
    obtain ⟨A, ca⟩ := ya
    simp only at v2 hF
    subst v2
    refine PL.Pure.of_v Tryz.func27 (by decide) rfl Tryz.ntmps27 Tryz.results27 (by simp) rfl ?_
    simp only [go_sem, tr, opv]
    refine vCall_of (hR) ?_ ?_ ?_; iterate 2 simp only [go_sem, opv]
    simp only [go_sem, tg]
    refine vCall_of (hSa) ?_ ?_ ?_; iterate 2 simp only [go_sem, tr, tg]
    simp only [go_sem, fldsc, flds]
    refine vCall_of (hF) ?_ ?_ ?_; iterate 2 simp only [go_sem, flds, opv]
    simp only [go_sem, Bool.true_and]
  · have v2 : ((schM (treeOf m) o.sch).2 == 0) = false := by have h' : (schM (treeOf m) o.sch).2 ≠ 0 := h2; simpa using h'
    rw [decide_eq_false h2]
    refine PL.Pure.of_v Tryz.func27 (by decide) rfl Tryz.ntmps27 Tryz.results27 (by simp) rfl ?_
    simp only [go_sem, tr, opv]
    refine vCall_of (hR) ?_ ?_ ?_; iterate 2 simp only [go_sem, opv]
    simp only [go_sem, tg]
    refine vCall_of (hSa) ?_ ?_ ?_; iterate 2 simp only [go_sem, tr, tg]
    simp only [go_sem, fldsc, flds, v2, Bool.false_and, Bool.and_false]
end Go.Proofs.YtnadlkjmdimjkaaGreat

set_option linter.unusedSimpArgs false
set_option linter.unusedVariables false
set_option linter.unusedSimpArgs false
set_option linter.unusedVariables false
namespace Go.Proofs.YtnadlkjmdimjkaaGreat
open Go.PL
set_option maxRecDepth 20000 in
set_option maxHeartbeats 8000000 in
theorem fitAll_pure (f : Fd) (l : List Str) (hf : f.cases'.length ≤ maxLen) (hl : l.length ≤ maxLen) : PL.Pure Tryz.prog 215 [fld f, strs l] (.bool (l.all (fitsF f))) := by
  refine PL.Pure.of_v Tryz.func215 (by decide) rfl Tryz.ntmps215 Tryz.results215 (by simp) rfl ?_
  simp only [go_sem, fld, strs]
  refine vLoopM (ι := { x : Nat // x ≤ (l).length ∧ (∀ j, j < x → fitsF f (l.getD j []) = true) }) 18 (fun x => [(2, .ptr 2 0), (7, strs l), (8, .int .i64 (l.length : Int)), (9, .int .i64 (x.1 : Int))]) (fun x => [(2, fcells f, false)]) (fun x => []) (fun x => (l).length - x.1) ⟨0, Nat.zero_le _, fun j hj => absurd hj (Nat.not_lt_zero j)⟩ ⟨rfl, (forall_cons rfl (forall_cons rfl (forall_cons rfl (forall_cons rfl forall_nil)))), (forall_cons ⟨rfl, rfl⟩ forall_nil), forall_nil⟩ (fun x => ⟨(forall_cons rfl (forall_cons rfl (forall_cons rfl (forall_cons rfl forall_nil)))), (forall_cons rfl forall_nil)⟩) (fun x => ?_); obtain ⟨k, hk, hI⟩ := x; simp only at hk hI ⊢
  by_cases h : (k : Int) < (l.length : Int)
  · (have hka : k < (l).length := by omega); (have w1 := w64s hka (hl)); (have i1 : (0 : Int) ≤ (k : Int) := by omega)
    have hF := FFits_pure f (l.getD k []) hf
    cases hq : fitsF f (l.getD k [])
    · rw [hq] at hF
      have hz := all_false (p := fitsF f) hka hq
      simp only [go_sem, strs, h, getD_str hka, i1, fcells]
      refine vCall_of (hF) ?_ ?_ ?_; iterate 2 simp only [go_sem, fld]
      simp only [go_sem, hz]
    · rw [hq] at hF
      simp only [go_sem, strs, h, getD_str hka, i1, fcells]
      refine vCall_of (hF) ?_ ?_ ?_; iterate 2 simp only [go_sem, fld]
      simp only [go_sem, w1]
      exact ⟨⟨k + 1, by (try simp only); omega, below_succ hI hq⟩, by show (l).length - (k + 1) < (l).length - k; omega, ⟨rfl, (forall_cons rfl (forall_cons rfl (forall_cons rfl (forall_cons rfl forall_nil)))), (forall_cons ⟨rfl, rfl⟩ forall_nil), forall_nil⟩⟩
  · have hz := all_true (p := fitsF f) (d := []) (l := l) (fun j hj => hI j (by omega))
    simp only [go_sem, h, hz]
set_option maxRecDepth 20000 in
set_option maxHeartbeats 8000000 in
theorem DFits_pure (f : Fd) (e : En) (hl : f.cases'.length ≤ maxLen) (he : e.l.length ≤ maxLen) : PL.Pure Tryz.prog 159 [fld f, ent e] (.bool (fitsE f e)) := by
  have hR := Right_pure f hl
  have hA := fitAll_pure f e.l hl he
  cases hr : rightF f
  · rw [hr] at hR
    refine PL.Pure.of_v Tryz.func159 (by decide) rfl Tryz.ntmps159 Tryz.results159 (by simp) rfl ?_
    simp only [go_sem, fld, ent]
    refine vCall_of (hR) ?_ ?_ ?_; iterate 2 simp only [go_sem, fld]
    simp only [go_sem, fitsE, hr, Bool.false_and]
  · rw [hr] at hR
    by_cases ha : e.at' = f.at'
    · have ha' := decide_eq_true ha
      by_cases h1 : f.kind = 1
      · have k1 : (f.kind == 1) = true := by rw [h1]; rfl
        have hx : fitsE f e = fitsN e := by simp only [fitsE, hr, ha', Bool.and_self, Bool.true_and, h1, if_true]
        rw [hx]
        refine PL.Pure.of_v Tryz.func159 (by decide) rfl Tryz.ntmps159 Tryz.results159 (by simp) rfl ?_
        simp only [go_sem, fld, ent]
        refine vCall_of (hR) ?_ ?_ ?_; iterate 2 simp only [go_sem, fld]
        simp only [go_sem, ref_fold, ha', k1]
        repeat' (first | (refine vGuard_t (fun h => ?_) (fun h => ?_) <;> (try simp only [go_sem, h])) | (refine vGuard_f (fun h => ?_) (fun h => ?_) <;> (try simp only [go_sem, h])) | (refine vCond_b (fun h => ?_) (fun h => ?_) <;> (try simp only [go_sem, h])) | ((refine vDrawQ (by kernel_rfl) (by kernel_rfl) ?_); (try simp only [go_sem])))
        all_goals (simp_all [fitsN]; try (first | omega | (rw [decide_eq_true (show (-4503599627370497 : Int) < e.n by omega), decide_eq_true (show e.n < 4503599627370497 by omega)]; simp)))
      · have k1 : (f.kind == 1) = false := beq_eq_false_iff_ne.2 h1
        have hx : fitsE f e = (cntOk f e && fitsT f e) := by simp only [fitsE, hr, ha', Bool.and_self, Bool.true_and, h1, if_false]
        rw [hx]
        by_cases hn : e.n = 0
        · have n1 : (e.n != 0) = false := by rw [hn]; rfl
          by_cases h4 : f.kind = 4
          · have k4 : (f.kind == 4) = true := by rw [h4]; rfl
            have hx2 : (cntOk f e && fitsT f e) = (decide ((e.l.length : Int) ≤ 400) && e.l.all (fitsF f)) := by
              simp only [cntOk, fitsT, h4, if_true, hn, decide_true, Bool.and_true]
              congr 1
              rw [Bool.eq_iff_iff]; simp
            rw [hx2]
            by_cases h5 : (e.l.length : Int) ≤ 400
            · refine PL.Pure.of_v Tryz.func159 (by decide) rfl Tryz.ntmps159 Tryz.results159 (by simp) rfl ?_
              simp only [go_sem, fld, ent]
              refine vCall_of (hR) ?_ ?_ ?_; iterate 2 simp only [go_sem, fld]
              simp only [go_sem, ref_fold, ha', k1, n1, k4, h5]
              refine vCall_of (hA) ?_ ?_ ?_; iterate 2 simp only [go_sem, fld, strs]
              simp only [go_sem, decide_eq_true h5, Bool.true_and]
            · refine PL.Pure.of_v Tryz.func159 (by decide) rfl Tryz.ntmps159 Tryz.results159 (by simp) rfl ?_
              simp only [go_sem, fld, ent]
              refine vCall_of (hR) ?_ ?_ ?_; iterate 2 simp only [go_sem, fld]
              simp only [go_sem, ref_fold, ha', k1, n1, k4, h5, Bool.false_and]
          · have k4 : (f.kind == 4) = false := beq_eq_false_iff_ne.2 h4
            have hx2 : (cntOk f e && fitsT f e) = (((e.l.length : Int) == 1) && e.l.all (fitsF f)) := by
              simp only [cntOk, fitsT, h4, if_false, hn, decide_true, Bool.and_true]
              congr 1
            rw [hx2]
            cases h5 : (e.l.length : Int) == 1
            · refine PL.Pure.of_v Tryz.func159 (by decide) rfl Tryz.ntmps159 Tryz.results159 (by simp) rfl ?_
              simp only [go_sem, fld, ent]
              refine vCall_of (hR) ?_ ?_ ?_; iterate 2 simp only [go_sem, fld]
              simp only [go_sem, ref_fold, ha', k1, n1, k4, h5, Bool.false_and]
            · refine PL.Pure.of_v Tryz.func159 (by decide) rfl Tryz.ntmps159 Tryz.results159 (by simp) rfl ?_
              simp only [go_sem, fld, ent]
              refine vCall_of (hR) ?_ ?_ ?_; iterate 2 simp only [go_sem, fld]
              simp only [go_sem, ref_fold, ha', k1, n1, k4, h5]
              refine vCall_of (hA) ?_ ?_ ?_; iterate 2 simp only [go_sem, fld, strs]
              simp only [go_sem, Bool.true_and]
        · have n1 : (e.n != 0) = true := bne_iff_ne.2 hn
          have hx2 : (cntOk f e && fitsT f e) = false := by simp [fitsT, hn]
          rw [hx2]
          refine PL.Pure.of_v Tryz.func159 (by decide) rfl Tryz.ntmps159 Tryz.results159 (by simp) rfl ?_
          simp only [go_sem, fld, ent]
          refine vCall_of (hR) ?_ ?_ ?_; iterate 2 simp only [go_sem, fld]
          simp only [go_sem, ref_fold, ha', k1, n1]
    · have ha' := decide_eq_false ha
      have hx : fitsE f e = false := by simp only [fitsE, ha', Bool.and_false, Bool.false_and]
      rw [hx]
      refine PL.Pure.of_v Tryz.func159 (by decide) rfl Tryz.ntmps159 Tryz.results159 (by simp) rfl ?_
      simp only [go_sem, fld, ent]
      refine vCall_of (hR) ?_ ?_ ?_; iterate 2 simp only [go_sem, fld]
      simp only [go_sem, ref_fold, ha']
theorem getD_ent' {l : List En} {i : Nat} (h : i < l.length) : (l.map ent).getD i .any = ent (l.getD i default) := getD_map h
theorem getD_row' {l : List Rw} {i : Nat} (h : i < l.length) : (l.map row).getD i .any = row (l.getD i default) := getD_map h
set_option maxRecDepth 20000 in
set_option maxHeartbeats 8000000 in
theorem rightEntries_pure (l : List Fd) (es : List En) (hl : l.length ≤ maxLen) (hes : es.length ≤ maxLen) (hl' : ∀ f ∈ l, f.cases'.length ≤ maxLen) (hes' : ∀ e ∈ es, e.l.length ≤ maxLen) : PL.Pure Tryz.prog 84 [flds l, ents es] (.bool (entriesB l es)) := by
  by_cases he : l.length = es.length
  · have he' : ((l.length : Int) != (es.length : Int)) = false := by rw [he]; exact bne_self_eq_false _
    have hx : entriesB l es = (List.range l.length).all (fun i => fitsE (l.getD i default) (es.getD i default)) := by simp only [entriesB, he, decide_true, Bool.true_and]
    rw [hx]
    refine PL.Pure.of_v Tryz.func84 (by decide) rfl Tryz.ntmps84 Tryz.results84 (by simp) rfl ?_
    simp only [go_sem, flds, ents, he']
    refine vLoopM (ι := { x : Nat // x ≤ (l).length ∧ (∀ j, j < x → fitsE (l.getD j default) (es.getD j default) = true) }) 27 (fun x => [(1, ents es), (12, flds l), (13, .int .i64 (l.length : Int)), (14, .int .i64 (x.1 : Int))]) (fun x => []) (fun x => []) (fun x => (l).length - x.1) ⟨0, Nat.zero_le _, fun j hj => absurd hj (Nat.not_lt_zero j)⟩ ⟨rfl, (forall_cons rfl (forall_cons rfl (forall_cons rfl (forall_cons rfl forall_nil)))), forall_nil, forall_nil⟩ (fun x => ⟨(forall_cons rfl (forall_cons rfl (forall_cons rfl (forall_cons rfl forall_nil)))), forall_nil⟩) (fun x => ?_); obtain ⟨k, hk, hI⟩ := x; simp only at hk hI ⊢
    by_cases h : (k : Int) < (l.length : Int)
    · (have hka : k < (l).length := by omega); (have w1 := w64s hka (hl)); (have i1 : (0 : Int) ≤ (k : Int) := by omega)
      have hkb : k < es.length := by omega
      have i2 : (k : Int) < (es.length : Int) := by omega
      have hF := DFits_pure (l.getD k default) (es.getD k default) (hl' _ (getD_mem' hka)) (hes' _ (getD_mem' hkb))
      cases hf : fitsE (l.getD k default) (es.getD k default)
      · rw [hf] at hF
        have hz := rall_false (p := fun i => fitsE (l.getD i default) (es.getD i default)) hka hf
        simp only [go_sem, flds, ents, h, i1, getD_fld hka, fld]
        refine vDrawQ (by kernel_rfl) (by kernel_rfl) ?_
        simp only [go_sem, getD_ent' hkb, ent, i1, i2]
        refine vCall_of (hF) ?_ ?_ ?_; iterate 2 simp only [go_sem, fld, ent]
        simp only [go_sem, hz]
      · rw [hf] at hF
        simp only [go_sem, flds, ents, h, i1, getD_fld hka, fld]
        refine vDrawQ (by kernel_rfl) (by kernel_rfl) ?_
        simp only [go_sem, getD_ent' hkb, ent, i1, i2]
        refine vCall_of (hF) ?_ ?_ ?_; iterate 2 simp only [go_sem, fld, ent]
        simp only [go_sem, w1]
        exact ⟨⟨k + 1, by (try simp only); omega, below_succ hI hf⟩, by show (l).length - (k + 1) < (l).length - k; omega, ⟨rfl, (forall_cons rfl (forall_cons rfl (forall_cons rfl (forall_cons rfl forall_nil)))), forall_nil, forall_nil⟩⟩
    · have hz := rall_true (p := fun i => fitsE (l.getD i default) (es.getD i default)) (n := l.length) (fun j hj => hI j (by omega))
      simp only [go_sem, h, hz]
  · have he' : ((l.length : Int) != (es.length : Int)) = true := bne_iff_ne.2 (by omega)
    have hx : entriesB l es = false := by simp only [entriesB, he, decide_false, Bool.false_and]
    rw [hx]
    refine PL.Pure.of_v Tryz.func84 (by decide) rfl Tryz.ntmps84 Tryz.results84 (by simp) rfl ?_
    simp only [go_sem, flds, ents, he']
end Go.Proofs.YtnadlkjmdimjkaaGreat

set_option linter.unusedSimpArgs false
set_option linter.unusedVariables false
set_option linter.unusedSimpArgs false
set_option linter.unusedVariables false
namespace Go.Proofs.YtnadlkjmdimjkaaGreat
open Go.PL
set_option maxRecDepth 20000 in
set_option maxHeartbeats 16000000 in
theorem DRight_pure (l : List Fd) (d : Dc) (hl : l.length ≤ maxLen) (hl' : ∀ f ∈ l, f.cases'.length ≤ 1000000) (hd : Fine d) : PL.Pure Tryz.prog 41 [flds l, doc d] (.bool (rightD l d)) := by
  obtain ⟨d1, d2, d3, d4⟩ := hd
  have hl2 : ∀ f ∈ l, f.cases'.length ≤ maxLen := fun f hf => by have := hl' f hf; rw [maxLen_eq]; omega
  have hR := SRight_pure l hl hl2
  cases hr : rightL l
  · rw [hr] at hR
    have hx : rightD l d = false := by simp only [rightD, headOk, hr, Bool.false_and]
    refine PL.Pure.of_v Tryz.func41 (by decide) rfl Tryz.ntmps41 Tryz.results41 (by simp) rfl ?_
    simp only [go_sem, flds, doc]
    refine vCall_of (hR) ?_ ?_ ?_; iterate 2 simp only [go_sem, flds]
    simp only [go_sem, hx]
  · rw [hr] at hR
    have h16 := rightL_len hr
    have sl : ∀ sc, (scopeM l sc).length ≤ maxLen := fun sc => Nat.le_trans (List.length_filter_le _ _) hl
    have sc : ∀ s, ∀ f ∈ scopeM l s, f.cases'.length ≤ maxLen := fun s f hf => hl2 f (List.mem_filter.1 hf).1
    have hS0 := Scope_pure l 0 (by omega) hl'
    have hS1 := Scope_pure l 1 (by omega) hl'
    by_cases h4 : (400 : Int) < (d.rows.length : Int)
    · have hx : rightD l d = false := by simp only [rightD, headOk, h4, decide_true, Bool.not_true, Bool.false_and, Bool.and_false]
      refine PL.Pure.of_v Tryz.func41 (by decide) rfl Tryz.ntmps41 Tryz.results41 (by simp) rfl ?_
      simp only [go_sem, flds, doc]
      refine vCall_of (hR) ?_ ?_ ?_; iterate 2 simp only [go_sem, flds]
      simp only [go_sem, h4, hx]
    · have hE := rightEntries_pure (scopeM l 0) d.head (sl 0) d1 (sc 0) d3
      cases he : entriesB (scopeM l 0) d.head
      · rw [he] at hE
        have hx : rightD l d = false := by simp only [rightD, headOk, he, Bool.false_and, Bool.and_false]
        refine PL.Pure.of_v Tryz.func41 (by decide) rfl Tryz.ntmps41 Tryz.results41 (by simp) rfl ?_
        simp only [go_sem, flds, doc]
        refine vCall_of (hR) ?_ ?_ ?_; iterate 2 simp only [go_sem, flds]
        simp only [go_sem, h4]
        refine vDrawQ (by kernel_rfl) (by kernel_rfl) ?_
        simp only [go_sem, flds]
        refine vCall_of (hS0) ?_ ?_ ?_; iterate 2 simp only [go_sem, flds]
        simp only [go_sem, flds]
        refine vCall_of (hE) ?_ ?_ ?_; iterate 2 simp only [go_sem, flds, ents]
        simp only [go_sem, hx]
      · rw [he] at hE
        have hx : rightD l d = (List.range d.rows.length).all (rowOk l d.rows) := by simp only [rightD, headOk, hr, h4, he, decide_false, Bool.not_false, Bool.and_self, Bool.true_and]
        rw [hx]
        refine PL.Pure.of_v Tryz.func41 (by decide) rfl Tryz.ntmps41 Tryz.results41 (by simp) rfl ?_
        simp only [go_sem, flds, doc]
        refine vCall_of (hR) ?_ ?_ ?_; iterate 2 simp only [go_sem, flds]
        simp only [go_sem, h4]
        refine vDrawQ (by kernel_rfl) (by kernel_rfl) ?_
        simp only [go_sem, flds]
        refine vCall_of (hS0) ?_ ?_ ?_; iterate 2 simp only [go_sem, flds]
        simp only [go_sem, flds]
        refine vCall_of (hE) ?_ ?_ ?_; iterate 2 simp only [go_sem, flds, ents]
        simp only [go_sem, flds]
        refine vCall_of (hS1) ?_ ?_ ?_; iterate 2 simp only [go_sem, flds]
        simp only [go_sem]
        refine vLoopM (ι := { x : Nat // x ≤ (d.rows).length ∧ (∀ j, j < x → rowOk l d.rows j = true) }) 59 (fun x => [(3, .ptr 3 0), (5, flds (scopeM l 1)), (26, .sl .no (d.rows.map row)), (27, .int .i64 (d.rows.length : Int)), (28, .int .i64 (x.1 : Int))]) (fun x => [(3, [.sl .no (d.head.map ent), .sl .no (d.rows.map row)], false)]) (fun x => []) (fun x => (d.rows).length - x.1) ⟨0, Nat.zero_le _, fun j hj => absurd hj (Nat.not_lt_zero j)⟩ ⟨rfl, (forall_cons rfl (forall_cons rfl (forall_cons rfl (forall_cons rfl (forall_cons rfl forall_nil))))), (forall_cons ⟨rfl, rfl⟩ forall_nil), forall_nil⟩ (fun x => ⟨(forall_cons rfl (forall_cons rfl (forall_cons (by simp [PV.ids, refInM]) (forall_cons (by simp [PV.ids, refInM]) (forall_cons rfl forall_nil))))), (forall_cons (by simp [PV.ids, PV.idsL, refInM]) forall_nil)⟩) (fun x => ?_); obtain ⟨k, hk, hI⟩ := x; simp only at hk hI ⊢
        by_cases h : (k : Int) < (d.rows.length : Int)
        · (have hka : k < (d.rows).length := by omega); (have w1 := w64s hka (d2)); (have i1 : (0 : Int) ≤ (k : Int) := by omega)
          have hN := Name_pure (d.rows.getD k default).item
          have rk := d4 _ (getD_mem' (d := default) hka)
          have hE1 := rightEntries_pure (scopeM l 1) (d.rows.getD k default).l (sl 1) rk.1 (sc 1) rk.2
          have gk := getD_row' hka
          cases hn : nameB (d.rows.getD k default).item
          · rw [hn] at hN
            have hz := rall_false (p := rowOk l d.rows) hka (by simp only [rowOk, hn, Bool.false_and])
            simp only [go_sem, h, gk, row, i1]
            refine vDrawQ (by kernel_rfl) (by kernel_rfl) ?_
            simp only [go_sem, h, gk, row, i1]
            refine vCall_of (hN) ?_ ?_ ?_; iterate 2 simp only [go_sem]
            simp only [go_sem, hz]
          · rw [hn] at hN
            by_cases h0 : 0 < (k : Int)
            · have hk1 : k - 1 < d.rows.length := by omega
              have gj := getD_row' hk1
              have w2 : IntKind.i64.wrap ((k : Int) - 1) = ((k - 1 : Nat) : Int) := by
                rw [maxLen_eq] at d2
                rw [w64 (by omega)]; omega
              have j1 : (0 : Int) ≤ ((k - 1 : Nat) : Int) := by omega
              have j2 : ((k - 1 : Nat) : Int) < (d.rows.length : Int) := by omega
              cases hb : bytesLt (d.rows.getD (k - 1) default).item (d.rows.getD k default).item
              · have hz := rall_false (p := rowOk l d.rows) hka (by simp only [rowOk, hb, decide_eq_false (show ¬ k = 0 by omega), Bool.or_self, Bool.and_false, Bool.false_and])
                simp only [go_sem, h, gk, row, i1]
                refine vDrawQ (by kernel_rfl) (by kernel_rfl) ?_
                simp only [go_sem, h, gk, row, i1]
                refine vCall_of (hN) ?_ ?_ ?_; iterate 2 simp only [go_sem]
                simp only [go_sem, h0, w2, gj, gk, row, h, i1, j1, j2, hb, hz]
              · cases hf : entriesB (scopeM l 1) (d.rows.getD k default).l
                · rw [hf] at hE1
                  have hz := rall_false (p := rowOk l d.rows) hka (by simp only [rowOk, hf, Bool.and_false])
                  simp only [go_sem, h, gk, row, i1]
                  refine vDrawQ (by kernel_rfl) (by kernel_rfl) ?_
                  simp only [go_sem, h, gk, row, i1]
                  refine vCall_of (hN) ?_ ?_ ?_; iterate 2 simp only [go_sem]
                  simp only [go_sem, h0, w2, gj, gk, row, h, i1, j1, j2, hb, flds]
                  refine vCall_of (hE1) ?_ ?_ ?_; iterate 2 simp only [go_sem, flds, ents]
                  simp only [go_sem, hz]
                · rw [hf] at hE1
                  have ok : rowOk l d.rows k = true := by simp only [rowOk, hn, hb, hf, Bool.or_true, Bool.and_self]
                  simp only [go_sem, h, gk, row, i1]
                  refine vDrawQ (by kernel_rfl) (by kernel_rfl) ?_
                  simp only [go_sem, h, gk, row, i1]
                  refine vCall_of (hN) ?_ ?_ ?_; iterate 2 simp only [go_sem]
                  simp only [go_sem, h0, w2, gj, gk, row, h, i1, j1, j2, hb, flds]
                  refine vCall_of (hE1) ?_ ?_ ?_; iterate 2 simp only [go_sem, flds, ents]
                  simp only [go_sem, w1]
                  exact ⟨⟨k + 1, by (try simp only); omega, below_succ hI ok⟩, by show (d.rows).length - (k + 1) < (d.rows).length - k; omega, ⟨rfl, (forall_cons rfl (forall_cons rfl (forall_cons rfl (forall_cons rfl (forall_cons rfl forall_nil))))), (forall_cons ⟨rfl, rfl⟩ forall_nil), forall_nil⟩⟩
            · have hk0 : k = 0 := by omega
              cases hf : entriesB (scopeM l 1) (d.rows.getD k default).l
              · rw [hf] at hE1
                have hz := rall_false (p := rowOk l d.rows) hka (by simp only [rowOk, hf, Bool.and_false])
                simp only [go_sem, h, gk, row, i1]
                refine vDrawQ (by kernel_rfl) (by kernel_rfl) ?_
                simp only [go_sem, h, gk, row, i1]
                refine vCall_of (hN) ?_ ?_ ?_; iterate 2 simp only [go_sem]
                simp only [go_sem, h0, gk, row, h, i1, flds]
                refine vCall_of (hE1) ?_ ?_ ?_; iterate 2 simp only [go_sem, flds, ents]
                simp only [go_sem, hz]
              · rw [hf] at hE1
                have ok : rowOk l d.rows k = true := by simp only [rowOk, hn, decide_eq_true hk0, hf, Bool.true_or, Bool.and_self]
                simp only [go_sem, h, gk, row, i1]
                refine vDrawQ (by kernel_rfl) (by kernel_rfl) ?_
                simp only [go_sem, h, gk, row, i1]
                refine vCall_of (hN) ?_ ?_ ?_; iterate 2 simp only [go_sem]
                simp only [go_sem, h0, gk, row, h, i1, flds]
                refine vCall_of (hE1) ?_ ?_ ?_; iterate 2 simp only [go_sem, flds, ents]
                simp only [go_sem, w1]
                exact ⟨⟨k + 1, by (try simp only); omega, below_succ hI ok⟩, by show (d.rows).length - (k + 1) < (d.rows).length - k; omega, ⟨rfl, (forall_cons rfl (forall_cons rfl (forall_cons rfl (forall_cons rfl (forall_cons rfl forall_nil))))), (forall_cons ⟨rfl, rfl⟩ forall_nil), forall_nil⟩⟩
        · have hz := rall_true (p := rowOk l d.rows) (n := d.rows.length) (fun j hj => hI j (by omega))
          simp only [go_sem, h, hz]
theorem sized_row (l : List Rw) : Sized 2 (l.map row) := fun e he => by
  obtain ⟨x, _, rfl⟩ := List.mem_map.1 he; rfl
set_option maxRecDepth 20000 in
set_option maxHeartbeats 8000000 in
theorem ownEntries_pure (l : List En) (hl : l.length ≤ 100000) (hl' : ∀ e ∈ l, e.l.length ≤ 1000000) : PL.Pure Tryz.prog 140 [ents l] (ents l) := by
  have hm : l.length ≤ maxLen := by rw [maxLen_eq]; omega
  refine PL.Pure.of_v Tryz.func140 (by decide) rfl Tryz.ntmps140 Tryz.results140 (by simp) (ents_dids _) ?_
  simp only [go_sem, ents]
  refine awp_nilRow 3 16 5 128 rfl rfl ?_
  refine vLoopM (ι := { x : Nat × (List En) // x.1 ≤ (l).length ∧ (x.2 = l.take x.1) }) 19 (fun x => [(3, .sl (.row 16) (x.1.2.map ent)), (6, ents l), (7, .int .i64 (l.length : Int)), (8, .int .i64 (x.1.1 : Int))]) (fun x => []) (fun x => [(16, .live (x.1.2.length) (5) (128))]) (fun x => (l).length - x.1.1) ⟨(0, []), Nat.zero_le _, rfl⟩ ⟨rfl, (forall_cons rfl (forall_cons rfl (forall_cons rfl (forall_cons rfl forall_nil)))), forall_nil, (forall_cons rfl forall_nil)⟩ (fun x => ⟨(forall_cons (by simp [PV.ids, refInM]) (forall_cons rfl (forall_cons rfl (forall_cons rfl forall_nil)))), forall_nil⟩) (fun x => ?_); obtain ⟨⟨k, acc⟩, hk, hI⟩ := x; simp only at hk hI ⊢
  have hacc : acc.length ≤ l.length := by rw [hI]; exact take_le_len _ _
  by_cases h : (k : Int) < (l.length : Int)
  · (have hka : k < (l).length := by omega); (have w1 := w64s hka (hm)); (have i1 : (0 : Int) ≤ (k : Int) := by omega)
    have hr := room1 (show acc.length + 1 ≤ 1000000 by omega) (show 72 ≤ 1000 by omega)
    have hO := ownEntry_pure (l.getD k default) (hl' _ (getD_mem' hka))
    simp only [go_sem, ents, h, getD_ent' hka, ent, i1]
    refine vCall_of (hO) ?_ ?_ ?_; iterate 2 simp only [go_sem, ent]
    simp only [go_sem, ent, sized_ent, hr, w1]
    exact ⟨⟨(k + 1, acc ++ [l.getD k default]), by (try simp only); omega, by simp only; rw [take_snoc (d := default) hka, hI]⟩, by show (l).length - (k + 1) < (l).length - k; omega, ⟨rfl, (forall_cons (by simp [upd, ent]) (forall_cons rfl (forall_cons rfl (forall_cons rfl forall_nil)))), forall_nil, (forall_cons (by simp [upd]) forall_nil)⟩⟩
  · obtain rfl : k = l.length := by omega
    rw [List.take_length] at hI
    subst hI
    simp only [go_sem, h, ents]
end Go.Proofs.YtnadlkjmdimjkaaGreat
