/- Contracts of functions and laws of this seat, each for every input that it names: lemmas of the proof. -/
import Derived.Test.YtnadlkjmdimjkaaXAt
import Derived.Test.YtnadlkjmdimjkaaPlF
set_option linter.unusedSimpArgs false
set_option linter.unusedVariables false
set_option linter.unusedSimpArgs false
set_option linter.unusedVariables false
namespace Go.Proofs.Ytnadlkjmdimjkaa
open Go.PL
def arrM (l : List Fd) (x : Ln) : List Fd × Bool :=
  if x.kind = 2 then ([x.fd], true)
  else if x.kind = 3 then ([], decide ((findF l x.fd.at').2 = 0) && decide ((findF l x.fd.at').1 = x.fd))
  else if x.kind = 9 then mergedM l x
  else if (findF l x.at').2 ≠ 0 then ([], false)
  else if x.kind = 6 then ([⟨named x.at' x.nm, 1, [], [], (findF l x.at').1.worth⟩, ⟨named x.at' x.ot, 1, [], [], IntKind.i64.wrap ((findF l x.at').1.worth * x.fac)⟩], decide ((findF l x.at').1.kind = 1))
  else if x.kind = 7 then ([⟨x.at', 4, [], [], 0⟩], decide ((findF l x.at').1.kind = 2) && decide ((findF l x.at').1.df = x.ot))
  else if x.kind = 10 then ([⟨x.at', 2, x.ot, [], 0⟩], decide ((findF l x.at').1.kind = 4))
  else if x.kind = 8 then ([⟨x.at', 3, x.ot, fromsM x.ba, 0⟩], decide ((findF l x.at').1 = ⟨x.at', 3, x.nm, fromsM x.fo, 0⟩))
  else ([⟨(comesR x).getD 0 default, (findF l x.at').1.kind, (findF l x.at').1.df, (findF l x.at').1.cases', (findF l x.at').1.worth⟩], true)
theorem fromsM_len (l : List Pr) : (fromsM l).length = l.length := by simp [fromsM]
set_option maxRecDepth 20000 in
set_option maxHeartbeats 16000000 in
theorem arrivals_pure (l : List Fd) (x : Ln) (hl : OkFs l) (hx : OkLn x) (hr : rightLn x = true) : PL.Pure Try.prog 49 [flds l, lns x] (fldsb (arrM l x)) := by
  have hn := hl.n
  have hO := FOwn_pure x.fd hx.c
  have okA := okFind hl x.at'
  have okF := okFind hl x.fd.at'
  have f1 := SFind_pure l x.fd.at' (by omega) hl.c
  have f2 := SFind_pure l x.at' (by omega) hl.c
  have s1 := FSame_pure (findF l x.fd.at').1 x.fd (by rw [maxLen_eq]; omega) (by have := hx.c; rw [maxLen_eq]; omega)
  have s2 := FSame_pure (findF l x.at').1 ⟨x.at', 3, x.nm, fromsM x.fo, 0⟩ (by rw [maxLen_eq]; omega) (by have := hx.f; simp only [fromsM_len]; rw [maxLen_eq]; omega)
  have r1 := froms_pure x.fo hx.f
  have r2 := froms_pure x.ba hx.b
  have hC := Comes_pure x hx
  have hc : comesM x = comesR x := by simp [comesM, hr]
  rw [hc] at hC
  unfold arrM
  by_cases k9 : x.kind = 9
  · have hM := merged_pure l x hl hx hr k9
    rw [if_neg (by omega), if_neg (by omega), if_pos k9]
    generalize mergedM l x = y at *
    obtain ⟨y, b⟩ := y
    have e2 : (x.kind == 2) = false := by rw [k9]; rfl
    have e3 : (x.kind == 3) = false := by rw [k9]; rfl
    have e9 : (x.kind == 9) = true := by rw [k9]; rfl
    refine PL.Pure.of_v Try.func49 (by decide) rfl Try.ntmps49 Try.results49 (by simp) (fldsb_dids _) ?_
    simp only [go_sem, flds, lns, e2, e3, e9]
    refine vCall_of (hM) ?_ ?_ ?_; (focus simp only [go_sem, flds, lns]); (focus simp only [go_sem, flds, lns])
    simp only [go_sem, fldsb, flds]
  have e9 : (x.kind == 9) = false := beq_eq_false_iff_ne.2 k9
  rw [if_neg k9]
  generalize findF l x.fd.at' = a at *
  generalize findF l x.at' = b at *
  obtain ⟨a, a0⟩ := a
  obtain ⟨b, b0⟩ := b
  simp only at *
  by_cases k2 : x.kind = 2
  · have e2 : (x.kind == 2) = true := by rw [k2]; rfl
    rw [if_pos k2]
    refine PL.Pure.of_v Try.func49 (by decide) rfl Try.ntmps49 Try.results49 (by simp) (fldsb_dids _) ?_
    simp only [go_sem, flds, lns, e2]
    refine vCall_of (hO) ?_ ?_ ?_; (focus simp only [go_sem, fld]); (focus simp only [go_sem, fld])
    simp only [go_sem, fldsb, flds, fld]
  have e2 : (x.kind == 2) = false := beq_eq_false_iff_ne.2 k2
  rw [if_neg k2]
  by_cases k3 : x.kind = 3
  · have e3 : (x.kind == 3) = true := by rw [k3]; rfl
    rw [if_pos k3]
    refine PL.Pure.of_v Try.func49 (by decide) rfl Try.ntmps49 Try.results49 (by simp) (fldsb_dids _) ?_
    simp only [go_sem, flds, lns, e2, e3]
    refine vCall_of (f1) ?_ ?_ ?_; (focus simp only [go_sem, flds, ref]); (focus simp only [go_sem, flds, ref])
    simp only [go_sem, fldc, fld]
    repeat' (first | (refine vGuard_t (fun h => ?_) (fun h => ?_) <;> (try simp only [go_sem, h, fldc, fld, flds])) | (refine vGuard_f (fun h => ?_) (fun h => ?_) <;> (try simp only [go_sem, h, fldc, fld, flds])) | (refine vCond_b (fun h => ?_) (fun h => ?_) <;> (try simp only [go_sem, h, fldc, fld, flds])) | ((refine vCall_of (s1) ?_ ?_ ?_); (focus simp only [go_sem, fld]); (focus exact rfl); (try simp only [go_sem, fldc, fld, flds])) | ((refine vDrawQ (by kernel_rfl) (by kernel_rfl) ?_); (try simp only [go_sem, fldc, fld, flds])))
    all_goals (clear hO f1 f2 s1 s2 r1 r2 hC hl hx okA okF; simp_all [fldsb, flds, fld])
  have e3 : (x.kind == 3) = false := beq_eq_false_iff_ne.2 k3
  rw [if_neg k3]
  by_cases hb : b0 = 0
  · subst hb
    simp only [ne_eq, not_true_eq_false, if_false]
    by_cases k6 : x.kind = 6
    · have e6 : (x.kind == 6) = true := by rw [k6]; rfl
      have hcc : comesR x = [named x.at' x.nm, named x.at' x.ot] := by simp [comesR, k6]
      rw [hcc] at hC
      rw [if_pos k6]
      refine PL.Pure.of_v Try.func49 (by decide) rfl Try.ntmps49 Try.results49 (by simp) (fldsb_dids _) ?_
      simp only [go_sem, flds, lns, e2, e3, e9]
      refine vCall_of (f2) ?_ ?_ ?_; (focus simp only [go_sem, flds, ref]); (focus simp only [go_sem, flds, ref])
      simp only [go_sem, fldc, fld]
      refine vCall_of (hC) ?_ ?_ ?_; (focus simp only [go_sem, lns]); (focus simp only [go_sem, lns])
      simp only [go_sem, refs, ref, e6]
      repeat' (first | (refine vGuard_t (fun h => ?_) (fun h => ?_) <;> (try simp only [go_sem, h, refs, ref, fld])) | (refine vGuard_f (fun h => ?_) (fun h => ?_) <;> (try simp only [go_sem, h, refs, ref, fld])) | (refine vCond_b (fun h => ?_) (fun h => ?_) <;> (try simp only [go_sem, h, refs, ref, fld])) | ((refine vDrawQ (by kernel_rfl) (by kernel_rfl) ?_); (try simp only [go_sem, refs, ref, fld])))
      all_goals (clear hO f1 f2 s1 s2 r1 r2 hC hl hx okA okF; simp_all [fldsb, flds, fld] <;> (first | rfl | (rw [Bool.eq_iff_iff]; simp)))
    have e6 : (x.kind == 6) = false := beq_eq_false_iff_ne.2 k6
    rw [if_neg k6]
    by_cases k7 : x.kind = 7
    · have e7 : (x.kind == 7) = true := by rw [k7]; rfl
      rw [if_pos k7]
      refine PL.Pure.of_v Try.func49 (by decide) rfl Try.ntmps49 Try.results49 (by simp) (fldsb_dids _) ?_
      simp only [go_sem, flds, lns, e2, e3, e9]
      refine vCall_of (f2) ?_ ?_ ?_; (focus simp only [go_sem, flds, ref]); (focus simp only [go_sem, flds, ref])
      simp only [go_sem, fldc, fld]
      refine vCall_of (hC) ?_ ?_ ?_; (focus simp only [go_sem, lns]); (focus simp only [go_sem, lns])
      simp only [go_sem, refs, e6, e7]
      repeat' (first | (refine vGuard_t (fun h => ?_) (fun h => ?_) <;> (try simp only [go_sem, h])) | (refine vGuard_f (fun h => ?_) (fun h => ?_) <;> (try simp only [go_sem, h])) | (refine vCond_b (fun h => ?_) (fun h => ?_) <;> (try simp only [go_sem, h])) | ((refine vDrawQ (by kernel_rfl) (by kernel_rfl) ?_); (try simp only [go_sem])))
      all_goals (clear hO f1 f2 s1 s2 r1 r2 hC hl hx okA okF; simp_all [fldsb, flds, fld] <;> (first | rfl | (rw [Bool.eq_iff_iff]; simp)))
    have e7 : (x.kind == 7) = false := beq_eq_false_iff_ne.2 k7
    rw [if_neg k7]
    by_cases k10 : x.kind = 10
    · have e10 : (x.kind == 10) = true := by rw [k10]; rfl
      rw [if_pos k10]
      refine PL.Pure.of_v Try.func49 (by decide) rfl Try.ntmps49 Try.results49 (by simp) (fldsb_dids _) ?_
      simp only [go_sem, flds, lns, e2, e3, e9]
      refine vCall_of (f2) ?_ ?_ ?_; (focus simp only [go_sem, flds, ref]); (focus simp only [go_sem, flds, ref])
      simp only [go_sem, fldc, fld]
      refine vCall_of (hC) ?_ ?_ ?_; (focus simp only [go_sem, lns]); (focus simp only [go_sem, lns])
      simp only [go_sem, refs, e6, e7, e10]
      repeat' (first | (refine vGuard_t (fun h => ?_) (fun h => ?_) <;> (try simp only [go_sem, h])) | (refine vGuard_f (fun h => ?_) (fun h => ?_) <;> (try simp only [go_sem, h])) | (refine vCond_b (fun h => ?_) (fun h => ?_) <;> (try simp only [go_sem, h])) | ((refine vDrawQ (by kernel_rfl) (by kernel_rfl) ?_); (try simp only [go_sem])))
      all_goals (clear hO f1 f2 s1 s2 r1 r2 hC hl hx okA okF; simp_all [fldsb, flds, fld] <;> (first | rfl | (rw [Bool.eq_iff_iff]; simp)))
    have e10 : (x.kind == 10) = false := beq_eq_false_iff_ne.2 k10
    rw [if_neg k10]
    by_cases k8 : x.kind = 8
    · have e8 : (x.kind == 8) = true := by rw [k8]; rfl
      rw [if_pos k8]
      refine PL.Pure.of_v Try.func49 (by decide) rfl Try.ntmps49 Try.results49 (by simp) (fldsb_dids _) ?_
      simp only [go_sem, flds, lns, e2, e3, e9]
      refine vCall_of (f2) ?_ ?_ ?_; (focus simp only [go_sem, flds, ref]); (focus simp only [go_sem, flds, ref])
      simp only [go_sem, fldc, fld]
      refine vCall_of (hC) ?_ ?_ ?_; (focus simp only [go_sem, lns]); (focus simp only [go_sem, lns])
      simp only [go_sem, refs, e6, e7, e10, e8]
      repeat' (first | (refine vGuard_t (fun h => ?_) (fun h => ?_) <;> (try simp only [go_sem, h, strs, fld])) | (refine vGuard_f (fun h => ?_) (fun h => ?_) <;> (try simp only [go_sem, h, strs, fld])) | (refine vCond_b (fun h => ?_) (fun h => ?_) <;> (try simp only [go_sem, h, strs, fld])) | ((refine vCall_of (r1) ?_ ?_ ?_); (focus simp only [go_sem, prs, fld, strs]); (focus exact rfl); (try simp only [go_sem, strs, fld])) | ((refine vCall_of (r2) ?_ ?_ ?_); (focus simp only [go_sem, prs, fld, strs]); (focus exact rfl); (try simp only [go_sem, strs, fld])) | ((refine vCall_of (s2) ?_ ?_ ?_); (focus simp only [go_sem, prs, fld, strs]); (focus exact rfl); (try simp only [go_sem, strs, fld])) | ((refine vDrawQ (by kernel_rfl) (by kernel_rfl) ?_); (try simp only [go_sem, strs, fld])))
      all_goals (clear hO f1 f2 s1 s2 r1 r2 hC hl hx okA okF; simp_all [fldsb, flds, fld])
    have e8 : (x.kind == 8) = false := beq_eq_false_iff_ne.2 k8
    rw [if_neg k8]
    have hk : x.kind = 1 ∨ x.kind = 4 ∨ x.kind = 5 := by
      refine Decidable.byContradiction fun hne => ?_
      simp [rightLn, k2, k3, k6, k7, k8, k9, k10, show ¬ x.kind = 1 by omega, show ¬ x.kind = 4 by omega, show ¬ x.kind = 5 by omega] at hr
    obtain ⟨c, hcc⟩ : ∃ c, comesR x = [c] := by
      rcases hk with h | h | h <;> simp [comesR, h]
    rw [hcc] at hC ⊢
    refine PL.Pure.of_v Try.func49 (by decide) rfl Try.ntmps49 Try.results49 (by simp) (fldsb_dids _) ?_
    simp only [go_sem, flds, lns, e2, e3, e9]
    refine vCall_of (f2) ?_ ?_ ?_; (focus simp only [go_sem, flds, ref]); (focus simp only [go_sem, flds, ref])
    simp only [go_sem, fldc, fld]
    refine vCall_of (hC) ?_ ?_ ?_; (focus simp only [go_sem, lns]); (focus simp only [go_sem, lns])
    simp only [go_sem, refs, ref, e6, e7, e10, e8, fldsb, flds, fld]
  · have hb' : (b0 != 0) = true := bne_iff_ne.2 hb
    rw [if_pos hb]
    refine PL.Pure.of_v Try.func49 (by decide) rfl Try.ntmps49 Try.results49 (by simp) (fldsb_dids _) ?_
    simp only [go_sem, flds, lns, e2, e3, e9]
    refine vCall_of (f2) ?_ ?_ ?_; (focus simp only [go_sem, flds, ref]); (focus simp only [go_sem, flds, ref])
    simp only [go_sem, fldc, fld, hb', fldsb, flds]
end Go.Proofs.Ytnadlkjmdimjkaa

set_option linter.unusedSimpArgs false
set_option linter.unusedVariables false
set_option linter.unusedSimpArgs false
set_option linter.unusedVariables false
namespace Go.Proofs.Ytnadlkjmdimjkaa
open Go.PL
def goAll : List Rf → List Fd → Option (List Fd)
  | [], l => some l
  | r :: rs, l => if (withoutM l r).2 ≠ 0 then none else goAll rs (withoutM l r).1
def comeAll : List Fd → List Fd → Option (List Fd)
  | [], l => some l
  | f :: fs, l => if (withM l f).2 ≠ 0 then none else comeAll fs (withM l f).1
def applyR (l : List Fd) (x : Ln) : Option (List Fd) := if (arrM l x).2 = false then none else (goAll (goesR x) l).bind (comeAll (arrM l x).1)
def applyM (l : List Fd) (x : Ln) : List Fd × Int :=
  if rightL l = false ∨ rightLn x = false then ([], 5) else match applyR l x with | none => ([], 16) | some m => (m, 0)
theorem okWithout {l : List Fd} (h : OkFs l) (r : Rf) : OkFs (withoutM l r).1 := by
  unfold withoutM
  split
  · exact ⟨Nat.zero_le _, fun f hf => by cases hf⟩
  split
  · exact ⟨Nat.zero_le _, fun f hf => by cases hf⟩
  · exact ⟨Nat.le_trans (List.length_eraseIdx_le _ _) h.n, fun f hf => h.c f (List.mem_of_mem_eraseIdx hf)⟩
theorem mem_ins {l : List Fd} {f x : Fd} (h : x ∈ insM l f) : x ∈ l ∨ x = f := by
  unfold insM at h
  rcases List.mem_append.1 h with h | h
  · exact .inl (List.takeWhile_subset _ h)
  · rcases List.mem_cons.1 h with h | h
    · exact .inr h
    · exact .inl (List.dropWhile_subset _ h)
theorem okWith {l : List Fd} (h : OkFs l) {f : Fd} (hf : f.cases'.length ≤ 1000000) : OkFs (withM l f).1 := by
  unfold withM
  split
  · exact ⟨Nat.zero_le _, fun f hf => by cases hf⟩
  split
  · exact ⟨Nat.zero_le _, fun f hf => by cases hf⟩
  split
  · exact ⟨Nat.zero_le _, fun f hf => by cases hf⟩
  · refine ⟨by simp only [ins_len]; omega, fun g hg => ?_⟩
    rcases mem_ins hg with h' | h'
    · exact h.c g h'
    · rw [h']; exact hf
theorem okArr {l : List Fd} {x : Ln} (hl : OkFs l) (hx : OkLn x) : OkFs (arrM l x).1 := by
  have o1 : ∀ f : Fd, f.cases'.length ≤ 1000000 → OkFs [f] := fun f hf => ⟨by simp, fun g hg => by rw [List.mem_singleton.1 hg]; exact hf⟩
  have o0 : OkFs [] := ⟨Nat.zero_le _, fun f hf => by cases hf⟩
  unfold arrM
  split
  · exact o1 _ hx.c
  split
  · exact o0
  split
  · unfold mergedM
    split
    · exact o0
    split
    · exact o0
    · exact o1 _ (Nat.zero_le _)
  split
  · exact o0
  split
  · refine ⟨by simp, fun f hf => ?_⟩
    simp only [List.mem_cons, List.not_mem_nil, or_false] at hf
    rcases hf with rfl | rfl <;> exact Nat.zero_le _
  split
  · exact o1 _ (Nat.zero_le _)
  split
  · exact o1 _ (Nat.zero_le _)
  split
  · exact o1 _ (by simp only [fromsM_len]; exact hx.b)
  · exact o1 _ (okFind hl _)
set_option maxRecDepth 20000 in
set_option maxHeartbeats 16000000 in
theorem Apply_pure (l : List Fd) (x : Ln) (hl : OkFs l) (hx : OkLn x) : PL.Pure Try.prog 31 [flds l, lns x] (fldsc (applyM l x)) := by
  have hn := hl.n
  have hS := SRight_pure l (by rw [maxLen_eq]; omega) (fun f hf => by have := hl.c f hf; rw [maxLen_eq]; omega)
  have hR := LRight_pure x hx
  unfold applyM
  cases hsr : rightL l
  · rw [hsr] at hS
    refine PL.Pure.of_v Try.func31 (by decide) rfl Try.ntmps31 Try.results31 (by simp) (fldsc_dids _) ?_
    simp only [go_sem, flds, lns]
    refine vCall_of (hS) ?_ ?_ ?_; (focus simp only [go_sem, flds]); (focus simp only [go_sem, flds])
    simp only [go_sem, true_or, if_true, fldsc, flds]
  rw [hsr] at hS
  cases hlr : rightLn x
  · rw [hlr] at hR
    refine PL.Pure.of_v Try.func31 (by decide) rfl Try.ntmps31 Try.results31 (by simp) (fldsc_dids _) ?_
    simp only [go_sem, flds, lns]
    refine vCall_of (hS) ?_ ?_ ?_; (focus simp only [go_sem, flds]); (focus simp only [go_sem, flds])
    simp only [go_sem]
    refine vCall_of (hR) ?_ ?_ ?_; (focus simp only [go_sem, lns]); (focus simp only [go_sem, lns])
    simp only [go_sem, or_true, if_true, fldsc, flds]
  rw [hlr] at hR
  simp only [Bool.true_eq_false, or_self, if_false]
  have hA := arrivals_pure l x hl hx hlr
  have okA := okArr hl hx
  unfold applyR
  generalize arrM l x = y at *
  obtain ⟨come, ok⟩ := y
  simp only at okA ⊢
  cases ok
  · simp only [if_true]
    refine PL.Pure.of_v Try.func31 (by decide) rfl Try.ntmps31 Try.results31 (by simp) (fldsc_dids _) ?_
    simp only [go_sem, flds, lns]
    refine vCall_of (hS) ?_ ?_ ?_; (focus simp only [go_sem, flds]); (focus simp only [go_sem, flds])
    simp only [go_sem]
    refine vCall_of (hR) ?_ ?_ ?_; (focus simp only [go_sem, lns]); (focus simp only [go_sem, lns])
    simp only [go_sem]
    refine vCall_of (hA) ?_ ?_ ?_; (focus simp only [go_sem, flds, lns]); (focus simp only [go_sem, flds, lns])
    simp only [go_sem, fldsb, fldsc, flds]
  simp only [Bool.true_eq_false, if_false]
  have hO := SOwn_pure l (by omega) hl.c
  have hG := Goes_pure x hx
  have hg : goesM x = goesR x := by simp [goesM, hlr]
  rw [hg] at hG
  have hgl : (goesR x).length ≤ maxLen := by
    have : (goesR x).length ≤ 2 := by
      unfold goesR
      split
      · simp
      split
      · simp
      split <;> simp
    rw [maxLen_eq]; omega
  generalize goesR x = goes at *
  generalize hGo : goAll goes l = G
  refine PL.Pure.of_v Try.func31 (by decide) rfl Try.ntmps31 Try.results31 (by simp) (fldsc_dids _) ?_
  simp only [go_sem, flds, lns]
  refine vCall_of (hS) ?_ ?_ ?_; (focus simp only [go_sem, flds]); (focus simp only [go_sem, flds])
  simp only [go_sem]
  refine vCall_of (hR) ?_ ?_ ?_; (focus simp only [go_sem, lns]); (focus simp only [go_sem, lns])
  simp only [go_sem]
  refine vCall_of (hA) ?_ ?_ ?_; (focus simp only [go_sem, flds, lns]); (focus simp only [go_sem, flds, lns])
  simp only [go_sem, fldsb, flds]
  refine vCall_of (hO) ?_ ?_ ?_; (focus simp only [go_sem, flds]); (focus simp only [go_sem, flds])
  simp only [go_sem, flds, lns]
  refine vCall_of (hG) ?_ ?_ ?_; (focus simp only [go_sem, lns]); (focus simp only [go_sem, lns])
  simp only [go_sem, refs]
  refine vLoopM (ι := { x : Nat × (List Fd) // x.1 ≤ (goes).length ∧ (OkFs x.2 ∧ goAll (goes.drop x.1) x.2 = G) }) 64 (fun x => [(6, flds come), (8, flds x.1.2), (33, refs goes), (34, .int .i64 (goes.length : Int)), (35, .int .i64 (x.1.1 : Int))]) (fun x => []) (fun x => []) (fun x => (goes).length - x.1.1) ⟨(0, l), Nat.zero_le _, ⟨hl, hGo⟩⟩ ⟨rfl, (forall_cons rfl (forall_cons rfl (forall_cons rfl (forall_cons rfl (forall_cons rfl forall_nil))))), forall_nil, forall_nil⟩ (fun x => ⟨(forall_cons rfl (forall_cons rfl (forall_cons rfl (forall_cons rfl (forall_cons rfl forall_nil))))), forall_nil⟩) (fun x => ?_); obtain ⟨⟨k, out⟩, hk, hI⟩ := x; simp only at hk hI ⊢
  obtain ⟨okO, hI⟩ := hI
  have hon := okO.n
  by_cases h : (k : Int) < (goes.length : Int)
  · (have hka : k < (goes).length := by omega); (have w1 := w64s hka (hgl)); (have i1 : (0 : Int) ≤ (k : Int) := by omega)
    have hW := Without_pure out (goes.getD k default) (by omega) okO.c
    have okW := okWithout okO (goes.getD k default)
    rw [drop_cons' hka (d := default), goAll] at hI
    generalize withoutM out (goes.getD k default) = w at *
    obtain ⟨w, c⟩ := w
    simp only at hI okW
    by_cases hc : c = 0
    · subst hc
      simp only [ne_eq, not_true_eq_false, if_false] at hI
      simp only [go_sem, refs, h, i1, getD_ref hka, ref]
      refine vCall_of (hW) ?_ ?_ ?_; (focus simp only [go_sem, flds, ref]); (focus simp only [go_sem, flds, ref])
      simp only [go_sem, fldsc, flds, w1]
      exact ⟨⟨(k + 1, w), by (try simp only); omega, ⟨okW, hI⟩⟩, by show (goes).length - (k + 1) < (goes).length - k; omega, ⟨rfl, (forall_cons rfl (forall_cons rfl (forall_cons rfl (forall_cons rfl (forall_cons rfl forall_nil))))), forall_nil, forall_nil⟩⟩
    · have hc' : (c != 0) = true := bne_iff_ne.2 hc
      simp only [ne_eq, hc, not_false_eq_true, if_true] at hI
      subst hI
      simp only [go_sem, refs, h, i1, getD_ref hka, ref]
      refine vCall_of (hW) ?_ ?_ ?_; (focus simp only [go_sem, flds, ref]); (focus simp only [go_sem, flds, ref])
      simp only [go_sem, fldsc, flds, hc', Option.bind_none]
  · obtain rfl : k = goes.length := by omega
    rw [List.drop_length, goAll] at hI
    subst hI
    have hcl : come.length ≤ maxLen := by have := okA.n; rw [maxLen_eq]; omega
    simp only [go_sem, h, flds]
    refine vLoopM (ι := { x : Nat × (List Fd) // x.1 ≤ (come).length ∧ (OkFs x.2 ∧ comeAll (come.drop x.1) x.2 = comeAll come out) }) 64 (fun x => [(8, flds x.1.2), (48, flds come), (49, .int .i64 (come.length : Int)), (50, .int .i64 (x.1.1 : Int))]) (fun x => []) (fun x => []) (fun x => (come).length - x.1.1) ⟨(0, out), Nat.zero_le _, ⟨okO, rfl⟩⟩ ⟨rfl, (forall_cons rfl (forall_cons rfl (forall_cons rfl (forall_cons rfl forall_nil)))), forall_nil, forall_nil⟩ (fun x => ⟨(forall_cons rfl (forall_cons rfl (forall_cons rfl (forall_cons rfl forall_nil)))), forall_nil⟩) (fun x => ?_); obtain ⟨⟨kb, o2⟩, hkb, hIb⟩ := x; simp only at hkb hIb ⊢
    obtain ⟨ok2, hIb⟩ := hIb
    have hon2 := ok2.n
    by_cases hb : (kb : Int) < (come.length : Int)
    · (have hkab : kb < (come).length := by omega); (have w1b := w64s hkab (hcl)); (have i1b : (0 : Int) ≤ (kb : Int) := by omega)
      have hcf := okA.c _ (getD_mem' hkab (d := default))
      have hW := With_pure o2 (come.getD kb default) (by omega) ok2.c hcf
      have okW := okWith ok2 hcf
      rw [drop_cons' hkab (d := default), comeAll] at hIb
      generalize withM o2 (come.getD kb default) = w at *
      obtain ⟨w, c⟩ := w
      simp only at hIb okW
      by_cases hc : c = 0
      · subst hc
        simp only [ne_eq, not_true_eq_false, if_false] at hIb
        simp only [go_sem, flds, hb, i1b, getD_fld hkab, fld]
        refine vCall_of (hW) ?_ ?_ ?_; (focus simp only [go_sem, flds, fld]); (focus simp only [go_sem, flds, fld])
        simp only [go_sem, fldsc, flds, w1b]
        exact ⟨⟨(kb + 1, w), by (try simp only); omega, ⟨okW, hIb⟩⟩, by show (come).length - (kb + 1) < (come).length - kb; omega, ⟨rfl, (forall_cons rfl (forall_cons rfl (forall_cons rfl (forall_cons rfl forall_nil)))), forall_nil, forall_nil⟩⟩
      · have hc' : (c != 0) = true := bne_iff_ne.2 hc
        simp only [ne_eq, hc, not_false_eq_true, if_true] at hIb
        simp only [go_sem, flds, hb, i1b, getD_fld hkab, fld]
        refine vCall_of (hW) ?_ ?_ ?_; (focus simp only [go_sem, flds, fld]); (focus simp only [go_sem, flds, fld])
        simp only [go_sem, fldsc, flds, hc', ← hIb, Option.bind_some]
    · obtain rfl : kb = come.length := by omega
      rw [List.drop_length, comeAll] at hIb
      simp only [go_sem, flds, hb, ← hIb, fldsc, Option.bind_some]
end Go.Proofs.Ytnadlkjmdimjkaa

set_option linter.unusedSimpArgs false
set_option linter.unusedVariables false
set_option linter.unusedSimpArgs false
set_option linter.unusedVariables false
namespace Go.Proofs.Ytnadlkjmdimjkaa
open Go.PL
theorem didsL_tg (l : List Tg) : PV.didsL (l.map tg) = [] := by
  induction l with
  | nil => rfl
  | cons t l ih => simp only [List.map_cons, PV.didsL, ih, tg, PV.dids, List.append_nil]
theorem sized_tg (l : List Tg) : Sized 2 (l.map tg) := fun e he => by
  obtain ⟨x, _, rfl⟩ := List.mem_map.1 he; rfl
def tagB (t : Tg) : Bool := decide (1 ≤ t.r) && (decide (t.r ≤ 6) && (decide (1 ≤ t.n) && decide (t.n ≤ 1099511627776)))
set_option maxHeartbeats 1000000 in
theorem Tag_pure (t : Tg) : PL.Pure Try.prog 25 [tg t] (.bool (tagB t)) := by
  refine PL.Pure.of_v Try.func25 (by decide) rfl Try.ntmps25 Try.results25 (by simp) rfl ?_
  simp only [go_sem, tg]
  repeat' (first | (refine vGuard_t (fun h => ?_) (fun h => ?_) <;> (try simp only [go_sem, h])) | (refine vGuard_f (fun h => ?_) (fun h => ?_) <;> (try simp only [go_sem, h])) | (refine vCond_b (fun h => ?_) (fun h => ?_) <;> (try simp only [go_sem, h])) | ((refine vDrawQ (by kernel_rfl) (by kernel_rfl) ?_); (try simp only [go_sem])))
  all_goals (simp_all [tagB] <;> (intros; omega))
end Go.Proofs.Ytnadlkjmdimjkaa

set_option linter.unusedSimpArgs false
set_option linter.unusedVariables false
set_option linter.unusedSimpArgs false
set_option linter.unusedVariables false
namespace Go.Proofs.Ytnadlkjmdimjkaa
open Go.PL
structure Nd where
  e : Eg
  st : Int
  sch : List Fd
  dep : Int
  deriving DecidableEq, Inhabited
def nd (n : Nd) : PV := .agg [.int .i64 n.e.id.r, .int .i64 n.e.id.n, .int .i64 n.e.par.r, .int .i64 n.e.par.n, .int .i64 n.e.ln.kind, .int .i64 n.e.ln.at'.sc, .str n.e.ln.at'.gr, .str n.e.ln.at'.nm, .str n.e.ln.nm, .str n.e.ln.ot, .int .i64 n.e.ln.fac, .int .i64 n.e.ln.fd.at'.sc, .str n.e.ln.fd.at'.gr, .str n.e.ln.fd.at'.nm, .int .i64 n.e.ln.fd.kind, .str n.e.ln.fd.df, .sl .no (n.e.ln.fd.cases'.map .str), .int .i64 n.e.ln.fd.worth, .sl .no (n.e.ln.fo.map pr), .sl .no (n.e.ln.ba.map pr), .int .i64 n.st, .sl .no (n.sch.map fld), .int .i64 n.dep]
def kts (l : List Nd) : List PV := l.map fun n => tg n.e.id
def nds (l : List Nd) : List PV := l.map nd
/-- a tree as it is read: its nodes, as they came -/
def tr (l : List Nd) : PV := .rptr [.rmap (kts l) (nds l)]
def mc (l : List Nd) : MapC := ⟨kts l, nds l⟩
theorem didsL_pr (l : List Pr) : PV.didsL (l.map pr) = [] := by
  induction l with
  | nil => rfl
  | cons t l ih => simp only [List.map_cons, PV.didsL, ih, pr, PV.dids, List.append_nil]
theorem eg_dids (e : Eg) : (eg e).dids = [] := by simp only [eg, PV.dids, PV.didsL, didsL_pr, didsL_str, List.append_nil]
theorem nd_dids (n : Nd) : (nd n).dids = [] := by simp only [nd, PV.dids, PV.didsL, didsL_pr, didsL_fld, didsL_str, List.append_nil]
theorem nomapL_map {α : Type} (f : α → PV) (h : ∀ x, (f x).nomap = true) (l : List α) : PV.nomapL (l.map f) = true := nomapL_iff.2 fun c hc => by
  obtain ⟨x, _, rfl⟩ := List.mem_map.1 hc; exact h x
theorem nomapL_str (l : List Str) : PV.nomapL (l.map .str) = true := nomapL_map _ (fun _ => rfl) l
theorem nomapL_pr (l : List Pr) : PV.nomapL (l.map pr) = true := nomapL_map _ (fun _ => rfl) l
theorem nomap_fld (f : Fd) : (fld f).nomap = true := by simp only [fld, PV.nomap, PV.nomapL, nomapL_str, Bool.and_self]
theorem nomap_nd (n : Nd) : (nd n).nomap = true := by simp only [nd, PV.nomap, PV.nomapL, nomapL_pr, nomapL_str, nomapL_map _ nomap_fld, Bool.and_self]
theorem findP_tags (id : Tg) : ∀ (l : List Nd) (i : Nat), findP [.int, .int] [.int .i64 id.r, .int .i64 id.n] (kts l) i = some ((l.findIdx? fun n => decide (id = n.e.id)).map (· + i))
  | [], i => rfl
  | n :: l, i => by
    have ih := findP_tags id l (i + 1)
    simp only [kts, tg] at ih
    simp only [kts, List.map_cons, tg, findP, eqLeaves, eqLeaf, if_true, List.findIdx?_cons, Bool.and_true, tg_fold]
    by_cases h : id = n.e.id
    · simp [h]
    · simp only [h, decide_false, ih]
      simp only [Bool.false_eq_true, if_false, Option.map_map]
      congr 2
      funext x
      simp; omega
theorem findP_tags0 (id : Tg) (l : List Nd) : findP [.int, .int] [.int .i64 id.r, .int .i64 id.n] (kts l) 0 = some (l.findIdx? fun n => decide (id = n.e.id)) := by
  rw [findP_tags]; congr 1; cases List.findIdx? (fun n => decide (id = n.e.id)) l <;> rfl
def findN (l : List Nd) (id : Tg) : Option Nd := l.find? fun n => decide (id = n.e.id)
theorem findIdx_find {l : List Nd} {id : Tg} : (l.findIdx? fun n => decide (id = n.e.id)) = none ↔ findN l id = none := by
  unfold findN; rw [List.findIdx?_eq_none_iff, List.find?_eq_none]; simp
theorem findIdx_some {l : List Nd} {id : Tg} {i : Nat} (h : (l.findIdx? fun n => decide (id = n.e.id)) = some i) : i < l.length ∧ findN l id = some (l.getD i default) := by
  rw [List.findIdx?_eq_some_iff_getElem] at h
  obtain ⟨h1, h2, h3⟩ := h
  refine ⟨h1, ?_⟩
  unfold findN
  rw [List.find?_eq_some_iff_getElem]
  exact ⟨by rw [getD_lt h1]; exact h2, i, h1, (getD_lt h1).symm, fun j hj => by simpa using h3 j hj⟩
theorem getD_nd {l : List Nd} {i : Nat} (h : i < l.length) : (nds l).getD i .any = nd (l.getD i default) := getD_map h
theorem getD_kt {l : List Nd} {i : Nat} (h : i < l.length) : (kts l).getD i .any = tg (l.getD i default).e.id := getD_map (d := default) h

set_option maxHeartbeats 1000000 in
theorem TRoot_pure : PL.Pure Try.prog 26 [] (tg default) := by
  refine PL.Pure.of_v Try.func26 (by decide) rfl Try.ntmps26 Try.results26 (by simp) (rfl) ?_
  simp only [go_sem]
  rfl
set_option maxRecDepth 20000 in
set_option maxHeartbeats 4000000 in
theorem SRoot_pure : PL.Pure Try.prog 47 [] (flds rootL) := by
  refine PL.Pure.of_v Try.func47 (by decide) rfl Try.ntmps47 Try.results47 (by simp) (flds_dids _) ?_
  simp only [go_sem]
  repeat ((with_reducible refine And.intro ?_ ?_); (focus ((repeat' (with_reducible apply And.intro)) <;> (first | omega | exact room_small (by omega) (by omega) | exact room_small (by simp; omega) (by omega) | exact sized_str _ | (simp; done) | (simp; omega)))))
  rfl
def rootN : Nd := ⟨default, 2, rootL, 0⟩
def atN (l : List Nd) (id : Tg) : Nd := if id = default then rootN else (findN l id).getD default
theorem mk_new : PL.Mk Try.prog 8 [] (fun b => .rptr [.mref b]) (mc []) := by
  refine PL.Mk.of_v Try.func8 (by decide) rfl Try.ntmps8 Try.results8 (by simp) (fun b => rfl) ?_
  simp only [go_sem]
  intro b
  exact ⟨b, 3, [.mref b], rfl, by simp, rfl, by simp [mc, kts, nds], rfl⟩
set_option maxRecDepth 20000 in
set_option maxHeartbeats 8000000 in
theorem at_pure (l : List Nd) (id : Tg) : PL.Pure Try.prog 30 [tr l, tg id] (nd (atN l id)) := by
  unfold atN
  by_cases h : id = default
  · rw [if_pos h]
    subst h
    refine PL.Pure.of_v Try.func30 (by decide) rfl Try.ntmps30 Try.results30 (by simp) (nd_dids _) ?_
    simp only [go_sem, tr, tg]
    refine vDrawQ (by kernel_rfl) (by kernel_rfl) ?_
    simp only [go_sem]
    refine vCall_of (TRoot_pure) ?_ ?_ ?_; (focus simp only [go_sem, tg]); (focus simp only [go_sem, tg])
    simp only [go_sem, tg]
    refine vCall_of (SRoot_pure) ?_ ?_ ?_; (focus simp only [go_sem, tg]); (focus simp only [go_sem, tg])
    simp only [go_sem, flds]
    rfl
  · rw [if_neg h]
    have hd : decide (id = default) = false := by simpa using h
    refine PL.Pure.of_v Try.func30 (by decide) rfl Try.ntmps30 Try.results30 (by simp) (nd_dids _) ?_
    simp only [go_sem, tr, tg]
    refine vDrawQ (by kernel_rfl) (by kernel_rfl) ?_
    simp only [go_sem]
    refine vCall_of (TRoot_pure) ?_ ?_ ?_; (focus simp only [go_sem, tg]); (focus simp only [go_sem, tg])
    simp only [go_sem, tg, tg_fold, hd]
    cases hf : l.findIdx? (fun n => decide (id = n.e.id)) with
    | none =>
      have := findIdx_find.1 hf
      refine vDrawQ (by kernel_rfl) (by kernel_rfl) ?_
      simp only [go_sem, findP_tags0, hf, this, Option.getD_none]
      rfl
    | some i =>
      obtain ⟨h1, h2⟩ := findIdx_some hf
      refine vDrawQ (by kernel_rfl) (by kernel_rfl) ?_
      simp only [go_sem, findP_tags0, hf, h2, Option.getD_some, getD_nd h1, nd]
end Go.Proofs.Ytnadlkjmdimjkaa
