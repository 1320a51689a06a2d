/- Contracts of functions and laws of this seat, each for every input that it names: lemmas of the proof. -/
import Derived.Test.YtbojhapdidieoaaXAt
import Derived.Test.YtbojhapdidieoaaPlF
set_option linter.unusedSimpArgs false
set_option linter.unusedVariables false
set_option linter.unusedSimpArgs false
set_option linter.unusedVariables false
namespace Go.Proofs.Ytbojhapdidieoaa
open Go.PL
def arrM (l : List Fd) (x : Ln) : List Fd × Bool :=
  if x.kind = 2 then ([x.fd], true)
  else if x.kind = 3 then ([], decide ((findF l x.fd.at').2 = 0) && decide ((findF l x.fd.at').1 = x.fd))
  else if x.kind = 9 then mergedM l x
  else if (findF l x.at').2 ≠ 0 then ([], false)
  else if x.kind = 6 then ([⟨named x.at' x.nm, 1, [], [], (findF l x.at').1.worth⟩, ⟨named x.at' x.ot, 1, [], [], IntKind.i64.wrap ((findF l x.at').1.worth * x.fac)⟩], decide ((findF l x.at').1.kind = 1))
  else if x.kind = 7 then ([⟨x.at', 4, [], [], 0⟩], decide ((findF l x.at').1.kind = 2) && decide ((findF l x.at').1.df = x.ot))
  else if x.kind = 10 then ([⟨x.at', 2, x.ot, [], 0⟩], decide ((findF l x.at').1.kind = 4))
  else if x.kind = 8 then ([⟨x.at', 3, x.ot, fromsM x.ba, 0⟩], decide ((findF l x.at').1 = ⟨x.at', 3, x.nm, fromsM x.fo, 0⟩))
  else ([⟨(comesR x).getD 0 default, (findF l x.at').1.kind, (findF l x.at').1.df, (findF l x.at').1.cases', (findF l x.at').1.worth⟩], true)
theorem fromsM_len (l : List Pr) : (fromsM l).length = l.length := by simp [fromsM]
set_option maxRecDepth 20000 in
set_option maxHeartbeats 16000000 in
theorem arrivals_pure (l : List Fd) (x : Ln) (hl : OkFs l) (hx : OkLn x) (hr : rightLn x = true) : PL.Pure Try.prog 66 [flds l, lns x] (fldsb (arrM l x)) := by
  have hn := hl.n
  have hO := FOwn_pure x.fd hx.c
  have okA := okFind hl x.at'
  have okF := okFind hl x.fd.at'
  have f1 := SFind_pure l x.fd.at' (by omega) hl.c
  have f2 := SFind_pure l x.at' (by omega) hl.c
  have s1 := FSame_pure (findF l x.fd.at').1 x.fd (by rw [maxLen_eq]; omega) (by have := hx.c; rw [maxLen_eq]; omega)
  have s2 := FSame_pure (findF l x.at').1 ⟨x.at', 3, x.nm, fromsM x.fo, 0⟩ (by rw [maxLen_eq]; omega) (by have := hx.f; simp only [fromsM_len]; rw [maxLen_eq]; omega)
  have r1 := froms_pure x.fo hx.f
  have r2 := froms_pure x.ba hx.b
  have hC := Comes_pure x hx
  have hc : comesM x = comesR x := by simp [comesM, hr]
  rw [hc] at hC
  unfold arrM
  by_cases k9 : x.kind = 9
  · have hM := merged_pure l x hl hx hr k9
    rw [if_neg (by omega), if_neg (by omega), if_pos k9]
    generalize mergedM l x = y at *
    obtain ⟨y, b⟩ := y
    have e2 : (x.kind == 2) = false := by rw [k9]; rfl
    have e3 : (x.kind == 3) = false := by rw [k9]; rfl
    have e9 : (x.kind == 9) = true := by rw [k9]; rfl
    refine PL.Pure.of_v Try.func66 (by decide) rfl Try.ntmps66 Try.results66 (by simp) (fldsb_dids _) ?_
    simp only [go_sem, flds, lns, e2, e3, e9]
    refine vCall_of (hM) ?_ ?_ ?_; (focus simp only [go_sem, flds, lns]); (focus simp only [go_sem, flds, lns])
    simp only [go_sem, fldsb, flds]
  have e9 : (x.kind == 9) = false := beq_eq_false_iff_ne.2 k9
  rw [if_neg k9]
  generalize findF l x.fd.at' = a at *
  generalize findF l x.at' = b at *
  obtain ⟨a, a0⟩ := a
  obtain ⟨b, b0⟩ := b
  simp only at *
  by_cases k2 : x.kind = 2
  · have e2 : (x.kind == 2) = true := by rw [k2]; rfl
    rw [if_pos k2]
    refine PL.Pure.of_v Try.func66 (by decide) rfl Try.ntmps66 Try.results66 (by simp) (fldsb_dids _) ?_
    simp only [go_sem, flds, lns, e2]
    refine vCall_of (hO) ?_ ?_ ?_; (focus simp only [go_sem, fld]); (focus simp only [go_sem, fld])
    simp only [go_sem, fldsb, flds, fld]
  have e2 : (x.kind == 2) = false := beq_eq_false_iff_ne.2 k2
  rw [if_neg k2]
  by_cases k3 : x.kind = 3
  · have e3 : (x.kind == 3) = true := by rw [k3]; rfl
    rw [if_pos k3]
    refine PL.Pure.of_v Try.func66 (by decide) rfl Try.ntmps66 Try.results66 (by simp) (fldsb_dids _) ?_
    simp only [go_sem, flds, lns, e2, e3]
    refine vCall_of (f1) ?_ ?_ ?_; (focus simp only [go_sem, flds, ref]); (focus simp only [go_sem, flds, ref])
    simp only [go_sem, fldc, fld]
    repeat' (first | (refine vGuard_t (fun h => ?_) (fun h => ?_) <;> (try simp only [go_sem, h, fldc, fld, flds])) | (refine vGuard_f (fun h => ?_) (fun h => ?_) <;> (try simp only [go_sem, h, fldc, fld, flds])) | (refine vCond_b (fun h => ?_) (fun h => ?_) <;> (try simp only [go_sem, h, fldc, fld, flds])) | ((refine vCall_of (s1) ?_ ?_ ?_); (focus simp only [go_sem, fld]); (focus exact rfl); (try simp only [go_sem, fldc, fld, flds])) | ((refine vDrawQ (by kernel_rfl) (by kernel_rfl) ?_); (try simp only [go_sem, fldc, fld, flds])))
    all_goals (clear hO f1 f2 s1 s2 r1 r2 hC hl hx okA okF; simp_all [fldsb, flds, fld])
  have e3 : (x.kind == 3) = false := beq_eq_false_iff_ne.2 k3
  rw [if_neg k3]
  by_cases hb : b0 = 0
  · subst hb
    simp only [ne_eq, not_true_eq_false, if_false]
    by_cases k6 : x.kind = 6
    · have e6 : (x.kind == 6) = true := by rw [k6]; rfl
      have hcc : comesR x = [named x.at' x.nm, named x.at' x.ot] := by simp [comesR, k6]
      rw [hcc] at hC
      rw [if_pos k6]
      refine PL.Pure.of_v Try.func66 (by decide) rfl Try.ntmps66 Try.results66 (by simp) (fldsb_dids _) ?_
      simp only [go_sem, flds, lns, e2, e3, e9]
      refine vCall_of (f2) ?_ ?_ ?_; (focus simp only [go_sem, flds, ref]); (focus simp only [go_sem, flds, ref])
      simp only [go_sem, fldc, fld]
      refine vCall_of (hC) ?_ ?_ ?_; (focus simp only [go_sem, lns]); (focus simp only [go_sem, lns])
      simp only [go_sem, refs, ref, e6]
      repeat' (first | (refine vGuard_t (fun h => ?_) (fun h => ?_) <;> (try simp only [go_sem, h, refs, ref, fld])) | (refine vGuard_f (fun h => ?_) (fun h => ?_) <;> (try simp only [go_sem, h, refs, ref, fld])) | (refine vCond_b (fun h => ?_) (fun h => ?_) <;> (try simp only [go_sem, h, refs, ref, fld])) | ((refine vDrawQ (by kernel_rfl) (by kernel_rfl) ?_); (try simp only [go_sem, refs, ref, fld])))
      all_goals (clear hO f1 f2 s1 s2 r1 r2 hC hl hx okA okF; simp_all [fldsb, flds, fld] <;> (first | rfl | (rw [Bool.eq_iff_iff]; simp)))
    have e6 : (x.kind == 6) = false := beq_eq_false_iff_ne.2 k6
    rw [if_neg k6]
    by_cases k7 : x.kind = 7
    · have e7 : (x.kind == 7) = true := by rw [k7]; rfl
      rw [if_pos k7]
      refine PL.Pure.of_v Try.func66 (by decide) rfl Try.ntmps66 Try.results66 (by simp) (fldsb_dids _) ?_
      simp only [go_sem, flds, lns, e2, e3, e9]
      refine vCall_of (f2) ?_ ?_ ?_; (focus simp only [go_sem, flds, ref]); (focus simp only [go_sem, flds, ref])
      simp only [go_sem, fldc, fld]
      refine vCall_of (hC) ?_ ?_ ?_; (focus simp only [go_sem, lns]); (focus simp only [go_sem, lns])
      simp only [go_sem, refs, e6, e7]
      repeat' (first | (refine vGuard_t (fun h => ?_) (fun h => ?_) <;> (try simp only [go_sem, h])) | (refine vGuard_f (fun h => ?_) (fun h => ?_) <;> (try simp only [go_sem, h])) | (refine vCond_b (fun h => ?_) (fun h => ?_) <;> (try simp only [go_sem, h])) | ((refine vDrawQ (by kernel_rfl) (by kernel_rfl) ?_); (try simp only [go_sem])))
      all_goals (clear hO f1 f2 s1 s2 r1 r2 hC hl hx okA okF; simp_all [fldsb, flds, fld] <;> (first | rfl | (rw [Bool.eq_iff_iff]; simp)))
    have e7 : (x.kind == 7) = false := beq_eq_false_iff_ne.2 k7
    rw [if_neg k7]
    by_cases k10 : x.kind = 10
    · have e10 : (x.kind == 10) = true := by rw [k10]; rfl
      rw [if_pos k10]
      refine PL.Pure.of_v Try.func66 (by decide) rfl Try.ntmps66 Try.results66 (by simp) (fldsb_dids _) ?_
      simp only [go_sem, flds, lns, e2, e3, e9]
      refine vCall_of (f2) ?_ ?_ ?_; (focus simp only [go_sem, flds, ref]); (focus simp only [go_sem, flds, ref])
      simp only [go_sem, fldc, fld]
      refine vCall_of (hC) ?_ ?_ ?_; (focus simp only [go_sem, lns]); (focus simp only [go_sem, lns])
      simp only [go_sem, refs, e6, e7, e10]
      repeat' (first | (refine vGuard_t (fun h => ?_) (fun h => ?_) <;> (try simp only [go_sem, h])) | (refine vGuard_f (fun h => ?_) (fun h => ?_) <;> (try simp only [go_sem, h])) | (refine vCond_b (fun h => ?_) (fun h => ?_) <;> (try simp only [go_sem, h])) | ((refine vDrawQ (by kernel_rfl) (by kernel_rfl) ?_); (try simp only [go_sem])))
      all_goals (clear hO f1 f2 s1 s2 r1 r2 hC hl hx okA okF; simp_all [fldsb, flds, fld] <;> (first | rfl | (rw [Bool.eq_iff_iff]; simp)))
    have e10 : (x.kind == 10) = false := beq_eq_false_iff_ne.2 k10
    rw [if_neg k10]
    by_cases k8 : x.kind = 8
    · have e8 : (x.kind == 8) = true := by rw [k8]; rfl
      rw [if_pos k8]
      refine PL.Pure.of_v Try.func66 (by decide) rfl Try.ntmps66 Try.results66 (by simp) (fldsb_dids _) ?_
      simp only [go_sem, flds, lns, e2, e3, e9]
      refine vCall_of (f2) ?_ ?_ ?_; (focus simp only [go_sem, flds, ref]); (focus simp only [go_sem, flds, ref])
      simp only [go_sem, fldc, fld]
      refine vCall_of (hC) ?_ ?_ ?_; (focus simp only [go_sem, lns]); (focus simp only [go_sem, lns])
      simp only [go_sem, refs, e6, e7, e10, e8]
      repeat' (first | (refine vGuard_t (fun h => ?_) (fun h => ?_) <;> (try simp only [go_sem, h, strs, fld])) | (refine vGuard_f (fun h => ?_) (fun h => ?_) <;> (try simp only [go_sem, h, strs, fld])) | (refine vCond_b (fun h => ?_) (fun h => ?_) <;> (try simp only [go_sem, h, strs, fld])) | ((refine vCall_of (r1) ?_ ?_ ?_); (focus simp only [go_sem, prs, fld, strs]); (focus exact rfl); (try simp only [go_sem, strs, fld])) | ((refine vCall_of (r2) ?_ ?_ ?_); (focus simp only [go_sem, prs, fld, strs]); (focus exact rfl); (try simp only [go_sem, strs, fld])) | ((refine vCall_of (s2) ?_ ?_ ?_); (focus simp only [go_sem, prs, fld, strs]); (focus exact rfl); (try simp only [go_sem, strs, fld])) | ((refine vDrawQ (by kernel_rfl) (by kernel_rfl) ?_); (try simp only [go_sem, strs, fld])))
      all_goals (clear hO f1 f2 s1 s2 r1 r2 hC hl hx okA okF; simp_all [fldsb, flds, fld])
    have e8 : (x.kind == 8) = false := beq_eq_false_iff_ne.2 k8
    rw [if_neg k8]
    have hk : x.kind = 1 ∨ x.kind = 4 ∨ x.kind = 5 := by
      refine Decidable.byContradiction fun hne => ?_
      simp [rightLn, k2, k3, k6, k7, k8, k9, k10, show ¬ x.kind = 1 by omega, show ¬ x.kind = 4 by omega, show ¬ x.kind = 5 by omega] at hr
    obtain ⟨c, hcc⟩ : ∃ c, comesR x = [c] := by
      rcases hk with h | h | h <;> simp [comesR, h]
    rw [hcc] at hC ⊢
    refine PL.Pure.of_v Try.func66 (by decide) rfl Try.ntmps66 Try.results66 (by simp) (fldsb_dids _) ?_
    simp only [go_sem, flds, lns, e2, e3, e9]
    refine vCall_of (f2) ?_ ?_ ?_; (focus simp only [go_sem, flds, ref]); (focus simp only [go_sem, flds, ref])
    simp only [go_sem, fldc, fld]
    refine vCall_of (hC) ?_ ?_ ?_; (focus simp only [go_sem, lns]); (focus simp only [go_sem, lns])
    simp only [go_sem, refs, ref, e6, e7, e10, e8, fldsb, flds, fld]
  · have hb' : (b0 != 0) = true := bne_iff_ne.2 hb
    rw [if_pos hb]
    refine PL.Pure.of_v Try.func66 (by decide) rfl Try.ntmps66 Try.results66 (by simp) (fldsb_dids _) ?_
    simp only [go_sem, flds, lns, e2, e3, e9]
    refine vCall_of (f2) ?_ ?_ ?_; (focus simp only [go_sem, flds, ref]); (focus simp only [go_sem, flds, ref])
    simp only [go_sem, fldc, fld, hb', fldsb, flds]
end Go.Proofs.Ytbojhapdidieoaa

set_option linter.unusedSimpArgs false
set_option linter.unusedVariables false
set_option linter.unusedSimpArgs false
set_option linter.unusedVariables false
namespace Go.Proofs.Ytbojhapdidieoaa
open Go.PL
def goAll : List Rf → List Fd → Option (List Fd)
  | [], l => some l
  | r :: rs, l => if (withoutM l r).2 ≠ 0 then none else goAll rs (withoutM l r).1
def comeAll : List Fd → List Fd → Option (List Fd)
  | [], l => some l
  | f :: fs, l => if (withM l f).2 ≠ 0 then none else comeAll fs (withM l f).1
def applyR (l : List Fd) (x : Ln) : Option (List Fd) := if (arrM l x).2 = false then none else (goAll (goesR x) l).bind (comeAll (arrM l x).1)
def applyM (l : List Fd) (x : Ln) : List Fd × Int :=
  if rightL l = false ∨ rightLn x = false then ([], 5) else match applyR l x with | none => ([], 16) | some m => (m, 0)
theorem okWithout {l : List Fd} (h : OkFs l) (r : Rf) : OkFs (withoutM l r).1 := by
  unfold withoutM
  split
  · exact ⟨Nat.zero_le _, fun f hf => by cases hf⟩
  split
  · exact ⟨Nat.zero_le _, fun f hf => by cases hf⟩
  · exact ⟨Nat.le_trans (List.length_eraseIdx_le _ _) h.n, fun f hf => h.c f (List.mem_of_mem_eraseIdx hf)⟩
theorem mem_ins {l : List Fd} {f x : Fd} (h : x ∈ insM l f) : x ∈ l ∨ x = f := by
  unfold insM at h
  rcases List.mem_append.1 h with h | h
  · exact .inl (List.takeWhile_subset _ h)
  · rcases List.mem_cons.1 h with h | h
    · exact .inr h
    · exact .inl (List.dropWhile_subset _ h)
theorem okWith {l : List Fd} (h : OkFs l) {f : Fd} (hf : f.cases'.length ≤ 1000000) : OkFs (withM l f).1 := by
  unfold withM
  split
  · exact ⟨Nat.zero_le _, fun f hf => by cases hf⟩
  split
  · exact ⟨Nat.zero_le _, fun f hf => by cases hf⟩
  split
  · exact ⟨Nat.zero_le _, fun f hf => by cases hf⟩
  · refine ⟨by simp only [ins_len]; omega, fun g hg => ?_⟩
    rcases mem_ins hg with h' | h'
    · exact h.c g h'
    · rw [h']; exact hf
theorem okArr {l : List Fd} {x : Ln} (hl : OkFs l) (hx : OkLn x) : OkFs (arrM l x).1 := by
  have o1 : ∀ f : Fd, f.cases'.length ≤ 1000000 → OkFs [f] := fun f hf => ⟨by simp, fun g hg => by rw [List.mem_singleton.1 hg]; exact hf⟩
  have o0 : OkFs [] := ⟨Nat.zero_le _, fun f hf => by cases hf⟩
  unfold arrM
  split
  · exact o1 _ hx.c
  split
  · exact o0
  split
  · unfold mergedM
    split
    · exact o0
    split
    · exact o0
    · exact o1 _ (Nat.zero_le _)
  split
  · exact o0
  split
  · refine ⟨by simp, fun f hf => ?_⟩
    simp only [List.mem_cons, List.not_mem_nil, or_false] at hf
    rcases hf with rfl | rfl <;> exact Nat.zero_le _
  split
  · exact o1 _ (Nat.zero_le _)
  split
  · exact o1 _ (Nat.zero_le _)
  split
  · exact o1 _ (by simp only [fromsM_len]; exact hx.b)
  · exact o1 _ (okFind hl _)
set_option maxRecDepth 20000 in
set_option maxHeartbeats 16000000 in
theorem Apply_pure (l : List Fd) (x : Ln) (hl : OkFs l) (hx : OkLn x) : PL.Pure Try.prog 33 [flds l, lns x] (fldsc (applyM l x)) := by
  have hn := hl.n
  have hS := SRight_pure l (by rw [maxLen_eq]; omega) (fun f hf => by have := hl.c f hf; rw [maxLen_eq]; omega)
  have hR := LRight_pure x hx
  unfold applyM
  cases hsr : rightL l
  · rw [hsr] at hS
    refine PL.Pure.of_v Try.func33 (by decide) rfl Try.ntmps33 Try.results33 (by simp) (fldsc_dids _) ?_
    simp only [go_sem, flds, lns]
    refine vCall_of (hS) ?_ ?_ ?_; (focus simp only [go_sem, flds]); (focus simp only [go_sem, flds])
    simp only [go_sem, true_or, if_true, fldsc, flds]
  rw [hsr] at hS
  cases hlr : rightLn x
  · rw [hlr] at hR
    refine PL.Pure.of_v Try.func33 (by decide) rfl Try.ntmps33 Try.results33 (by simp) (fldsc_dids _) ?_
    simp only [go_sem, flds, lns]
    refine vCall_of (hS) ?_ ?_ ?_; (focus simp only [go_sem, flds]); (focus simp only [go_sem, flds])
    simp only [go_sem]
    refine vCall_of (hR) ?_ ?_ ?_; (focus simp only [go_sem, lns]); (focus simp only [go_sem, lns])
    simp only [go_sem, or_true, if_true, fldsc, flds]
  rw [hlr] at hR
  simp only [Bool.true_eq_false, or_self, if_false]
  have hA := arrivals_pure l x hl hx hlr
  have okA := okArr hl hx
  unfold applyR
  generalize arrM l x = y at *
  obtain ⟨come, ok⟩ := y
  simp only at okA ⊢
  cases ok
  · simp only [if_true]
    refine PL.Pure.of_v Try.func33 (by decide) rfl Try.ntmps33 Try.results33 (by simp) (fldsc_dids _) ?_
    simp only [go_sem, flds, lns]
    refine vCall_of (hS) ?_ ?_ ?_; (focus simp only [go_sem, flds]); (focus simp only [go_sem, flds])
    simp only [go_sem]
    refine vCall_of (hR) ?_ ?_ ?_; (focus simp only [go_sem, lns]); (focus simp only [go_sem, lns])
    simp only [go_sem]
    refine vCall_of (hA) ?_ ?_ ?_; (focus simp only [go_sem, flds, lns]); (focus simp only [go_sem, flds, lns])
    simp only [go_sem, fldsb, fldsc, flds]
  simp only [Bool.true_eq_false, if_false]
  have hO := SOwn_pure l (by omega) hl.c
  have hG := Goes_pure x hx
  have hg : goesM x = goesR x := by simp [goesM, hlr]
  rw [hg] at hG
  have hgl : (goesR x).length ≤ maxLen := by
    have : (goesR x).length ≤ 2 := by
      unfold goesR
      split
      · simp
      split
      · simp
      split <;> simp
    rw [maxLen_eq]; omega
  generalize goesR x = goes at *
  generalize hGo : goAll goes l = G
  refine PL.Pure.of_v Try.func33 (by decide) rfl Try.ntmps33 Try.results33 (by simp) (fldsc_dids _) ?_
  simp only [go_sem, flds, lns]
  refine vCall_of (hS) ?_ ?_ ?_; (focus simp only [go_sem, flds]); (focus simp only [go_sem, flds])
  simp only [go_sem]
  refine vCall_of (hR) ?_ ?_ ?_; (focus simp only [go_sem, lns]); (focus simp only [go_sem, lns])
  simp only [go_sem]
  refine vCall_of (hA) ?_ ?_ ?_; (focus simp only [go_sem, flds, lns]); (focus simp only [go_sem, flds, lns])
  simp only [go_sem, fldsb, flds]
  refine vCall_of (hO) ?_ ?_ ?_; (focus simp only [go_sem, flds]); (focus simp only [go_sem, flds])
  simp only [go_sem, flds, lns]
  refine vCall_of (hG) ?_ ?_ ?_; (focus simp only [go_sem, lns]); (focus simp only [go_sem, lns])
  simp only [go_sem, refs]
  refine vLoopM (ι := { x : Nat × (List Fd) // x.1 ≤ (goes).length ∧ (OkFs x.2 ∧ goAll (goes.drop x.1) x.2 = G) }) 64 (fun x => [(6, flds come), (8, flds x.1.2), (33, refs goes), (34, .int .i64 (goes.length : Int)), (35, .int .i64 (x.1.1 : Int))]) (fun x => []) (fun x => []) (fun x => (goes).length - x.1.1) ⟨(0, l), Nat.zero_le _, ⟨hl, hGo⟩⟩ ⟨rfl, (forall_cons rfl (forall_cons rfl (forall_cons rfl (forall_cons rfl (forall_cons rfl forall_nil))))), forall_nil, forall_nil⟩ (fun x => ⟨(forall_cons rfl (forall_cons rfl (forall_cons rfl (forall_cons rfl (forall_cons rfl forall_nil))))), forall_nil⟩) (fun x => ?_); obtain ⟨⟨k, out⟩, hk, hI⟩ := x; simp only at hk hI ⊢
  obtain ⟨okO, hI⟩ := hI
  have hon := okO.n
  by_cases h : (k : Int) < (goes.length : Int)
  · (have hka : k < (goes).length := by omega); (have w1 := w64s hka (hgl)); (have i1 : (0 : Int) ≤ (k : Int) := by omega)
    have hW := Without_pure out (goes.getD k default) (by omega) okO.c
    have okW := okWithout okO (goes.getD k default)
    rw [drop_cons' hka (d := default), goAll] at hI
    generalize withoutM out (goes.getD k default) = w at *
    obtain ⟨w, c⟩ := w
    simp only at hI okW
    by_cases hc : c = 0
    · subst hc
      simp only [ne_eq, not_true_eq_false, if_false] at hI
      simp only [go_sem, refs, h, i1, getD_ref hka, ref]
      refine vCall_of (hW) ?_ ?_ ?_; (focus simp only [go_sem, flds, ref]); (focus simp only [go_sem, flds, ref])
      simp only [go_sem, fldsc, flds, w1]
      exact ⟨⟨(k + 1, w), by (try simp only); omega, ⟨okW, hI⟩⟩, by show (goes).length - (k + 1) < (goes).length - k; omega, ⟨rfl, (forall_cons rfl (forall_cons rfl (forall_cons rfl (forall_cons rfl (forall_cons rfl forall_nil))))), forall_nil, forall_nil⟩⟩
    · have hc' : (c != 0) = true := bne_iff_ne.2 hc
      simp only [ne_eq, hc, not_false_eq_true, if_true] at hI
      subst hI
      simp only [go_sem, refs, h, i1, getD_ref hka, ref]
      refine vCall_of (hW) ?_ ?_ ?_; (focus simp only [go_sem, flds, ref]); (focus simp only [go_sem, flds, ref])
      simp only [go_sem, fldsc, flds, hc', Option.bind_none]
  · obtain rfl : k = goes.length := by omega
    rw [List.drop_length, goAll] at hI
    subst hI
    have hcl : come.length ≤ maxLen := by have := okA.n; rw [maxLen_eq]; omega
    simp only [go_sem, h, flds]
    refine vLoopM (ι := { x : Nat × (List Fd) // x.1 ≤ (come).length ∧ (OkFs x.2 ∧ comeAll (come.drop x.1) x.2 = comeAll come out) }) 64 (fun x => [(8, flds x.1.2), (48, flds come), (49, .int .i64 (come.length : Int)), (50, .int .i64 (x.1.1 : Int))]) (fun x => []) (fun x => []) (fun x => (come).length - x.1.1) ⟨(0, out), Nat.zero_le _, ⟨okO, rfl⟩⟩ ⟨rfl, (forall_cons rfl (forall_cons rfl (forall_cons rfl (forall_cons rfl forall_nil)))), forall_nil, forall_nil⟩ (fun x => ⟨(forall_cons rfl (forall_cons rfl (forall_cons rfl (forall_cons rfl forall_nil)))), forall_nil⟩) (fun x => ?_); obtain ⟨⟨kb, o2⟩, hkb, hIb⟩ := x; simp only at hkb hIb ⊢
    obtain ⟨ok2, hIb⟩ := hIb
    have hon2 := ok2.n
    by_cases hb : (kb : Int) < (come.length : Int)
    · (have hkab : kb < (come).length := by omega); (have w1b := w64s hkab (hcl)); (have i1b : (0 : Int) ≤ (kb : Int) := by omega)
      have hcf := okA.c _ (getD_mem' hkab (d := default))
      have hW := With_pure o2 (come.getD kb default) (by omega) ok2.c hcf
      have okW := okWith ok2 hcf
      rw [drop_cons' hkab (d := default), comeAll] at hIb
      generalize withM o2 (come.getD kb default) = w at *
      obtain ⟨w, c⟩ := w
      simp only at hIb okW
      by_cases hc : c = 0
      · subst hc
        simp only [ne_eq, not_true_eq_false, if_false] at hIb
        simp only [go_sem, flds, hb, i1b, getD_fld hkab, fld]
        refine vCall_of (hW) ?_ ?_ ?_; (focus simp only [go_sem, flds, fld]); (focus simp only [go_sem, flds, fld])
        simp only [go_sem, fldsc, flds, w1b]
        exact ⟨⟨(kb + 1, w), by (try simp only); omega, ⟨okW, hIb⟩⟩, by show (come).length - (kb + 1) < (come).length - kb; omega, ⟨rfl, (forall_cons rfl (forall_cons rfl (forall_cons rfl (forall_cons rfl forall_nil)))), forall_nil, forall_nil⟩⟩
      · have hc' : (c != 0) = true := bne_iff_ne.2 hc
        simp only [ne_eq, hc, not_false_eq_true, if_true] at hIb
        simp only [go_sem, flds, hb, i1b, getD_fld hkab, fld]
        refine vCall_of (hW) ?_ ?_ ?_; (focus simp only [go_sem, flds, fld]); (focus simp only [go_sem, flds, fld])
        simp only [go_sem, fldsc, flds, hc', ← hIb, Option.bind_some]
    · obtain rfl : kb = come.length := by omega
      rw [List.drop_length, comeAll] at hIb
      simp only [go_sem, flds, hb, ← hIb, fldsc, Option.bind_some]
end Go.Proofs.Ytbojhapdidieoaa

set_option linter.unusedSimpArgs false
set_option linter.unusedVariables false
set_option linter.unusedSimpArgs false
set_option linter.unusedVariables false
namespace Go.Proofs.Ytbojhapdidieoaa
open Go.PL
def tagB (t : Tg) : Bool := decide (1 ≤ t.r) && (decide (t.r ≤ 6) && (decide (1 ≤ t.n) && decide (t.n ≤ 1099511627776)))
end Go.Proofs.Ytbojhapdidieoaa

set_option linter.unusedSimpArgs false
set_option linter.unusedVariables false
set_option linter.unusedSimpArgs false
set_option linter.unusedVariables false
namespace Go.Proofs.Ytbojhapdidieoaa
open Go.PL
structure Nd where
  e : Eg
  st : Int
  sch : List Fd
  dep : Int
  deriving DecidableEq, Inhabited
def nd (n : Nd) : PV := .agg [.int .i64 n.e.id.r, .int .i64 n.e.id.n, .int .i64 n.e.par.r, .int .i64 n.e.par.n, .int .i64 n.e.ln.kind, .int .i64 n.e.ln.at'.sc, .str n.e.ln.at'.gr, .str n.e.ln.at'.nm, .str n.e.ln.nm, .str n.e.ln.ot, .int .i64 n.e.ln.fac, .int .i64 n.e.ln.fd.at'.sc, .str n.e.ln.fd.at'.gr, .str n.e.ln.fd.at'.nm, .int .i64 n.e.ln.fd.kind, .str n.e.ln.fd.df, .sl .no (n.e.ln.fd.cases'.map .str), .int .i64 n.e.ln.fd.worth, .sl .no (n.e.ln.fo.map pr), .sl .no (n.e.ln.ba.map pr), .int .i64 n.st, .sl .no (n.sch.map fld), .int .i64 n.dep]
def kts (l : List Nd) : List PV := l.map fun n => tg n.e.id
def nds (l : List Nd) : List PV := l.map nd
def mc (l : List Nd) : MapC := ⟨kts l, nds l⟩
end Go.Proofs.Ytbojhapdidieoaa

set_option linter.unusedSimpArgs false
set_option linter.unusedVariables false
set_option linter.unusedSimpArgs false
set_option linter.unusedVariables false
namespace Go.Proofs.Ytbojhapdidieoaa
open Go.PL
def findE (m : List Eg) (id : Tg) : Option Eg := m.find? fun e => decide (id = e.id)
theorem findE_id {m : List Eg} {id : Tg} {e : Eg} (h : findE m id = some e) : id = e.id ∧ e ∈ m := by
  unfold findE at h
  exact ⟨by simpa using List.find?_some h, List.mem_of_find?_eq_some h⟩
/-- the edges from the root to a tag -/
inductive Way (m : List Eg) : Tg → List Eg → Prop
  | root : Way m default []
  | step {id : Tg} {e : Eg} {w : List Eg} (hn : id ≠ default) (he : findE m id = some e) (hw : Way m e.par w) : Way m id (w ++ [e])
theorem Way.fn {m : List Eg} {id : Tg} {w w' : List Eg} (h : Way m id w) (h' : Way m id w') : w = w' := by
  induction h generalizing w' with
  | root => cases h' with
    | root => rfl
    | step hn he hw => exact absurd rfl hn
  | step hn he hw ih =>
    cases h' with
    | root => exact absurd rfl hn
    | step hn' he' hw' =>
      rw [he] at he'
      cases he'
      rw [ih hw']
theorem Way.mem {m : List Eg} {id : Tg} {w : List Eg} (h : Way m id w) : ∀ e ∈ w, e ∈ m := by
  induction h with
  | root => intro e he; cases he
  | step hn he hw ih =>
    intro x hx
    rcases List.mem_append.1 hx with hx | hx
    · exact ih x hx
    · rw [List.mem_singleton.1 hx]; exact (findE_id he).2
/-- each part of a way is a way -/
theorem Way.take {m : List Eg} {id : Tg} {w : List Eg} (h : Way m id w) : ∀ k (hk : k < w.length), Way m (w[k]).id (w.take (k + 1)) := by
  induction h with
  | root => intro k hk; simp at hk
  | step hn he hw ih =>
    rename_i id e w
    intro k hk
    by_cases hlt : k < w.length
    · rw [List.getElem_append_left hlt, List.take_append_of_le_length (by omega)]
      exact ih k hlt
    · have hk' : k = w.length := by simp at hk; omega
      subst hk'
      have e1 : (w ++ [e])[w.length]'hk = e := by simp
      rw [e1, List.take_of_length_le (by simp)]
      have := (findE_id he).1
      rw [← this]
      exact .step hn he hw
theorem Way.nodup {m : List Eg} {id : Tg} {w : List Eg} (h : Way m id w) : w.Nodup := by
  rw [List.nodup_iff_pairwise_ne, List.pairwise_iff_getElem]
  intro i j hi hj hij e
  have h1 := h.take i hi
  have h2 := h.take j hj
  rw [e] at h1
  have := congrArg List.length (h1.fn h2)
  simp at this
  omega
theorem nodup_le {α : Type} [DecidableEq α] : ∀ {l m : List α}, l.Nodup → (∀ x ∈ l, x ∈ m) → l.length ≤ m.length
  | [], _, _, _ => Nat.zero_le _
  | a :: l, m, hn, hs => by
    rw [List.nodup_cons] at hn
    have ha : a ∈ m := hs a (by simp)
    have := nodup_le (l := l) (m := m.erase a) hn.2 (fun x hx => (List.mem_erase_of_ne (fun e : x = a => hn.1 (e ▸ hx))).2 (hs x (by simp [hx])))
    rw [List.length_erase_of_mem ha] at this
    have : 0 < m.length := List.length_pos_of_mem ha
    simp only [List.length_cons]
    omega
theorem Way.len {m : List Eg} {id : Tg} {w : List Eg} (h : Way m id w) : w.length ≤ m.length := nodup_le h.nodup h.mem
/-- unlike tags, none of them the root's -/
structure Apart (m : List Eg) : Prop where
  d : (m.map (·.id)).Nodup
  n : ∀ e ∈ m, e.id ≠ default
theorem Apart.find {m : List Eg} (h : Apart m) {e : Eg} (he : e ∈ m) : findE m e.id = some e := by
  obtain ⟨l1, l2, rfl⟩ := List.append_of_mem he
  have hd := h.d
  simp only [List.map_append, List.map_cons] at hd
  unfold findE
  rw [List.find?_append]
  have hno : l1.find? (fun x => decide (e.id = x.id)) = none := by
    rw [List.find?_eq_none]
    intro x hx hh
    have hx' : x.id ∈ l1.map (·.id) := List.mem_map.2 ⟨x, hx, rfl⟩
    have := (List.nodup_append.1 hd).2.2 _ hx' e.id (by simp)
    exact this (by simpa using Eq.symm (by simpa using hh))
  rw [hno]
  simp
end Go.Proofs.Ytbojhapdidieoaa

set_option linter.unusedSimpArgs false
set_option linter.unusedVariables false
set_option linter.unusedSimpArgs false
set_option linter.unusedVariables false
namespace Go.Proofs.Ytbojhapdidieoaa
open Go.PL
theorem okGoAll : ∀ (rs : List Rf) {l m : List Fd}, OkFs l → goAll rs l = some m → OkFs m
  | [], l, m, h, e => by cases e; exact h
  | r :: rs, l, m, h, e => by
    unfold goAll at e
    split at e
    · cases e
    · exact okGoAll rs (okWithout h r) e
theorem okComeAll : ∀ (fs : List Fd) {l m : List Fd}, (∀ f ∈ fs, f.cases'.length ≤ 1000000) → OkFs l → comeAll fs l = some m → OkFs m
  | [], l, m, _, h, e => by cases e; exact h
  | f :: fs, l, m, hc, h, e => by
    unfold comeAll at e
    split at e
    · cases e
    · exact okComeAll fs (fun g hg => hc g (by simp [hg])) (okWith h (hc f (by simp))) e
theorem okApply {l : List Fd} {x : Ln} (hl : OkFs l) (hx : OkLn x) : OkFs (applyM l x).1 := by
  have o0 : OkFs [] := ⟨Nat.zero_le _, fun f hf => by cases hf⟩
  unfold applyM
  split
  · exact o0
  split
  · exact o0
  · rename_i m hm
    unfold applyR at hm
    split at hm
    · cases hm
    · obtain ⟨k, h1, h2⟩ := Option.bind_eq_some_iff.1 hm
      exact okComeAll _ (okArr hl hx).c (okGoAll _ hl h1) h2
structure Seen (n : Nat) (p : Nat → Prop) where
  l : List Nat
  d : l.Nodup
  h : ∀ i ∈ l, i < n ∧ p i
def Seen.next {n : Nat} {p : Nat → Prop} (s : Seen n p) (i : Nat) (hi : i < n) (hp : p i) (hn : i ∉ s.l) : Seen n p :=
  ⟨s.l ++ [i], by rw [List.nodup_append]; exact ⟨s.d, by simp, fun a ha b hb => by simp at hb; subst hb; exact fun e => hn (e ▸ ha)⟩, fun j hj => by
    rcases List.mem_append.1 hj with hj | hj
    · exact s.h j hj
    · simp at hj; subst hj; exact ⟨hi, hp⟩⟩
theorem Seen.len {n : Nat} {p : Nat → Prop} (s : Seen n p) : s.l.length ≤ n := by
  have := nodup_le (m := List.range n) s.d (fun i hi => List.mem_range.2 (s.h i hi).1)
  simpa using this
end Go.Proofs.Ytbojhapdidieoaa

set_option linter.unusedSimpArgs false
set_option linter.unusedVariables false
set_option linter.unusedSimpArgs false
set_option linter.unusedVariables false
namespace Go.Proofs.Ytbojhapdidieoaa
open Go.PL
end Go.Proofs.Ytbojhapdidieoaa

set_option linter.unusedSimpArgs false
set_option linter.unusedVariables false
set_option linter.unusedSimpArgs false
set_option linter.unusedVariables false
namespace Go.Proofs.Ytbojhapdidieoaa
open Go.PL
def edgeB (e : Eg) : Bool := tagB e.id && ((decide (e.par = default) || (tagB e.par && !decide (e.par = e.id))) && (decide (1 ≤ e.ln.kind) && (decide (e.ln.kind ≤ 8) && rightLn e.ln)))
theorem tagB_default {t : Tg} (h : tagB t = true) : t ≠ default := fun e => by subst e; exact absurd h (by decide)
end Go.Proofs.Ytbojhapdidieoaa

set_option linter.unusedSimpArgs false
set_option linter.unusedVariables false
set_option linter.unusedSimpArgs false
set_option linter.unusedVariables false
namespace Go.Proofs.Ytbojhapdidieoaa
open Go.PL
def pairTop (p : Pr) : Bool := longB 200 p.fr' || longB 200 p.to'
def heavyP (l : List Pr) : Bool := decide (20 < (l.length : Int)) || l.any pairTop
set_option maxRecDepth 20000 in
set_option maxHeartbeats 8000000 in
theorem RHeavyP_pure (l : List Pr) (hl : l.length ≤ maxLen) : PL.Pure Try.prog 61 [prs l] (.bool (heavyP l)) := by
  by_cases h20 : (20 : Int) < (l.length : Int)
  · refine PL.Pure.of_v Try.func61 (by decide) rfl Try.ntmps61 Try.results61 (by simp) rfl ?_
    simp only [go_sem, prs, h20, heavyP, Bool.true_or]
  · have hx : heavyP l = l.any pairTop := by simp only [heavyP, h20, decide_false, Bool.false_or]
    rw [hx]
    refine PL.Pure.of_v Try.func61 (by decide) rfl Try.ntmps61 Try.results61 (by simp) rfl ?_
    simp only [go_sem, prs, h20]
    refine vLoopM (ι := { x : Nat // x ≤ (l).length ∧ (∀ j, j < x → pairTop (l.getD j default) = false) }) 29 (fun x => [(0, prs l), (3, .int .i64 (x.1 : Int))]) (fun x => []) (fun x => []) (fun x => (l).length - x.1) ⟨0, Nat.zero_le _, fun j hj => absurd hj (Nat.not_lt_zero j)⟩ ⟨rfl, (forall_cons rfl (forall_cons rfl forall_nil)), forall_nil, forall_nil⟩ (fun x => ⟨(forall_cons rfl (forall_cons rfl forall_nil)), forall_nil⟩) (fun x => ?_); obtain ⟨k, hk, hI⟩ := x; simp only at hk hI ⊢
    by_cases h : (k : Int) < (l.length : Int)
    · (have hka : k < (l).length := by omega); (have w1 := w64s hka (hl)); (have i1 : (0 : Int) ≤ (k : Int) := by omega)
      by_cases g1 : (200 : Int) < ((l.getD k default).fr'.length : Int)
      · have hz := any_true (p := pairTop) hka (d := default) (by simp only [pairTop, longB, Bool.or_eq_true, decide_eq_true_eq]; omega)
        simp only [go_sem, prs, h, getD_pr hka, pr, i1, g1, hz]
      · by_cases g2 : (200 : Int) < ((l.getD k default).to'.length : Int)
        · have hz := any_true (p := pairTop) hka (d := default) (by simp only [pairTop, longB, Bool.or_eq_true, decide_eq_true_eq]; omega)
          simp only [go_sem, prs, h, getD_pr hka, pr, i1, g1, g2, hz]
        · simp only [go_sem, prs, h, getD_pr hka, pr, i1, g1, g2, w1]
          exact ⟨⟨k + 1, by (try simp only); omega, below_succ hI (by simp only [pairTop, longB, Bool.or_eq_false_iff, decide_eq_false_iff_not]; omega)⟩, by show (l).length - (k + 1) < (l).length - k; omega, ⟨rfl, (forall_cons rfl (forall_cons rfl forall_nil)), forall_nil, forall_nil⟩⟩
    · have hz := any_false (p := pairTop) (d := default) (l := l) (fun j hj => hI j (by omega))
      simp only [go_sem, prs, h, hz]
theorem longI (s : Str) : longB 200 s = decide ((200 : Int) < (s.length : Int)) := rfl
def heavyLn (x : Ln) : Bool := longB 200 x.at'.gr || (longB 200 x.at'.nm || (longB 200 x.nm || (longB 200 x.ot || (heavyF x.fd || (heavyP x.fo || heavyP x.ba)))))
structure LenLn (x : Ln) : Prop where
  c : x.fd.cases'.length ≤ maxLen
  f : x.fo.length ≤ maxLen
  b : x.ba.length ≤ maxLen
set_option maxRecDepth 20000 in
set_option maxHeartbeats 8000000 in
theorem RHeavyLn_pure (x : Ln) (hx : LenLn x) : PL.Pure Try.prog 29 [lns x] (.bool (heavyLn x)) := by
  have hF := RHeavyF_pure x.fd hx.c
  have hP := RHeavyP_pure x.fo hx.f
  have hQ := RHeavyP_pure x.ba hx.b
  unfold heavyLn
  generalize heavyF x.fd = a1 at *
  generalize heavyP x.fo = a2 at *
  generalize heavyP x.ba = a3 at *
  refine PL.Pure.of_v Try.func29 (by decide) rfl Try.ntmps29 Try.results29 (by simp) rfl ?_
  simp only [go_sem, lns]
  repeat' (first | (refine vGuard_t (fun h => ?_) (fun h => ?_) <;> (try simp only [go_sem, h])) | (refine vGuard_f (fun h => ?_) (fun h => ?_) <;> (try simp only [go_sem, h])) | (refine vCond_b (fun h => ?_) (fun h => ?_) <;> (try simp only [go_sem, h])) | ((refine vCall_of (hF) ?_ ?_ ?_); (focus simp only [go_sem, fld, prs]); (focus exact rfl); (try simp only [go_sem])) | ((refine vCall_of (hP) ?_ ?_ ?_); (focus simp only [go_sem, fld, prs]); (focus exact rfl); (try simp only [go_sem])) | ((refine vCall_of (hQ) ?_ ?_ ?_); (focus simp only [go_sem, fld, prs]); (focus exact rfl); (try simp only [go_sem])) | ((refine vDrawQ (by kernel_rfl) (by kernel_rfl) ?_); (try simp only [go_sem])))
  all_goals (clear hF hP hQ hx; simp only [longI, *, Bool.true_or, Bool.or_true, Bool.false_or, Bool.or_false])
theorem okOfHeavy {x : Ln} (h : heavyLn x = false) : OkLn x := by
  simp only [heavyLn, heavyF, fldTop, heavyP, Bool.or_eq_false_iff, decide_eq_false_iff_not] at h
  obtain ⟨_, _, _, _, ⟨⟨_, _, _, h1⟩, _⟩, ⟨h2, _⟩, h3, _⟩ := h
  exact ⟨by omega, by omega, by omega⟩
end Go.Proofs.Ytbojhapdidieoaa

set_option linter.unusedSimpArgs false
set_option linter.unusedVariables false
set_option linter.unusedSimpArgs false
set_option linter.unusedVariables false
namespace Go.Proofs.Ytbojhapdidieoaa
open Go.PL
def putM (m : List Eg) (e : Eg) : List Eg × Int :=
  if edgeB e = false then (m, 5) else match findE m e.id with
    | some x => if x = e then (m, 7) else (m, 15)
    | none => if 40 ≤ m.length then (m, 9) else (m ++ [e], 0)
/-- a list of edges that a tree holds -/
structure OkM (m : List Eg) : Prop where
  a : Apart m
  l : ∀ e ∈ m, OkLn e.ln
  n : m.length ≤ 40
theorem okM_nil : OkM [] := ⟨⟨by simp, fun e h => (by cases h)⟩, fun e h => (by cases h), by simp⟩
theorem okPut {m : List Eg} (h : OkM m) {e : Eg} (he : OkLn e.ln) : OkM (putM m e).1 := by
  unfold putM
  split
  · exact h
  · rename_i hb
    split
    · split <;> exact h
    · rename_i hf
      split
      · exact h
      · rename_i hn
        refine ⟨⟨?_, fun x hx => ?_⟩, fun x hx => ?_, by simp; omega⟩
        · rw [List.map_append, List.nodup_append]
          refine ⟨h.a.d, by simp, fun a ha b hb' => ?_⟩
          simp only [List.map_cons, List.map_nil, List.mem_singleton] at hb'
          subst hb'
          obtain ⟨x, hx, rfl⟩ := List.mem_map.1 ha
          unfold findE at hf
          rw [List.find?_eq_none] at hf
          have := hf x hx
          simp only [decide_eq_true_eq] at this
          exact fun e1 => this e1.symm
        · rcases List.mem_append.1 hx with hx | hx
          · exact h.a.n x hx
          · rw [List.mem_singleton.1 hx]
            have hb : edgeB e = true := by simpa using hb
            simp only [edgeB, Bool.and_eq_true] at hb
            exact tagB_default hb.1
        · rcases List.mem_append.1 hx with hx | hx
          · exact h.l x hx
          · rw [List.mem_singleton.1 hx]; exact he
/-- with one more edge the settled ones are as they were -/
theorem findE_append {m : List Eg} {e x : Eg} {id : Tg} (h : findE m id = some x) : findE (m ++ [e]) id = some x := by
  unfold findE at *; rw [List.find?_append, h]; rfl
theorem Way.append {m : List Eg} {e : Eg} {id : Tg} {w : List Eg} (h : Way m id w) : Way (m ++ [e]) id w := by
  induction h with
  | root => exact .root
  | step hn he hw ih => exact .step hn (findE_append he) ih
end Go.Proofs.Ytbojhapdidieoaa

set_option linter.unusedSimpArgs false
set_option linter.unusedVariables false
set_option linter.unusedSimpArgs false
set_option linter.unusedVariables false
namespace Go.Proofs.Ytbojhapdidieoaa
open Go.PL
end Go.Proofs.Ytbojhapdidieoaa

set_option linter.unusedSimpArgs false
set_option linter.unusedVariables false
set_option linter.unusedSimpArgs false
set_option linter.unusedVariables false
namespace Go.Proofs.Ytbojhapdidieoaa
open Go.PL
/-- the way up of a tag, from the way down to it -/
def upL (w : List Eg) : List Tg := (w.reverse.map (·.id)) ++ [default]
structure UpS (m : List Eg) (w : List Eg) where
  id : Tg
  r : List Eg
  acc : List Tg
  hw : Way m id r
  hx : acc ++ (upL r).tail = upL w
end Go.Proofs.Ytbojhapdidieoaa

set_option linter.unusedSimpArgs false
set_option linter.unusedVariables false
set_option linter.unusedSimpArgs false
set_option linter.unusedVariables false
namespace Go.Proofs.Ytbojhapdidieoaa
open Go.PL
theorem Apart.inj {m : List Eg} (h : Apart m) {a b : Eg} (ha : a ∈ m) (hb : b ∈ m) (e : a.id = b.id) : a = b := by
  have h1 := h.find ha
  rw [e, h.find hb] at h1
  cases h1; rfl
structure WayT where
  up : List Tg
  down : List Tg
  i : Nat
  j : Nat
  c : Int
end Go.Proofs.Ytbojhapdidieoaa

set_option linter.unusedSimpArgs false
set_option linter.unusedVariables false
set_option linter.unusedSimpArgs false
set_option linter.unusedVariables false
namespace Go.Proofs.Ytbojhapdidieoaa
open Go.PL
end Go.Proofs.Ytbojhapdidieoaa
