/- Contracts of functions and laws of this seat, each for every input that it names: lemmas of the proof. -/
import Derived.Test.YthingdchjkhfbaaGreatVXAw
set_option linter.unusedSimpArgs false
set_option linter.unusedVariables false
set_option linter.unusedSimpArgs false
set_option linter.unusedVariables false
namespace Go.Proofs.YthingdchjkhfbaaGreat
open Go.PL
theorem didsL_tg (l : List Tg) : PV.didsL (l.map tg) = [] := by
 induction l with
 | nil => rfl
 | cons t l ih => simp only [List.map_cons, PV.didsL, ih, tg, PV.dids, List.append_nil]
theorem sized_tg (l : List Tg) : Sized 2 (l.map tg) := fun e he => by
 obtain ⟨x, _, rfl⟩ := List.mem_map.1 he; rfl
theorem atoms_tg (l : List Tg) : Atoms (l.map tg) := fun e he => by
 obtain ⟨x, _, rfl⟩ := List.mem_map.1 he; rfl
def tagB (t : Tg) : Bool := decide (1 ≤ t.r) && (decide (t.r ≤ 6) && (decide (1 ≤ t.n) && decide (t.n ≤ 1099511627776)))
set_option maxHeartbeats 1000000 in
theorem Tag_pure (t : Tg) : PL.Pure Tryz.prog 74 [tg t] (.bool (tagB t)) := by
 refine PL.Pure.of_v Tryz.func74 (by decide) rfl Tryz.ntmps74 Tryz.results74 (by simp) rfl ?_
 simp only [go_sem, tg]
 repeat' (first | (refine vGuard_t (fun h => ?_) (fun h => ?_) <;> (try simp only [go_sem, h])) | (refine vGuard_f (fun h => ?_) (fun h => ?_) <;> (try simp only [go_sem, h])) | (refine vCond_b (fun h => ?_) (fun h => ?_) <;> (try simp only [go_sem, h])) | ((refine vDrawQ (by kernel_rfl) (by kernel_rfl) ?_); (try simp only [go_sem])))
 all_goals (simp_all [tagB] <;> (intros; omega))
def tlessB (a b : Tg) : Bool := if a.r = b.r then decide (a.n < b.n) else decide (a.r < b.r)
set_option maxHeartbeats 1000000 in
theorem TLess_pure (a b : Tg) : PL.Pure Tryz.prog 115 [tg a, tg b] (.bool (tlessB a b)) := by
 refine PL.Pure.of_v Tryz.func115 (by decide) rfl Tryz.ntmps115 Tryz.results115 (by simp) rfl ?_
 simp only [go_sem, tg]
 repeat' (first | (refine vGuard_t (fun h => ?_) (fun h => ?_) <;> (try simp only [go_sem, h])) | (refine vGuard_f (fun h => ?_) (fun h => ?_) <;> (try simp only [go_sem, h])) | (refine vCond_b (fun h => ?_) (fun h => ?_) <;> (try simp only [go_sem, h])) | ((refine vDrawQ (by kernel_rfl) (by kernel_rfl) ?_); (try simp only [go_sem])))
 all_goals simp_all [tlessB]
end Go.Proofs.YthingdchjkhfbaaGreat
