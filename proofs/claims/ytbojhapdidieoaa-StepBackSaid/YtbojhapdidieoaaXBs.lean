/- Contracts of functions and laws of this seat, each for every input that it names: lemmas of the proof. -/
import Derived.Test.YtbojhapdidieoaaXBa
set_option linter.unusedSimpArgs false
set_option linter.unusedVariables false
set_option linter.unusedSimpArgs false
set_option linter.unusedVariables false
namespace Go.Proofs.Ytbojhapdidieoaa
open Go.PL
theorem atF_idx (l : List Fd) (r : Rf) : (idx (atF r) l = -1 ∧ ∀ g ∈ l, g.at' ≠ r) ∨ ∃ i : Nat, ∃ h : i < l.length, idx (atF r) l = (i : Int) ∧ (l[i]).at' = r := by
  unfold idx
  cases hf : l.findIdx? (atF r) with
  | none =>
    left
    refine ⟨rfl, fun g hg e => ?_⟩
    rw [List.findIdx?_eq_none_iff] at hf
    have := hf g hg
    simp [atF, e] at this
  | some i =>
    right
    rw [List.findIdx?_eq_some_iff_getElem] at hf
    obtain ⟨h1, h2, _⟩ := hf
    exact ⟨i, h1, rfl, by simpa [atF] using h2⟩
theorem find_mem {l : List Fd} (h : Rise l) {f : Fd} (hf : f ∈ l) : findF l f.at' = (f, 0) := by
  unfold findF
  rcases atF_idx l f.at' with ⟨_, h2⟩ | ⟨i, hi, h1, h2⟩
  · exact absurd rfl (h2 f hf)
  · rw [h1, if_neg (by omega)]
    simp only [Int.toNat_natCast]
    rw [getD_lt hi]
    rw [rise_at h (List.getElem_mem hi) hf h2]
theorem find_zero {l : List Fd} {r : Rf} (h : (findF l r).2 = 0) : (findF l r).1 ∈ l ∧ (findF l r).1.at' = r := by
  unfold findF at *
  rcases atF_idx l r with ⟨h1, _⟩ | ⟨i, hi, h1, h2⟩
  · rw [h1] at h; simp at h
  · rw [h1, if_neg (by omega)]
    simp only [Int.toNat_natCast]
    rw [getD_lt hi]
    exact ⟨List.getElem_mem hi, h2⟩
theorem wo_fwd {l : List Fd} {r : Rf} (h : (withoutM l r).2 = 0) : rightL l = true ∧ (∃ f ∈ l, f.at' = r) ∧ rightL (withoutM l r).1 = true ∧ (∀ g, g ∈ (withoutM l r).1 ↔ g ∈ l ∧ g.at' ≠ r) ∧ (withoutM l r).1.length + 1 = l.length := by
  unfold withoutM at *
  cases hr : rightL l with
  | false => rw [hr] at h; simp at h
  | true =>
    rcases atF_idx l r with ⟨h1, _⟩ | ⟨i, hi, h1, h2⟩
    · rw [hr, h1] at h; simp at h
    · simp only [h1, Bool.true_eq_false, if_false, show ¬ (i : Int) < 0 by omega, Int.toNat_natCast]
      obtain ⟨k1, k2, k3⟩ := right_iff.1 hr
      have hsub : (l.eraseIdx i).Sublist l := List.eraseIdx_sublist _ _
      have hlen : (l.eraseIdx i).length + 1 = l.length := by rw [List.length_eraseIdx_of_lt hi]; omega
      refine ⟨trivial, ⟨_, List.getElem_mem hi, h2⟩, right_iff.2 ⟨by omega, List.Pairwise.sublist hsub k2, fun f hf => k3 f (hsub.mem hf)⟩, fun g => ?_, hlen⟩
      rw [List.mem_eraseIdx_iff_getElem]
      constructor
      · rintro ⟨j, hj, hne, rfl⟩
        refine ⟨List.getElem_mem hj, fun e => ?_⟩
        have e2 := rise_at k2 (List.getElem_mem hj) (List.getElem_mem hi) (e.trans h2.symm)
        rcases Nat.lt_trichotomy j i with q | q | q
        · have := List.pairwise_iff_getElem.1 k2 j i hj hi q
          rw [e2, lb_irrefl] at this; cases this
        · exact hne q
        · have := List.pairwise_iff_getElem.1 k2 i j hi hj q
          rw [e2, lb_irrefl] at this; cases this
      · rintro ⟨hg, hne⟩
        obtain ⟨j, hj, rfl⟩ := List.getElem_of_mem hg
        exact ⟨j, hj, fun e => hne (by subst e; exact h2), rfl⟩
theorem ins_mem (l : List Fd) (f g : Fd) : g ∈ insM l f ↔ g ∈ l ∨ g = f := by
  unfold insM
  have := List.takeWhile_append_dropWhile (p := less' f.at') (l := l)
  constructor
  · intro h
    rcases List.mem_append.1 h with h | h
    · exact .inl (by rw [← this]; exact List.mem_append_left _ h)
    · rcases List.mem_cons.1 h with h | h
      · exact .inr h
      · exact .inl (by rw [← this]; exact List.mem_append_right _ h)
  · rintro (h | h)
    · rw [← this] at h
      rcases List.mem_append.1 h with h | h
      · exact List.mem_append_left _ h
      · exact List.mem_append_right _ (List.mem_cons_of_mem _ h)
    · exact List.mem_append_right _ (by simp [h])
theorem ins_rise : ∀ {l : List Fd} {f : Fd}, Rise l → (∀ g ∈ l, g.at' ≠ f.at') → Rise (insM l f)
  | [], f, _, _ => List.pairwise_singleton _ _
  | a :: l, f, h, hn => by
    obtain ⟨p, q⟩ := List.pairwise_cons.1 h
    cases hb : lessB a.at' f.at' with
    | true =>
      rw [ins_t hb]
      refine List.pairwise_cons.2 ⟨fun x hx => ?_, ins_rise q (fun g hg => hn g (by simp [hg]))⟩
      rcases (ins_mem l f x).1 hx with hx | hx
      · exact p x hx
      · rw [hx]; exact hb
    | false =>
      rw [ins_f hb]
      have hfa : lessB f.at' a.at' = true := by
        rcases lb_total a.at' f.at' with h1 | h1 | h1
        · rw [hb] at h1; cases h1
        · exact absurd h1 (hn a (by simp))
        · exact h1
      refine List.pairwise_cons.2 ⟨fun x hx => ?_, h⟩
      rcases List.mem_cons.1 hx with rfl | hx
      · exact hfa
      · exact lb_trans hfa (p x hx)
theorem wi_fwd {l : List Fd} {f : Fd} (h : (withM l f).2 = 0) : rightL l = true ∧ rightF f = true ∧ (∀ g ∈ l, g.at' ≠ f.at') ∧ rightL (withM l f).1 = true ∧ (∀ g, g ∈ (withM l f).1 ↔ g ∈ l ∨ g = f) ∧ (withM l f).1.length = l.length + 1 := by
  unfold withM at *
  cases hr : rightL l with
  | false => rw [hr] at h; simp at h
  | true =>
    cases hf : rightF f with
    | false => rw [hr, hf] at h; simp at h
    | true =>
      rcases atF_idx l f.at' with ⟨h1, h2⟩ | ⟨i, hi, h1, h2⟩
      · by_cases hl : 16 ≤ (l.length : Int)
        · rw [hr, hf, h1] at h; simp [hl] at h
        · simp only [h1, Bool.true_eq_false, or_self, if_false, hl, show ¬ (0 : Int) ≤ -1 by omega]
          obtain ⟨k1, k2, k3⟩ := right_iff.1 hr
          have hil := ins_len l f
          refine ⟨trivial, trivial, h2, right_iff.2 ⟨by omega, ins_rise k2 h2, fun g hg => ?_⟩, fun g => ins_mem l f g, hil⟩
          rcases (ins_mem l f g).1 hg with hg | hg
          · exact k3 g hg
          · rw [hg]; exact hf
      · rw [hr, hf, h1] at h; simp at h
theorem go_fwd : ∀ {rs : List Rf} {l m : List Fd}, rightL l = true → goAll rs l = some m → rightL m = true ∧ (∀ g, g ∈ m ↔ g ∈ l ∧ g.at' ∉ rs) ∧ (∀ r ∈ rs, ∃ f ∈ l, f.at' = r) ∧ rs.Nodup ∧ m.length + rs.length = l.length
  | [], l, m, hr, h => by cases h; exact ⟨hr, by simp, by simp, by simp, by simp⟩
  | r :: rs, l, m, hr, h => by
    unfold goAll at h
    split at h
    · cases h
    · rename_i hz
      obtain ⟨a1, a2, a3, a4, a5⟩ := wo_fwd (by simpa using hz)
      obtain ⟨b1, b2, b3, b4, b5⟩ := go_fwd a3 h
      refine ⟨b1, fun g => ?_, fun q hq => ?_, List.nodup_cons.2 ⟨fun hin => ?_, b4⟩, by simp only [List.length_cons]; omega⟩
      · rw [b2, a4]
        simp only [List.mem_cons, not_or]
        exact ⟨fun h => ⟨h.1.1, h.1.2, h.2⟩, fun h => ⟨⟨h.1, h.2.1⟩, h.2.2⟩⟩
      · rcases List.mem_cons.1 hq with rfl | hq
        · exact a2
        · obtain ⟨f, hf, e⟩ := b3 q hq
          exact ⟨f, ((a4 f).1 hf).1, e⟩
      · obtain ⟨f, hf, e⟩ := b3 r hin
        exact ((a4 f).1 hf).2 e
theorem come_fwd : ∀ {fs l m : List Fd}, rightL l = true → comeAll fs l = some m → rightL m = true ∧ (∀ g, g ∈ m ↔ g ∈ l ∨ g ∈ fs) ∧ (∀ f ∈ fs, rightF f = true ∧ ∀ g ∈ l, g.at' ≠ f.at') ∧ (fs.map (·.at')).Nodup ∧ m.length = l.length + fs.length
  | [], l, m, hr, h => by cases h; exact ⟨hr, by simp, by simp, by simp, by simp⟩
  | f :: fs, l, m, hr, h => by
    unfold comeAll at h
    split at h
    · cases h
    · rename_i hz
      obtain ⟨a1, a2, a3, a4, a5, a6⟩ := wi_fwd (by simpa using hz)
      obtain ⟨b1, b2, b3, b4, b5⟩ := come_fwd a4 h
      refine ⟨b1, fun g => ?_, fun q hq => ?_, ?_, by simp only [List.length_cons]; omega⟩
      · rw [b2, a5, List.mem_cons, or_assoc]
      · rcases List.mem_cons.1 hq with rfl | hq
        · exact ⟨a2, a3⟩
        · exact ⟨(b3 q hq).1, fun g hg => (b3 q hq).2 g ((a5 g).2 (.inl hg))⟩
      · rw [List.map_cons, List.nodup_cons]
        refine ⟨fun hin => ?_, b4⟩
        obtain ⟨q, hq, e⟩ := List.mem_map.1 hin
        exact (b3 q hq).2 f ((a5 f).2 (.inr rfl)) e.symm
theorem apply_fwd {l m : List Fd} {x : Ln} (h : applyM l x = (m, 0)) : rightL l = true ∧ rightLn x = true ∧ ∃ cs l1, arrM l x = (cs, true) ∧ goAll (goesR x) l = some l1 ∧ comeAll cs l1 = some m := by
  unfold applyM at h
  split at h
  · simp at h
  · rename_i hh
    simp only [not_or, Bool.not_eq_false] at hh
    refine ⟨hh.1, hh.2, ?_⟩
    split at h
    · simp at h
    · rename_i k hk
      simp only [Prod.mk.injEq, and_true] at h
      subst h
      unfold applyR at hk
      split at hk
      · cases hk
      · rename_i ha
        obtain ⟨l1, h1, h2⟩ := Option.bind_eq_some_iff.1 hk
        refine ⟨(arrM l x).1, l1, ?_, h1, h2⟩
        have : (arrM l x).2 = true := by simpa using ha
        rw [← this]
end Go.Proofs.Ytbojhapdidieoaa

set_option linter.unusedSimpArgs false
set_option linter.unusedVariables false
set_option linter.unusedSimpArgs false
set_option linter.unusedVariables false
namespace Go.Proofs.Ytbojhapdidieoaa
open Go.PL
end Go.Proofs.Ytbojhapdidieoaa

set_option linter.unusedSimpArgs false
set_option linter.unusedVariables false
set_option linter.unusedSimpArgs false
set_option linter.unusedVariables false
namespace Go.Proofs.Ytbojhapdidieoaa
open Go.PL
structure ChT where
  l : List Fd
  n : Nat
  c : Int
def chainA : List Fd → List Ln → Nat → ChT
  | fs, [], i => ⟨fs, i, 0⟩
  | fs, x :: xs, i => if (applyM fs x).2 ≠ 0 then ⟨[], i, (applyM fs x).2⟩ else chainA (applyM fs x).1 xs (i + 1)
structure ChS (l : List Fd) (row : List Ln) where
  k : Nat
  fs : List Fd
  hk : k ≤ row.length
  ok : OkFs fs
  h : chainA fs (row.drop k) k = chainA l row 0
end Go.Proofs.Ytbojhapdidieoaa

set_option linter.unusedSimpArgs false
set_option linter.unusedVariables false
set_option linter.unusedSimpArgs false
set_option linter.unusedVariables false
namespace Go.Proofs.Ytbojhapdidieoaa
open Go.PL
end Go.Proofs.Ytbojhapdidieoaa

set_option linter.unusedSimpArgs false
set_option linter.unusedVariables false
set_option linter.unusedSimpArgs false
set_option linter.unusedVariables false
namespace Go.Proofs.Ytbojhapdidieoaa
open Go.PL
def keptL : List Ln → Rf → Bool
  | [], r => true
  | x :: xs, r => if keptM x r = false then false else if (traceM x r).2 = false then false else keptL xs (traceM x r).1
structure TrS (row : List Ln) (f : List Ln → Rf → Rf × Bool) (r0 : Rf) where
  k : Nat
  r : Rf
  hk : k ≤ row.length
  h : f (row.drop k) r = f row r0
structure KpS (row : List Ln) (r0 : Rf) where
  k : Nat
  r : Rf
  hk : k ≤ row.length
  h : keptL (row.drop k) r = keptL row r0
end Go.Proofs.Ytbojhapdidieoaa

set_option linter.unusedSimpArgs false
set_option linter.unusedVariables false
set_option linter.unusedSimpArgs false
set_option linter.unusedVariables false
namespace Go.Proofs.Ytbojhapdidieoaa
open Go.PL
/-- two lenses that lead to and back between two schemas -/
structure Pair (l m : List Fd) (x y : Ln) : Prop where
  a : applyM l x = (m, 0)
  b : applyM m y = (l, 0)
  g : goesR y = comesR x
  c : comesR y = goesR x
theorem Pair.back {l m : List Fd} {x y : Ln} (h : Pair l m x y) : Pair m l y x := ⟨h.b, h.a, h.c.symm, h.g.symm⟩
def On (l : List Fd) (r : Rf) : Prop := ∃ f ∈ l, f.at' = r
theorem Pair.right {l m : List Fd} {x y : Ln} (h : Pair l m x y) : rightLn x = true := (apply_fwd h.a).2.1
/-- what comes is on the far side -/
theorem Pair.comes {l m : List Fd} {x y : Ln} (h : Pair l m x y) : ∀ r ∈ comesR x, On m r := by
  obtain ⟨hm, hy, cs, l1, h1, h2, h3⟩ := apply_fwd h.b
  obtain ⟨a1, a2, a3, a4, a5⟩ := go_fwd hm h2
  rw [← h.g]; exact a3
/-- a row of lenses with those that lead back -/
inductive Pairs : List Fd → List Fd → List Ln → List Ln → Prop
  | nil (l : List Fd) : Pairs l l [] []
  | cons {l m n : List Fd} {x y : Ln} {xs ys : List Ln} (h : Pair l m x y) (hs : Pairs m n xs ys) : Pairs l n (x :: xs) (ys ++ [y])
theorem Pairs.append {l m n : List Fd} {xs ys us vs : List Ln} (h1 : Pairs l m xs ys) (h2 : Pairs m n us vs) : Pairs l n (xs ++ us) (vs ++ ys) := by
  induction h1 with
  | nil => simpa using h2
  | cons h hs ih => rw [← List.append_assoc]; exact .cons h (ih h2)
theorem Pairs.back {l m : List Fd} {xs ys : List Ln} (h : Pairs l m xs ys) : Pairs m l ys xs := by
  induction h with
  | nil => exact .nil _
  | cons h hs ih => exact ih.append (.cons h.back (.nil _))
end Go.Proofs.Ytbojhapdidieoaa

set_option linter.unusedSimpArgs false
set_option linter.unusedVariables false
set_option linter.unusedSimpArgs false
set_option linter.unusedVariables false
namespace Go.Proofs.Ytbojhapdidieoaa
open Go.PL
structure Opn where
  id : Tg
  sch : Tg
  time : Int
  cart : Str
  kind : Int
  item : Str
  at' : Rf
  delta : Int
  has : Bool
  text : Str
  drops : List Tg
  deriving DecidableEq, Inhabited
def opv (o : Opn) : PV := .agg [.int .i64 o.id.r, .int .i64 o.id.n, .int .i64 o.sch.r, .int .i64 o.sch.n, .int .i64 o.time, .str o.cart, .int .i64 o.kind, .str o.item, .int .i64 o.at'.sc, .str o.at'.gr, .str o.at'.nm, .int .i64 o.delta, .bool o.has, .str o.text, .sl .no (o.drops.map tg)]
theorem opv_dids (o : Opn) : (opv o).dids = [] := by simp only [opv, PV.dids, PV.didsL, didsL_tg, List.append_nil]
theorem opv_default : opv default = .agg [.int .i64 0, .int .i64 0, .int .i64 0, .int .i64 0, .int .i64 0, .str [], .int .i64 0, .str [], .int .i64 0, .str [], .str [], .int .i64 0, .bool false, .str [], .sl .no []] := rfl
set_option maxRecDepth 20000 in
set_option maxHeartbeats 8000000 in
theorem OSame_pure (a b : Opn) (ha : a.drops.length ≤ maxLen) (hb : b.drops.length ≤ maxLen) : PL.Pure Try.prog 116 [opv a, opv b] (.bool (decide (a = b))) := by
  have hE := EqTg_pure a.drops b.drops ha hb
  refine PL.Pure.of_v Try.func116 (by decide) rfl Try.ntmps116 Try.results116 (by simp) rfl ?_
  simp only [go_sem, reduceIte, Nat.reduceEqDiff, reduceCtorEq, Nat.reduceLT, Nat.reduceAdd, Nat.reduceSub, Nat.reduceMul, Nat.reduceLeDiff, Int.reduceLT, Int.reduceLE, Int.reduceToNat, Int.reduceEq, Int.reduceAdd, Int.reduceSub, Int.reduceNeg, Int.reduceBNe, Int.reduceBEq, opv, ref_fold, tg_fold, List.append_eq, List.cons_append]
  repeat' (first | (refine vGuard_t (fun h => ?_) (fun h => ?_) <;> (try simp only [go_sem, reduceIte, Nat.reduceEqDiff, reduceCtorEq, Nat.reduceLT, Nat.reduceAdd, Nat.reduceSub, Nat.reduceMul, Nat.reduceLeDiff, Int.reduceLT, Int.reduceLE, Int.reduceToNat, Int.reduceEq, Int.reduceAdd, Int.reduceSub, Int.reduceNeg, Int.reduceBNe, Int.reduceBEq, h, ref_fold, tg_fold])) | (refine vGuard_f (fun h => ?_) (fun h => ?_) <;> (try simp only [go_sem, reduceIte, Nat.reduceEqDiff, reduceCtorEq, Nat.reduceLT, Nat.reduceAdd, Nat.reduceSub, Nat.reduceMul, Nat.reduceLeDiff, Int.reduceLT, Int.reduceLE, Int.reduceToNat, Int.reduceEq, Int.reduceAdd, Int.reduceSub, Int.reduceNeg, Int.reduceBNe, Int.reduceBEq, h, ref_fold, tg_fold])) | (refine vCond_b (fun h => ?_) (fun h => ?_) <;> (try simp only [go_sem, reduceIte, Nat.reduceEqDiff, reduceCtorEq, Nat.reduceLT, Nat.reduceAdd, Nat.reduceSub, Nat.reduceMul, Nat.reduceLeDiff, Int.reduceLT, Int.reduceLE, Int.reduceToNat, Int.reduceEq, Int.reduceAdd, Int.reduceSub, Int.reduceNeg, Int.reduceBNe, Int.reduceBEq, h, ref_fold, tg_fold])) | ((refine vCall_of (hE) ?_ ?_ ?_); (focus simp only [go_sem, reduceIte, Nat.reduceEqDiff, reduceCtorEq, Nat.reduceLT, Nat.reduceAdd, Nat.reduceSub, Nat.reduceMul, Nat.reduceLeDiff, Int.reduceLT, Int.reduceLE, Int.reduceToNat, Int.reduceEq, Int.reduceAdd, Int.reduceSub, Int.reduceNeg, Int.reduceBNe, Int.reduceBEq, tgs]); (focus exact rfl); (try simp only [go_sem, reduceIte, Nat.reduceEqDiff, reduceCtorEq, Nat.reduceLT, Nat.reduceAdd, Nat.reduceSub, Nat.reduceMul, Nat.reduceLeDiff, Int.reduceLT, Int.reduceLE, Int.reduceToNat, Int.reduceEq, Int.reduceAdd, Int.reduceSub, Int.reduceNeg, Int.reduceBNe, Int.reduceBEq, ref_fold, tg_fold])) | ((refine vDrawQ (by kernel_rfl) (by kernel_rfl) ?_); (try simp only [go_sem, reduceIte, Nat.reduceEqDiff, reduceCtorEq, Nat.reduceLT, Nat.reduceAdd, Nat.reduceSub, Nat.reduceMul, Nat.reduceLeDiff, Int.reduceLT, Int.reduceLE, Int.reduceToNat, Int.reduceEq, Int.reduceAdd, Int.reduceSub, Int.reduceNeg, Int.reduceBNe, Int.reduceBEq, ref_fold, tg_fold])))
  all_goals (clear hE ha hb; (cases a; cases b; simp_all) <;> rfl)
def heavyO (o : Opn) : Bool := longB 200 o.cart || (longB 200 o.item || (longB 200 o.at'.gr || (longB 200 o.at'.nm || (longB 200 o.text || decide (200 < (o.drops.length : Int))))))
set_option maxHeartbeats 4000000 in
theorem RHeavyO_pure (o : Opn) : PL.Pure Try.prog 30 [opv o] (.bool (heavyO o)) := by
  refine PL.Pure.of_v Try.func30 (by decide) rfl Try.ntmps30 Try.results30 (by simp) rfl ?_
  simp only [go_sem, reduceIte, Nat.reduceEqDiff, reduceCtorEq, Nat.reduceLT, Nat.reduceAdd, Nat.reduceSub, Nat.reduceMul, Nat.reduceLeDiff, Int.reduceLT, Int.reduceLE, Int.reduceToNat, Int.reduceEq, Int.reduceAdd, Int.reduceSub, Int.reduceNeg, Int.reduceBNe, Int.reduceBEq, opv]
  repeat' (first | (refine vGuard_t (fun h => ?_) (fun h => ?_) <;> (try simp only [go_sem, reduceIte, Nat.reduceEqDiff, reduceCtorEq, Nat.reduceLT, Nat.reduceAdd, Nat.reduceSub, Nat.reduceMul, Nat.reduceLeDiff, Int.reduceLT, Int.reduceLE, Int.reduceToNat, Int.reduceEq, Int.reduceAdd, Int.reduceSub, Int.reduceNeg, Int.reduceBNe, Int.reduceBEq, h])) | (refine vGuard_f (fun h => ?_) (fun h => ?_) <;> (try simp only [go_sem, reduceIte, Nat.reduceEqDiff, reduceCtorEq, Nat.reduceLT, Nat.reduceAdd, Nat.reduceSub, Nat.reduceMul, Nat.reduceLeDiff, Int.reduceLT, Int.reduceLE, Int.reduceToNat, Int.reduceEq, Int.reduceAdd, Int.reduceSub, Int.reduceNeg, Int.reduceBNe, Int.reduceBEq, h])) | (refine vCond_b (fun h => ?_) (fun h => ?_) <;> (try simp only [go_sem, reduceIte, Nat.reduceEqDiff, reduceCtorEq, Nat.reduceLT, Nat.reduceAdd, Nat.reduceSub, Nat.reduceMul, Nat.reduceLeDiff, Int.reduceLT, Int.reduceLE, Int.reduceToNat, Int.reduceEq, Int.reduceAdd, Int.reduceSub, Int.reduceNeg, Int.reduceBNe, Int.reduceBEq, h])) | ((refine vDrawQ (by kernel_rfl) (by kernel_rfl) ?_); (try simp only [go_sem, reduceIte, Nat.reduceEqDiff, reduceCtorEq, Nat.reduceLT, Nat.reduceAdd, Nat.reduceSub, Nat.reduceMul, Nat.reduceLeDiff, Int.reduceLT, Int.reduceLE, Int.reduceToNat, Int.reduceEq, Int.reduceAdd, Int.reduceSub, Int.reduceNeg, Int.reduceBNe, Int.reduceBEq])))
  all_goals (first | (simp_all [heavyO, longB]; done) | (rw [Bool.eq_iff_iff]; simp [heavyO, longB] at *; omega))
def placedB (o : Opn) : Bool := (o.kind == 3) || (o.kind == 4)
set_option maxHeartbeats 4000000 in
theorem placed_pure (o : Opn) : PL.Pure Try.prog 71 [opv o] (.bool (placedB o)) := by
  refine PL.Pure.of_v Try.func71 (by decide) rfl Try.ntmps71 Try.results71 (by simp) rfl ?_
  simp only [go_sem, reduceIte, Nat.reduceEqDiff, reduceCtorEq, Nat.reduceLT, Nat.reduceAdd, Nat.reduceSub, Nat.reduceMul, Nat.reduceLeDiff, Int.reduceLT, Int.reduceLE, Int.reduceToNat, Int.reduceEq, Int.reduceAdd, Int.reduceSub, Int.reduceNeg, Int.reduceBNe, Int.reduceBEq, opv]
  repeat' (first | (refine vGuard_t (fun h => ?_) (fun h => ?_) <;> (try simp only [go_sem, reduceIte, Nat.reduceEqDiff, reduceCtorEq, Nat.reduceLT, Nat.reduceAdd, Nat.reduceSub, Nat.reduceMul, Nat.reduceLeDiff, Int.reduceLT, Int.reduceLE, Int.reduceToNat, Int.reduceEq, Int.reduceAdd, Int.reduceSub, Int.reduceNeg, Int.reduceBNe, Int.reduceBEq, h])) | (refine vGuard_f (fun h => ?_) (fun h => ?_) <;> (try simp only [go_sem, reduceIte, Nat.reduceEqDiff, reduceCtorEq, Nat.reduceLT, Nat.reduceAdd, Nat.reduceSub, Nat.reduceMul, Nat.reduceLeDiff, Int.reduceLT, Int.reduceLE, Int.reduceToNat, Int.reduceEq, Int.reduceAdd, Int.reduceSub, Int.reduceNeg, Int.reduceBNe, Int.reduceBEq, h])) | (refine vCond_b (fun h => ?_) (fun h => ?_) <;> (try simp only [go_sem, reduceIte, Nat.reduceEqDiff, reduceCtorEq, Nat.reduceLT, Nat.reduceAdd, Nat.reduceSub, Nat.reduceMul, Nat.reduceLeDiff, Int.reduceLT, Int.reduceLE, Int.reduceToNat, Int.reduceEq, Int.reduceAdd, Int.reduceSub, Int.reduceNeg, Int.reduceBNe, Int.reduceBEq, h])) | ((refine vDrawQ (by kernel_rfl) (by kernel_rfl) ?_); (try simp only [go_sem, reduceIte, Nat.reduceEqDiff, reduceCtorEq, Nat.reduceLT, Nat.reduceAdd, Nat.reduceSub, Nat.reduceMul, Nat.reduceLeDiff, Int.reduceLT, Int.reduceLE, Int.reduceToNat, Int.reduceEq, Int.reduceAdd, Int.reduceSub, Int.reduceNeg, Int.reduceBNe, Int.reduceBEq])))
  all_goals simp_all [placedB]
def dropOk (o : Opn) (i : Nat) : Bool := tagB (o.drops.getD i default) && (!(decide (o.drops.getD i default = o.id)) && (decide (i = 0) || tlessB (o.drops.getD (i - 1) default) (o.drops.getD i default)))
def dropsB (o : Opn) : Bool := !decide (60 < (o.drops.length : Int)) && (List.range o.drops.length).all (dropOk o)
def ocells (o : Opn) : List PV := [.int .i64 o.id.r, .int .i64 o.id.n, .int .i64 o.sch.r, .int .i64 o.sch.n, .int .i64 o.time, .str o.cart, .int .i64 o.kind, .str o.item, .int .i64 o.at'.sc, .str o.at'.gr, .str o.at'.nm, .int .i64 o.delta, .bool o.has, .str o.text, .sl .no (o.drops.map tg)]
set_option maxRecDepth 20000 in
set_option maxHeartbeats 8000000 in
theorem rightDrops_pure (o : Opn) : PL.Pure Try.prog 118 [opv o] (.bool (dropsB o)) := by
  by_cases h60 : 60 < (o.drops.length : Int)
  · refine PL.Pure.of_v Try.func118 (by decide) rfl Try.ntmps118 Try.results118 (by simp) rfl ?_
    simp only [go_sem, reduceIte, Nat.reduceEqDiff, reduceCtorEq, Nat.reduceLT, Nat.reduceAdd, Nat.reduceSub, Nat.reduceMul, Nat.reduceLeDiff, Int.reduceLT, Int.reduceLE, Int.reduceToNat, Int.reduceEq, Int.reduceAdd, Int.reduceSub, Int.reduceNeg, Int.reduceBNe, Int.reduceBEq, opv, h60, dropsB, Bool.false_and]
  · have hm : o.drops.length ≤ maxLen := by rw [maxLen_eq]; omega
    have hx : dropsB o = (List.range o.drops.length).all (dropOk o) := by simp only [dropsB, h60, decide_false, Bool.not_false, Bool.true_and]
    rw [hx]
    refine PL.Pure.of_v Try.func118 (by decide) rfl Try.ntmps118 Try.results118 (by simp) rfl ?_
    simp only [go_sem, reduceIte, Nat.reduceEqDiff, reduceCtorEq, Nat.reduceLT, Nat.reduceAdd, Nat.reduceSub, Nat.reduceMul, Nat.reduceLeDiff, Int.reduceLT, Int.reduceLE, Int.reduceToNat, Int.reduceEq, Int.reduceAdd, Int.reduceSub, Int.reduceNeg, Int.reduceBNe, Int.reduceBEq, opv, h60]
    refine vLoopM (ι := { x : Nat // x ≤ (o.drops).length ∧ (∀ j, j < x → dropOk o j = true) }) 40 (fun x => [(1, .ptr 1 0), (10, .sl .no (o.drops.map tg)), (11, .int .i64 (o.drops.length : Int)), (12, .int .i64 (x.1 : Int))]) (fun x => [(1, ocells o, false)]) (fun x => []) (fun x => (o.drops).length - x.1) ⟨0, Nat.zero_le _, fun j hj => absurd hj (Nat.not_lt_zero j)⟩ ⟨rfl, (forall_cons rfl (forall_cons rfl (forall_cons rfl (forall_cons rfl forall_nil)))), (forall_cons ⟨rfl, rfl⟩ forall_nil), forall_nil⟩ (fun x => ⟨(forall_cons rfl (forall_cons rfl (forall_cons rfl (forall_cons rfl forall_nil)))), (forall_cons rfl forall_nil)⟩) (fun x => ?_); obtain ⟨k, hk, hI⟩ := x; simp only at hk hI ⊢
    by_cases h : (k : Int) < (o.drops.length : Int)
    · (have hka : k < (o.drops).length := by omega); (have w1 := w64s hka (hm)); (have i1 : (0 : Int) ≤ (k : Int) := by omega)
      have hT := Tag_pure (o.drops.getD k default)
      cases ht : tagB (o.drops.getD k default)
      · rw [ht] at hT
        have hz := rall_false (p := dropOk o) hka (by simp only [dropOk, ht, Bool.false_and])
        simp only [go_sem, reduceIte, Nat.reduceEqDiff, reduceCtorEq, Nat.reduceLT, Nat.reduceAdd, Nat.reduceSub, Nat.reduceMul, Nat.reduceLeDiff, Int.reduceLT, Int.reduceLE, Int.reduceToNat, Int.reduceEq, Int.reduceAdd, Int.reduceSub, Int.reduceNeg, Int.reduceBNe, Int.reduceBEq, ocells, h, getD_tg hka, tg, i1]
        refine vCall_of (hT) ?_ ?_ ?_; (focus simp only [go_sem, reduceIte, Nat.reduceEqDiff, reduceCtorEq, tg]); (focus simp only [go_sem, reduceIte, Nat.reduceEqDiff, reduceCtorEq, tg])
        simp only [go_sem, reduceIte, Nat.reduceEqDiff, reduceCtorEq, Nat.reduceLT, Nat.reduceAdd, Nat.reduceSub, Nat.reduceMul, Nat.reduceLeDiff, Int.reduceLT, Int.reduceLE, Int.reduceToNat, Int.reduceEq, Int.reduceAdd, Int.reduceSub, Int.reduceNeg, Int.reduceBNe, Int.reduceBEq, hz]
      · rw [ht] at hT
        cases he : decide (o.drops.getD k default = o.id)
        · by_cases h0 : 0 < (k : Int)
          · have hk1 : k - 1 < o.drops.length := by omega
            have w2 : IntKind.i64.wrap ((k : Int) - 1) = ((k - 1 : Nat) : Int) := by rw [w64 (by omega)]; omega
            have j1 : (0 : Int) ≤ ((k - 1 : Nat) : Int) := by omega
            have j2 : ((k - 1 : Nat) : Int) < (o.drops.length : Int) := by omega
            have hL := TLess_pure (o.drops.getD (k - 1) default) (o.drops.getD k default)
            cases hb : tlessB (o.drops.getD (k - 1) default) (o.drops.getD k default)
            · rw [hb] at hL
              have hz := rall_false (p := dropOk o) hka (by simp only [dropOk, hb, decide_eq_false (show ¬ k = 0 by omega), Bool.or_self, Bool.and_false])
              simp only [go_sem, reduceIte, Nat.reduceEqDiff, reduceCtorEq, Nat.reduceLT, Nat.reduceAdd, Nat.reduceSub, Nat.reduceMul, Nat.reduceLeDiff, Int.reduceLT, Int.reduceLE, Int.reduceToNat, Int.reduceEq, Int.reduceAdd, Int.reduceSub, Int.reduceNeg, Int.reduceBNe, Int.reduceBEq, ocells, h, getD_tg hka, tg, i1]
              refine vCall_of (hT) ?_ ?_ ?_; (focus simp only [go_sem, reduceIte, Nat.reduceEqDiff, reduceCtorEq, tg]); (focus simp only [go_sem, reduceIte, Nat.reduceEqDiff, reduceCtorEq, tg])
              simp only [go_sem, reduceIte, Nat.reduceEqDiff, reduceCtorEq, Nat.reduceLT, Nat.reduceAdd, Nat.reduceSub, Nat.reduceMul, Nat.reduceLeDiff, Int.reduceLT, Int.reduceLE, Int.reduceToNat, Int.reduceEq, Int.reduceAdd, Int.reduceSub, Int.reduceNeg, Int.reduceBNe, Int.reduceBEq, tg_fold, he]
              refine vDrawQ (by kernel_rfl) (by kernel_rfl) ?_
              simp only [go_sem, reduceIte, Nat.reduceEqDiff, reduceCtorEq, Nat.reduceLT, Nat.reduceAdd, Nat.reduceSub, Nat.reduceMul, Nat.reduceLeDiff, Int.reduceLT, Int.reduceLE, Int.reduceToNat, Int.reduceEq, Int.reduceAdd, Int.reduceSub, Int.reduceNeg, Int.reduceBNe, Int.reduceBEq, h0, w2, getD_tg hk1, getD_tg hka, tg, h, i1, j1, j2]
              refine vCall_of (hL) ?_ ?_ ?_; (focus simp only [go_sem, reduceIte, Nat.reduceEqDiff, reduceCtorEq, tg]); (focus simp only [go_sem, reduceIte, Nat.reduceEqDiff, reduceCtorEq, tg])
              simp only [go_sem, reduceIte, Nat.reduceEqDiff, reduceCtorEq, Nat.reduceLT, Nat.reduceAdd, Nat.reduceSub, Nat.reduceMul, Nat.reduceLeDiff, Int.reduceLT, Int.reduceLE, Int.reduceToNat, Int.reduceEq, Int.reduceAdd, Int.reduceSub, Int.reduceNeg, Int.reduceBNe, Int.reduceBEq, hz]
            · rw [hb] at hL
              have ok : dropOk o k = true := by simp only [dropOk, ht, he, hb, Bool.or_true, Bool.not_false, Bool.and_self]
              simp only [go_sem, reduceIte, Nat.reduceEqDiff, reduceCtorEq, Nat.reduceLT, Nat.reduceAdd, Nat.reduceSub, Nat.reduceMul, Nat.reduceLeDiff, Int.reduceLT, Int.reduceLE, Int.reduceToNat, Int.reduceEq, Int.reduceAdd, Int.reduceSub, Int.reduceNeg, Int.reduceBNe, Int.reduceBEq, ocells, h, getD_tg hka, tg, i1]
              refine vCall_of (hT) ?_ ?_ ?_; (focus simp only [go_sem, reduceIte, Nat.reduceEqDiff, reduceCtorEq, tg]); (focus simp only [go_sem, reduceIte, Nat.reduceEqDiff, reduceCtorEq, tg])
              simp only [go_sem, reduceIte, Nat.reduceEqDiff, reduceCtorEq, Nat.reduceLT, Nat.reduceAdd, Nat.reduceSub, Nat.reduceMul, Nat.reduceLeDiff, Int.reduceLT, Int.reduceLE, Int.reduceToNat, Int.reduceEq, Int.reduceAdd, Int.reduceSub, Int.reduceNeg, Int.reduceBNe, Int.reduceBEq, tg_fold, he]
              refine vDrawQ (by kernel_rfl) (by kernel_rfl) ?_
              simp only [go_sem, reduceIte, Nat.reduceEqDiff, reduceCtorEq, Nat.reduceLT, Nat.reduceAdd, Nat.reduceSub, Nat.reduceMul, Nat.reduceLeDiff, Int.reduceLT, Int.reduceLE, Int.reduceToNat, Int.reduceEq, Int.reduceAdd, Int.reduceSub, Int.reduceNeg, Int.reduceBNe, Int.reduceBEq, h0, w2, getD_tg hk1, getD_tg hka, tg, h, i1, j1, j2]
              refine vCall_of (hL) ?_ ?_ ?_; (focus simp only [go_sem, reduceIte, Nat.reduceEqDiff, reduceCtorEq, tg]); (focus simp only [go_sem, reduceIte, Nat.reduceEqDiff, reduceCtorEq, tg])
              simp only [go_sem, reduceIte, Nat.reduceEqDiff, reduceCtorEq, Nat.reduceLT, Nat.reduceAdd, Nat.reduceSub, Nat.reduceMul, Nat.reduceLeDiff, Int.reduceLT, Int.reduceLE, Int.reduceToNat, Int.reduceEq, Int.reduceAdd, Int.reduceSub, Int.reduceNeg, Int.reduceBNe, Int.reduceBEq, w1]
              exact ⟨⟨k + 1, by (try simp only); omega, below_succ hI ok⟩, by show (o.drops).length - (k + 1) < (o.drops).length - k; omega, ⟨rfl, (forall_cons rfl (forall_cons rfl (forall_cons rfl (forall_cons rfl forall_nil)))), (forall_cons ⟨rfl, rfl⟩ forall_nil), forall_nil⟩⟩
          · have ok : dropOk o k = true := by simp only [dropOk, ht, he, decide_eq_true (show k = 0 by omega), Bool.true_or, Bool.not_false, Bool.and_self]
            simp only [go_sem, reduceIte, Nat.reduceEqDiff, reduceCtorEq, Nat.reduceLT, Nat.reduceAdd, Nat.reduceSub, Nat.reduceMul, Nat.reduceLeDiff, Int.reduceLT, Int.reduceLE, Int.reduceToNat, Int.reduceEq, Int.reduceAdd, Int.reduceSub, Int.reduceNeg, Int.reduceBNe, Int.reduceBEq, ocells, h, getD_tg hka, tg, i1]
            refine vCall_of (hT) ?_ ?_ ?_; (focus simp only [go_sem, reduceIte, Nat.reduceEqDiff, reduceCtorEq, tg]); (focus simp only [go_sem, reduceIte, Nat.reduceEqDiff, reduceCtorEq, tg])
            simp only [go_sem, reduceIte, Nat.reduceEqDiff, reduceCtorEq, Nat.reduceLT, Nat.reduceAdd, Nat.reduceSub, Nat.reduceMul, Nat.reduceLeDiff, Int.reduceLT, Int.reduceLE, Int.reduceToNat, Int.reduceEq, Int.reduceAdd, Int.reduceSub, Int.reduceNeg, Int.reduceBNe, Int.reduceBEq, tg_fold, he]
            refine vDrawQ (by kernel_rfl) (by kernel_rfl) ?_
            simp only [go_sem, reduceIte, Nat.reduceEqDiff, reduceCtorEq, Nat.reduceLT, Nat.reduceAdd, Nat.reduceSub, Nat.reduceMul, Nat.reduceLeDiff, Int.reduceLT, Int.reduceLE, Int.reduceToNat, Int.reduceEq, Int.reduceAdd, Int.reduceSub, Int.reduceNeg, Int.reduceBNe, Int.reduceBEq, h0, w1]
            exact ⟨⟨k + 1, by (try simp only); omega, below_succ hI ok⟩, by show (o.drops).length - (k + 1) < (o.drops).length - k; omega, ⟨rfl, (forall_cons rfl (forall_cons rfl (forall_cons rfl (forall_cons rfl forall_nil)))), (forall_cons ⟨rfl, rfl⟩ forall_nil), forall_nil⟩⟩
        · have hz := rall_false (p := dropOk o) hka (by simp only [dropOk, he, Bool.not_true, Bool.false_and, Bool.and_false])
          simp only [go_sem, reduceIte, Nat.reduceEqDiff, reduceCtorEq, Nat.reduceLT, Nat.reduceAdd, Nat.reduceSub, Nat.reduceMul, Nat.reduceLeDiff, Int.reduceLT, Int.reduceLE, Int.reduceToNat, Int.reduceEq, Int.reduceAdd, Int.reduceSub, Int.reduceNeg, Int.reduceBNe, Int.reduceBEq, ocells, h, getD_tg hka, tg, i1]
          refine vCall_of (hT) ?_ ?_ ?_; (focus simp only [go_sem, reduceIte, Nat.reduceEqDiff, reduceCtorEq, tg]); (focus simp only [go_sem, reduceIte, Nat.reduceEqDiff, reduceCtorEq, tg])
          simp only [go_sem, reduceIte, Nat.reduceEqDiff, reduceCtorEq, Nat.reduceLT, Nat.reduceAdd, Nat.reduceSub, Nat.reduceMul, Nat.reduceLeDiff, Int.reduceLT, Int.reduceLE, Int.reduceToNat, Int.reduceEq, Int.reduceAdd, Int.reduceSub, Int.reduceNeg, Int.reduceBNe, Int.reduceBEq, tg_fold, he, hz]
    · have hz := rall_true (p := dropOk o) (n := o.drops.length) (fun j hj => hI j (by omega))
      simp only [go_sem, reduceIte, Nat.reduceEqDiff, reduceCtorEq, Nat.reduceLT, Nat.reduceAdd, Nat.reduceSub, Nat.reduceMul, Nat.reduceLeDiff, Int.reduceLT, Int.reduceLE, Int.reduceToNat, Int.reduceEq, Int.reduceAdd, Int.reduceSub, Int.reduceNeg, Int.reduceBNe, Int.reduceBEq, h, hz]
def opParts (o : Opn) : Opn × Bool :=
  if o.kind = 1 then (⟨o.id, o.sch, o.time, o.cart, o.kind, o.item, default, 0, false, [], []⟩, true)
  else if o.kind = 2 then (⟨o.id, o.sch, o.time, o.cart, o.kind, o.item, default, 0, false, [], o.drops⟩, true)
  else if o.kind = 3 then (⟨o.id, o.sch, o.time, o.cart, o.kind, if o.at'.sc = 1 then o.item else [], o.at', o.delta, false, [], []⟩, true)
  else if o.kind = 4 then (⟨o.id, o.sch, o.time, o.cart, o.kind, if o.at'.sc = 1 then o.item else [], o.at', 0, o.has, if o.has = true then o.text else [], o.drops⟩, true)
  else if o.kind = 5 then (⟨o.id, o.sch, o.time, o.cart, o.kind, [], default, 0, false, [], o.drops⟩, true)
  else (default, false)
def opb (x : Opn × Bool) : PV := .tup [opv x.1, .bool x.2]
theorem opb_dids (x : Opn × Bool) : (opb x).dids = [] := by simp only [opb, PV.dids, PV.didsL, opv_dids, List.append_nil]
set_option maxRecDepth 20000 in
set_option maxHeartbeats 8000000 in
theorem opParts_pure (o : Opn) : PL.Pure Try.prog 115 [opv o] (opb (opParts o)) := by
  have hP := placed_pure o
  unfold placedB at hP
  obtain ⟨id, sch, time, cart, kind, item, at', delta, has, text, drops⟩ := o
  cases has
  all_goals
    refine PL.Pure.of_v Try.func115 (by decide) rfl Try.ntmps115 Try.results115 (by simp) (opb_dids _) ?_
    simp only [go_sem, reduceIte, Nat.reduceEqDiff, reduceCtorEq, Nat.reduceLT, Nat.reduceAdd, Nat.reduceSub, Nat.reduceMul, Nat.reduceLeDiff, Int.reduceLT, Int.reduceLE, Int.reduceToNat, Int.reduceEq, Int.reduceAdd, Int.reduceSub, Int.reduceNeg, Int.reduceBNe, Int.reduceBEq, opv]
    repeat' (first | (refine vGuard_t (fun h => ?_) (fun h => ?_) <;> (try simp only [go_sem, reduceIte, Nat.reduceEqDiff, reduceCtorEq, Nat.reduceLT, Nat.reduceAdd, Nat.reduceSub, Nat.reduceMul, Nat.reduceLeDiff, Int.reduceLT, Int.reduceLE, Int.reduceToNat, Int.reduceEq, Int.reduceAdd, Int.reduceSub, Int.reduceNeg, Int.reduceBNe, Int.reduceBEq, h])) | (refine vGuard_f (fun h => ?_) (fun h => ?_) <;> (try simp only [go_sem, reduceIte, Nat.reduceEqDiff, reduceCtorEq, Nat.reduceLT, Nat.reduceAdd, Nat.reduceSub, Nat.reduceMul, Nat.reduceLeDiff, Int.reduceLT, Int.reduceLE, Int.reduceToNat, Int.reduceEq, Int.reduceAdd, Int.reduceSub, Int.reduceNeg, Int.reduceBNe, Int.reduceBEq, h])) | (refine vCond_b (fun h => ?_) (fun h => ?_) <;> (try simp only [go_sem, reduceIte, Nat.reduceEqDiff, reduceCtorEq, Nat.reduceLT, Nat.reduceAdd, Nat.reduceSub, Nat.reduceMul, Nat.reduceLeDiff, Int.reduceLT, Int.reduceLE, Int.reduceToNat, Int.reduceEq, Int.reduceAdd, Int.reduceSub, Int.reduceNeg, Int.reduceBNe, Int.reduceBEq, h])) | ((refine vCall_of (hP) ?_ ?_ ?_); (focus simp only [go_sem, reduceIte, Nat.reduceEqDiff, reduceCtorEq, Nat.reduceLT, Nat.reduceAdd, Nat.reduceSub, Nat.reduceMul, Nat.reduceLeDiff, Int.reduceLT, Int.reduceLE, Int.reduceToNat, Int.reduceEq, Int.reduceAdd, Int.reduceSub, Int.reduceNeg, Int.reduceBNe, Int.reduceBEq, opv]); (focus exact rfl); (try simp only [go_sem, reduceIte, Nat.reduceEqDiff, reduceCtorEq, Nat.reduceLT, Nat.reduceAdd, Nat.reduceSub, Nat.reduceMul, Nat.reduceLeDiff, Int.reduceLT, Int.reduceLE, Int.reduceToNat, Int.reduceEq, Int.reduceAdd, Int.reduceSub, Int.reduceNeg, Int.reduceBNe, Int.reduceBEq])) | ((refine vDrawS [(1, 4)] (by kernel_rfl) (by kernel_rfl) (by exact rfl) ?_); (try simp only [go_sem, reduceIte, Nat.reduceEqDiff, reduceCtorEq, Nat.reduceLT, Nat.reduceAdd, Nat.reduceSub, Nat.reduceMul, Nat.reduceLeDiff, Int.reduceLT, Int.reduceLE, Int.reduceToNat, Int.reduceEq, Int.reduceAdd, Int.reduceSub, Int.reduceNeg, Int.reduceBNe, Int.reduceBEq])) | ((refine vDrawQ (by kernel_rfl) (by kernel_rfl) ?_); (try simp only [go_sem, reduceIte, Nat.reduceEqDiff, reduceCtorEq, Nat.reduceLT, Nat.reduceAdd, Nat.reduceSub, Nat.reduceMul, Nat.reduceLeDiff, Int.reduceLT, Int.reduceLE, Int.reduceToNat, Int.reduceEq, Int.reduceAdd, Int.reduceSub, Int.reduceNeg, Int.reduceBNe, Int.reduceBEq])))
    all_goals (simp only [beq_iff_eq, beq_eq_false_iff_ne, ne_eq] at *; clear hP; simp_all [opParts, opb, opv]; try decide)
end Go.Proofs.Ytbojhapdidieoaa
