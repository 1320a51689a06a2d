/- Contracts of functions and laws of this seat, each for every input that it names: lemmas of the proof. -/
import Derived.Test.YtbojhapdidieoaaXAr
import Derived.Test.YtbojhapdidieoaaPlF
set_option linter.unusedSimpArgs false
set_option linter.unusedVariables false
set_option linter.unusedSimpArgs false
set_option linter.unusedVariables false
namespace Go.Proofs.Ytbojhapdidieoaa
open Go.PL
def less' (r : Rf) : Fd → Bool := fun f => lessB f.at' r
def insM (l : List Fd) (f : Fd) : List Fd := l.takeWhile (less' f.at') ++ f :: l.dropWhile (less' f.at')
def withM (l : List Fd) (f : Fd) : List Fd × Int := if rightL l = false ∨ rightF f = false then ([], 5) else if 0 ≤ idx (atF f.at') l then ([], 7) else if 16 ≤ (l.length : Int) then ([], 14) else (insM l f, 0)
structure WA (l : List Fd) (f : Fd) where
  k : Nat
  acc : List Fd
  hk : k ≤ l.length
  h : acc ++ insM (l.drop k) f = insM l f
structure WB (l : List Fd) (f : Fd) where
  k : Nat
  acc : List Fd
  hk : k ≤ l.length
  h : acc ++ l.drop k = insM l f
theorem drop_cons' {α : Type} {l : List α} {k : Nat} {d : α} (h : k < l.length) : l.drop k = l.getD k d :: l.drop (k + 1) := by
  rw [List.getD_eq_getElem?_getD, List.getElem?_eq_getElem h]; exact List.drop_eq_getElem_cons h
theorem ins_t {l : List Fd} {f x : Fd} (h : lessB x.at' f.at' = true) : insM (x :: l) f = x :: insM l f := by
  simp [insM, less', h]
theorem ins_f {l : List Fd} {f x : Fd} (h : lessB x.at' f.at' = false) : insM (x :: l) f = f :: x :: l := by
  simp [insM, less', h]
theorem ins_len (l : List Fd) (f : Fd) : (insM l f).length = l.length + 1 := by
  unfold insM
  have := congrArg List.length (List.takeWhile_append_dropWhile (p := less' f.at') (l := l))
  simp only [List.length_append, List.length_cons] at *
  omega
def fcells (f : Fd) : List PV := [.int .i64 f.at'.sc, .str f.at'.gr, .str f.at'.nm, .int .i64 f.kind, .str f.df, .sl .no (f.cases'.map .str), .int .i64 f.worth]
set_option maxRecDepth 20000 in
set_option maxHeartbeats 8000000 in
theorem With_pure (l : List Fd) (f : Fd) (hl : l.length ≤ 100000) (hc : ∀ f ∈ l, f.cases'.length ≤ 1000000) (hf : f.cases'.length ≤ 1000000) : PL.Pure Try.prog 69 [flds l, fld f] (fldsc (withM l f)) := by
  have hm : l.length ≤ maxLen := by rw [maxLen_eq]; omega
  have hR := SRight_pure l hm (fun f hf => by have := hc f hf; rw [maxLen_eq]; omega)
  have hF := Right_pure f (by rw [maxLen_eq]; omega)
  have hI : PL.Pure Try.prog 103 [flds l, ref f.at'] (.int .i64 (idx (atF f.at') l)) := Index_pure l f.at' hm
  have hOf := FOwn_pure f hf
  unfold withM
  cases hr : rightL l
  · rw [hr] at hR
    simp only [true_or, if_true]
    refine PL.Pure.of_v Try.func69 (by decide) rfl Try.ntmps69 Try.results69 (by simp) (fldsc_dids _) ?_
    simp only [go_sem, reduceIte, Nat.reduceEqDiff, reduceCtorEq, Nat.reduceLT, Nat.reduceAdd, Nat.reduceSub, Nat.reduceMul, Nat.reduceLeDiff, Int.reduceLT, Int.reduceLE, Int.reduceToNat, Int.reduceEq, Int.reduceAdd, Int.reduceSub, Int.reduceNeg, Int.reduceBNe, Int.reduceBEq, flds, fld]
    refine vScope0 ?_
    simp only [go_sem, reduceIte, Nat.reduceEqDiff, reduceCtorEq, Nat.reduceLT, Nat.reduceAdd, Nat.reduceSub, Nat.reduceMul, Nat.reduceLeDiff, Int.reduceLT, Int.reduceLE, Int.reduceToNat, Int.reduceEq, Int.reduceAdd, Int.reduceSub, Int.reduceNeg, Int.reduceBNe, Int.reduceBEq]
    refine vCall_of (hR) ?_ ?_ ?_; (focus simp only [go_sem, reduceIte, Nat.reduceEqDiff, reduceCtorEq, flds]); (focus simp only [go_sem, reduceIte, Nat.reduceEqDiff, reduceCtorEq, flds])
    simp only [go_sem, reduceIte, Nat.reduceEqDiff, reduceCtorEq, Nat.reduceLT, Nat.reduceAdd, Nat.reduceSub, Nat.reduceMul, Nat.reduceLeDiff, Int.reduceLT, Int.reduceLE, Int.reduceToNat, Int.reduceEq, Int.reduceAdd, Int.reduceSub, Int.reduceNeg, Int.reduceBNe, Int.reduceBEq, fldsc, flds]
  · rw [hr] at hR
    cases hrf : rightF f
    · rw [hrf] at hF
      simp only [or_true, if_true]
      refine PL.Pure.of_v Try.func69 (by decide) rfl Try.ntmps69 Try.results69 (by simp) (fldsc_dids _) ?_
      simp only [go_sem, reduceIte, Nat.reduceEqDiff, reduceCtorEq, Nat.reduceLT, Nat.reduceAdd, Nat.reduceSub, Nat.reduceMul, Nat.reduceLeDiff, Int.reduceLT, Int.reduceLE, Int.reduceToNat, Int.reduceEq, Int.reduceAdd, Int.reduceSub, Int.reduceNeg, Int.reduceBNe, Int.reduceBEq, flds, fld]
      refine vScope0 ?_
      simp only [go_sem, reduceIte, Nat.reduceEqDiff, reduceCtorEq, Nat.reduceLT, Nat.reduceAdd, Nat.reduceSub, Nat.reduceMul, Nat.reduceLeDiff, Int.reduceLT, Int.reduceLE, Int.reduceToNat, Int.reduceEq, Int.reduceAdd, Int.reduceSub, Int.reduceNeg, Int.reduceBNe, Int.reduceBEq]
      refine vCall_of (hR) ?_ ?_ ?_; (focus simp only [go_sem, reduceIte, Nat.reduceEqDiff, reduceCtorEq, flds]); (focus simp only [go_sem, reduceIte, Nat.reduceEqDiff, reduceCtorEq, flds])
      simp only [go_sem, reduceIte, Nat.reduceEqDiff, reduceCtorEq, Nat.reduceLT, Nat.reduceAdd, Nat.reduceSub, Nat.reduceMul, Nat.reduceLeDiff, Int.reduceLT, Int.reduceLE, Int.reduceToNat, Int.reduceEq, Int.reduceAdd, Int.reduceSub, Int.reduceNeg, Int.reduceBNe, Int.reduceBEq]
      refine vCall_of (hF) ?_ ?_ ?_; (focus simp only [go_sem, reduceIte, Nat.reduceEqDiff, reduceCtorEq, fld]); (focus simp only [go_sem, reduceIte, Nat.reduceEqDiff, reduceCtorEq, fld])
      simp only [go_sem, reduceIte, Nat.reduceEqDiff, reduceCtorEq, Nat.reduceLT, Nat.reduceAdd, Nat.reduceSub, Nat.reduceMul, Nat.reduceLeDiff, Int.reduceLT, Int.reduceLE, Int.reduceToNat, Int.reduceEq, Int.reduceAdd, Int.reduceSub, Int.reduceNeg, Int.reduceBNe, Int.reduceBEq, fldsc, flds]
    · rw [hrf] at hF
      simp only [Bool.true_eq_false, or_self, if_false]
      by_cases h2 : (0 : Int) ≤ idx (atF f.at') l
      · rw [if_pos h2]
        refine PL.Pure.of_v Try.func69 (by decide) rfl Try.ntmps69 Try.results69 (by simp) (fldsc_dids _) ?_
        simp only [go_sem, reduceIte, Nat.reduceEqDiff, reduceCtorEq, Nat.reduceLT, Nat.reduceAdd, Nat.reduceSub, Nat.reduceMul, Nat.reduceLeDiff, Int.reduceLT, Int.reduceLE, Int.reduceToNat, Int.reduceEq, Int.reduceAdd, Int.reduceSub, Int.reduceNeg, Int.reduceBNe, Int.reduceBEq, flds, fld]
        refine vScope0 ?_
        simp only [go_sem, reduceIte, Nat.reduceEqDiff, reduceCtorEq, Nat.reduceLT, Nat.reduceAdd, Nat.reduceSub, Nat.reduceMul, Nat.reduceLeDiff, Int.reduceLT, Int.reduceLE, Int.reduceToNat, Int.reduceEq, Int.reduceAdd, Int.reduceSub, Int.reduceNeg, Int.reduceBNe, Int.reduceBEq]
        refine vCall_of (hR) ?_ ?_ ?_; (focus simp only [go_sem, reduceIte, Nat.reduceEqDiff, reduceCtorEq, flds]); (focus simp only [go_sem, reduceIte, Nat.reduceEqDiff, reduceCtorEq, flds])
        simp only [go_sem, reduceIte, Nat.reduceEqDiff, reduceCtorEq, Nat.reduceLT, Nat.reduceAdd, Nat.reduceSub, Nat.reduceMul, Nat.reduceLeDiff, Int.reduceLT, Int.reduceLE, Int.reduceToNat, Int.reduceEq, Int.reduceAdd, Int.reduceSub, Int.reduceNeg, Int.reduceBNe, Int.reduceBEq]
        refine vCall_of (hF) ?_ ?_ ?_; (focus simp only [go_sem, reduceIte, Nat.reduceEqDiff, reduceCtorEq, fld]); (focus simp only [go_sem, reduceIte, Nat.reduceEqDiff, reduceCtorEq, fld])
        simp only [go_sem, reduceIte, Nat.reduceEqDiff, reduceCtorEq, Nat.reduceLT, Nat.reduceAdd, Nat.reduceSub, Nat.reduceMul, Nat.reduceLeDiff, Int.reduceLT, Int.reduceLE, Int.reduceToNat, Int.reduceEq, Int.reduceAdd, Int.reduceSub, Int.reduceNeg, Int.reduceBNe, Int.reduceBEq]
        refine vCall_of (hI) ?_ ?_ ?_; (focus simp only [go_sem, reduceIte, Nat.reduceEqDiff, reduceCtorEq, flds, ref]); (focus simp only [go_sem, reduceIte, Nat.reduceEqDiff, reduceCtorEq, flds, ref])
        simp only [go_sem, reduceIte, Nat.reduceEqDiff, reduceCtorEq, Nat.reduceLT, Nat.reduceAdd, Nat.reduceSub, Nat.reduceMul, Nat.reduceLeDiff, Int.reduceLT, Int.reduceLE, Int.reduceToNat, Int.reduceEq, Int.reduceAdd, Int.reduceSub, Int.reduceNeg, Int.reduceBNe, Int.reduceBEq, h2, fldsc, flds]
      · rw [if_neg h2]
        by_cases h3 : (16 : Int) ≤ (l.length : Int)
        · rw [if_pos h3]
          refine PL.Pure.of_v Try.func69 (by decide) rfl Try.ntmps69 Try.results69 (by simp) (fldsc_dids _) ?_
          simp only [go_sem, reduceIte, Nat.reduceEqDiff, reduceCtorEq, Nat.reduceLT, Nat.reduceAdd, Nat.reduceSub, Nat.reduceMul, Nat.reduceLeDiff, Int.reduceLT, Int.reduceLE, Int.reduceToNat, Int.reduceEq, Int.reduceAdd, Int.reduceSub, Int.reduceNeg, Int.reduceBNe, Int.reduceBEq, flds, fld]
          refine vScope0 ?_
          simp only [go_sem, reduceIte, Nat.reduceEqDiff, reduceCtorEq, Nat.reduceLT, Nat.reduceAdd, Nat.reduceSub, Nat.reduceMul, Nat.reduceLeDiff, Int.reduceLT, Int.reduceLE, Int.reduceToNat, Int.reduceEq, Int.reduceAdd, Int.reduceSub, Int.reduceNeg, Int.reduceBNe, Int.reduceBEq]
          refine vCall_of (hR) ?_ ?_ ?_; (focus simp only [go_sem, reduceIte, Nat.reduceEqDiff, reduceCtorEq, flds]); (focus simp only [go_sem, reduceIte, Nat.reduceEqDiff, reduceCtorEq, flds])
          simp only [go_sem, reduceIte, Nat.reduceEqDiff, reduceCtorEq, Nat.reduceLT, Nat.reduceAdd, Nat.reduceSub, Nat.reduceMul, Nat.reduceLeDiff, Int.reduceLT, Int.reduceLE, Int.reduceToNat, Int.reduceEq, Int.reduceAdd, Int.reduceSub, Int.reduceNeg, Int.reduceBNe, Int.reduceBEq]
          refine vCall_of (hF) ?_ ?_ ?_; (focus simp only [go_sem, reduceIte, Nat.reduceEqDiff, reduceCtorEq, fld]); (focus simp only [go_sem, reduceIte, Nat.reduceEqDiff, reduceCtorEq, fld])
          simp only [go_sem, reduceIte, Nat.reduceEqDiff, reduceCtorEq, Nat.reduceLT, Nat.reduceAdd, Nat.reduceSub, Nat.reduceMul, Nat.reduceLeDiff, Int.reduceLT, Int.reduceLE, Int.reduceToNat, Int.reduceEq, Int.reduceAdd, Int.reduceSub, Int.reduceNeg, Int.reduceBNe, Int.reduceBEq]
          refine vCall_of (hI) ?_ ?_ ?_; (focus simp only [go_sem, reduceIte, Nat.reduceEqDiff, reduceCtorEq, flds, ref]); (focus simp only [go_sem, reduceIte, Nat.reduceEqDiff, reduceCtorEq, flds, ref])
          simp only [go_sem, reduceIte, Nat.reduceEqDiff, reduceCtorEq, Nat.reduceLT, Nat.reduceAdd, Nat.reduceSub, Nat.reduceMul, Nat.reduceLeDiff, Int.reduceLT, Int.reduceLE, Int.reduceToNat, Int.reduceEq, Int.reduceAdd, Int.reduceSub, Int.reduceNeg, Int.reduceBNe, Int.reduceBEq, h2, h3, fldsc, flds]
        · rw [if_neg h3]
          have w0 : IntKind.i64.wrap ((l.length : Int) + 1) = ((l.length + 1 : Nat) : Int) := by rw [w64 (by omega)]; rfl
          refine PL.Pure.of_v Try.func69 (by decide) rfl Try.ntmps69 Try.results69 (by simp) (fldsc_dids _) ?_
          simp only [go_sem, reduceIte, Nat.reduceEqDiff, reduceCtorEq, Nat.reduceLT, Nat.reduceAdd, Nat.reduceSub, Nat.reduceMul, Nat.reduceLeDiff, Int.reduceLT, Int.reduceLE, Int.reduceToNat, Int.reduceEq, Int.reduceAdd, Int.reduceSub, Int.reduceNeg, Int.reduceBNe, Int.reduceBEq, flds, fld]
          refine vScope2 (ι0 := WA l f) (ι1 := WB l f) 72
            (fun x => [(0, flds l), (3, .ptr 3 0), (6, .sl (.row 49) (x.acc.map fld)), (7, .int .i64 (x.k : Int))]) (fun x => [(3, fcells f, false)]) (fun x => [(49, .live x.acc.length 7 46)]) (fun x => l.length - x.k)
            (fun x => [(0, flds l), (6, .sl (.row 68) (x.acc.map fld)), (7, .int .i64 (x.k : Int))]) (fun x => []) (fun x => [(68, .live x.acc.length 7 46)]) (fun x => l.length - x.k) (l.length + 1) (fun j => by show l.length - j.k < l.length + 1; omega)
            0 1 _ _ (by exact rfl) (by exact rfl)
            (fun x => ⟨forall_cons rfl (forall_cons rfl (forall_cons (by simp [PV.ids, refInM]) (forall_cons rfl (forall_nil)))), (forall_cons rfl (forall_nil))⟩)
            (fun x => ⟨forall_cons rfl (forall_cons (by simp [PV.ids, refInM]) (forall_cons rfl (forall_nil))), forall_nil⟩)
            (fun x cut => ?_) (fun x => ?_) (fun cut => ?_)
          · obtain ⟨k, acc, hk, hx⟩ := x
            simp only at cut ⊢
            have hacc : acc.length ≤ l.length + 1 := by rw [← ins_len l f, ← hx, List.length_append]; omega
            have hrm := room1 (show acc.length + 1 ≤ 1000000 by omega) (show 96 ≤ 1000 by omega)
            by_cases h : (k : Int) < (l.length : Int)
            · have hka : k < l.length := by omega
              have w1 := w64s hka hm
              have i1 : (0 : Int) ≤ (k : Int) := by omega
              have hL := Less_pure (l.getD k default).at' f.at'
              have hO := FOwn_pure (l.getD k default) (hc _ (getD_mem' hka))
              rw [drop_cons' hka (d := default)] at hx
              cases hb : lessB (l.getD k default).at' f.at'
              · rw [hb] at hL
                rw [ins_f hb] at hx
                simp only [go_sem, reduceIte, Nat.reduceEqDiff, reduceCtorEq, Nat.reduceLT, Nat.reduceAdd, Nat.reduceSub, Nat.reduceMul, Nat.reduceLeDiff, Int.reduceLT, Int.reduceLE, Int.reduceToNat, Int.reduceEq, Int.reduceAdd, Int.reduceSub, Int.reduceNeg, Int.reduceBNe, Int.reduceBEq, flds, fcells]
                refine vDrawQ (by kernel_rfl) (by kernel_rfl) ?_
                simp only [go_sem, reduceIte, Nat.reduceEqDiff, reduceCtorEq, Nat.reduceLT, Nat.reduceAdd, Nat.reduceSub, Nat.reduceMul, Nat.reduceLeDiff, Int.reduceLT, Int.reduceLE, Int.reduceToNat, Int.reduceEq, Int.reduceAdd, Int.reduceSub, Int.reduceNeg, Int.reduceBNe, Int.reduceBEq, h, i1, getD_fld hka, fld]
                refine vCall_of (hL) ?_ ?_ ?_; (focus simp only [go_sem, reduceIte, Nat.reduceEqDiff, reduceCtorEq, ref]); (focus simp only [go_sem, reduceIte, Nat.reduceEqDiff, reduceCtorEq, ref])
                simp only [go_sem, reduceIte, Nat.reduceEqDiff, reduceCtorEq, Nat.reduceLT, Nat.reduceAdd, Nat.reduceSub, Nat.reduceMul, Nat.reduceLeDiff, Int.reduceLT, Int.reduceLE, Int.reduceToNat, Int.reduceEq, Int.reduceAdd, Int.reduceSub, Int.reduceNeg, Int.reduceBNe, Int.reduceBEq]
                refine vCall_of (hOf) ?_ ?_ ?_; (focus simp only [go_sem, reduceIte, Nat.reduceEqDiff, reduceCtorEq, fld]); (focus simp only [go_sem, reduceIte, Nat.reduceEqDiff, reduceCtorEq, fld])
                simp only [go_sem, reduceIte, Nat.reduceEqDiff, reduceCtorEq, Nat.reduceLT, Nat.reduceAdd, Nat.reduceSub, Nat.reduceMul, Nat.reduceLeDiff, Int.reduceLT, Int.reduceLE, Int.reduceToNat, Int.reduceEq, Int.reduceAdd, Int.reduceSub, Int.reduceNeg, Int.reduceBNe, Int.reduceBEq, fld, sized_fld, hrm]
                refine awp_moveRow 6 56 68 (acc.length + 1) 7 46 ((acc ++ [f]).map fld) (by simp [upd, fld]) rfl rfl ?_
                refine awp_label_seq (cut ⟨k, acc ++ [f], hk, by rw [drop_cons' hka (d := default), ← hx]; simp⟩ _ ⟨rfl, forall_cons rfl (forall_cons rfl (forall_cons rfl (forall_nil))), forall_nil, forall_cons (by simp [upd, Hp.setq, St.with]) forall_nil⟩)
              · rw [hb] at hL
                rw [ins_t hb] at hx
                simp only [go_sem, reduceIte, Nat.reduceEqDiff, reduceCtorEq, Nat.reduceLT, Nat.reduceAdd, Nat.reduceSub, Nat.reduceMul, Nat.reduceLeDiff, Int.reduceLT, Int.reduceLE, Int.reduceToNat, Int.reduceEq, Int.reduceAdd, Int.reduceSub, Int.reduceNeg, Int.reduceBNe, Int.reduceBEq, flds, fcells]
                refine vDrawQ (by kernel_rfl) (by kernel_rfl) ?_
                simp only [go_sem, reduceIte, Nat.reduceEqDiff, reduceCtorEq, Nat.reduceLT, Nat.reduceAdd, Nat.reduceSub, Nat.reduceMul, Nat.reduceLeDiff, Int.reduceLT, Int.reduceLE, Int.reduceToNat, Int.reduceEq, Int.reduceAdd, Int.reduceSub, Int.reduceNeg, Int.reduceBNe, Int.reduceBEq, h, i1, getD_fld hka, fld]
                refine vCall_of (hL) ?_ ?_ ?_; (focus simp only [go_sem, reduceIte, Nat.reduceEqDiff, reduceCtorEq, ref]); (focus simp only [go_sem, reduceIte, Nat.reduceEqDiff, reduceCtorEq, ref])
                simp only [go_sem, reduceIte, Nat.reduceEqDiff, reduceCtorEq, Nat.reduceLT, Nat.reduceAdd, Nat.reduceSub, Nat.reduceMul, Nat.reduceLeDiff, Int.reduceLT, Int.reduceLE, Int.reduceToNat, Int.reduceEq, Int.reduceAdd, Int.reduceSub, Int.reduceNeg, Int.reduceBNe, Int.reduceBEq, h, i1, getD_fld hka, fld]
                refine vCall_of (hO) ?_ ?_ ?_; (focus simp only [go_sem, reduceIte, Nat.reduceEqDiff, reduceCtorEq, fld]); (focus simp only [go_sem, reduceIte, Nat.reduceEqDiff, reduceCtorEq, fld])
                simp only [go_sem, reduceIte, Nat.reduceEqDiff, reduceCtorEq, Nat.reduceLT, Nat.reduceAdd, Nat.reduceSub, Nat.reduceMul, Nat.reduceLeDiff, Int.reduceLT, Int.reduceLE, Int.reduceToNat, Int.reduceEq, Int.reduceAdd, Int.reduceSub, Int.reduceNeg, Int.reduceBNe, Int.reduceBEq, fld, sized_fld, hrm, w1]
                exact Or.inl ⟨rfl, ⟨k + 1, acc ++ [l.getD k default], by omega, by rw [← hx]; simp⟩, by show l.length - (k + 1) < l.length - k; omega, ⟨rfl, forall_cons rfl (forall_cons rfl (forall_cons (by simp [upd, fld]) (forall_cons rfl (forall_nil)))), forall_cons ⟨rfl, rfl⟩ forall_nil, forall_cons (by simp [upd]) forall_nil⟩⟩
            · obtain rfl : k = l.length := by omega
              simp only [go_sem, reduceIte, Nat.reduceEqDiff, reduceCtorEq, Nat.reduceLT, Nat.reduceAdd, Nat.reduceSub, Nat.reduceMul, Nat.reduceLeDiff, Int.reduceLT, Int.reduceLE, Int.reduceToNat, Int.reduceEq, Int.reduceAdd, Int.reduceSub, Int.reduceNeg, Int.reduceBNe, Int.reduceBEq, flds, fcells]
              refine vDrawQ (by kernel_rfl) (by kernel_rfl) ?_
              simp only [go_sem, reduceIte, Nat.reduceEqDiff, reduceCtorEq, Nat.reduceLT, Nat.reduceAdd, Nat.reduceSub, Nat.reduceMul, Nat.reduceLeDiff, Int.reduceLT, Int.reduceLE, Int.reduceToNat, Int.reduceEq, Int.reduceAdd, Int.reduceSub, Int.reduceNeg, Int.reduceBNe, Int.reduceBEq, h]
              refine vCall_of (hOf) ?_ ?_ ?_; (focus simp only [go_sem, reduceIte, Nat.reduceEqDiff, reduceCtorEq, fld]); (focus simp only [go_sem, reduceIte, Nat.reduceEqDiff, reduceCtorEq, fld])
              simp only [go_sem, reduceIte, Nat.reduceEqDiff, reduceCtorEq, Nat.reduceLT, Nat.reduceAdd, Nat.reduceSub, Nat.reduceMul, Nat.reduceLeDiff, Int.reduceLT, Int.reduceLE, Int.reduceToNat, Int.reduceEq, Int.reduceAdd, Int.reduceSub, Int.reduceNeg, Int.reduceBNe, Int.reduceBEq, fld, sized_fld, hrm]
              refine awp_moveRow 6 56 68 (acc.length + 1) 7 46 ((acc ++ [f]).map fld) (by simp [upd, fld]) rfl rfl ?_
              refine awp_label_seq (cut ⟨l.length, acc ++ [f], hk, by rw [← hx]; simp [insM]⟩ _ ⟨rfl, forall_cons rfl (forall_cons rfl (forall_cons rfl (forall_nil))), forall_nil, forall_cons (by simp [upd, Hp.setq, St.with]) forall_nil⟩)
          · obtain ⟨k, acc, hk, hx⟩ := x
            simp only
            have hacc : acc.length ≤ l.length + 1 := by rw [← ins_len l f, ← hx, List.length_append]; omega
            have hrm := room1 (show acc.length + 1 ≤ 1000000 by omega) (show 96 ≤ 1000 by omega)
            by_cases h : (k : Int) < (l.length : Int)
            · have hka : k < l.length := by omega
              have w1 := w64s hka hm
              have i1 : (0 : Int) ≤ (k : Int) := by omega
              have hO := FOwn_pure (l.getD k default) (hc _ (getD_mem' hka))
              rw [drop_cons' hka (d := default)] at hx
              simp only [go_sem, reduceIte, Nat.reduceEqDiff, reduceCtorEq, Nat.reduceLT, Nat.reduceAdd, Nat.reduceSub, Nat.reduceMul, Nat.reduceLeDiff, Int.reduceLT, Int.reduceLE, Int.reduceToNat, Int.reduceEq, Int.reduceAdd, Int.reduceSub, Int.reduceNeg, Int.reduceBNe, Int.reduceBEq, flds, h, i1, getD_fld hka, fld]
              refine vCall_of (hO) ?_ ?_ ?_; (focus simp only [go_sem, reduceIte, Nat.reduceEqDiff, reduceCtorEq, fld]); (focus simp only [go_sem, reduceIte, Nat.reduceEqDiff, reduceCtorEq, fld])
              simp only [go_sem, reduceIte, Nat.reduceEqDiff, reduceCtorEq, Nat.reduceLT, Nat.reduceAdd, Nat.reduceSub, Nat.reduceMul, Nat.reduceLeDiff, Int.reduceLT, Int.reduceLE, Int.reduceToNat, Int.reduceEq, Int.reduceAdd, Int.reduceSub, Int.reduceNeg, Int.reduceBNe, Int.reduceBEq, fld, sized_fld, hrm, w1]
              exact ⟨⟨k + 1, acc ++ [l.getD k default], by omega, by rw [← hx]; simp⟩, by show l.length - (k + 1) < l.length - k; omega, ⟨rfl, forall_cons rfl (forall_cons (by simp [upd, fld]) (forall_cons rfl (forall_nil))), forall_nil, forall_cons (by simp [upd]) forall_nil⟩⟩
            · obtain rfl : k = l.length := by omega
              rw [List.drop_length, List.append_nil] at hx
              subst hx
              simp only [go_sem, reduceIte, Nat.reduceEqDiff, reduceCtorEq, Nat.reduceLT, Nat.reduceAdd, Nat.reduceSub, Nat.reduceMul, Nat.reduceLeDiff, Int.reduceLT, Int.reduceLE, Int.reduceToNat, Int.reduceEq, Int.reduceAdd, Int.reduceSub, Int.reduceNeg, Int.reduceBNe, Int.reduceBEq, flds, h, fldsc]
          · simp only [go_sem, reduceIte, Nat.reduceEqDiff, reduceCtorEq, Nat.reduceLT, Nat.reduceAdd, Nat.reduceSub, Nat.reduceMul, Nat.reduceLeDiff, Int.reduceLT, Int.reduceLE, Int.reduceToNat, Int.reduceEq, Int.reduceAdd, Int.reduceSub, Int.reduceNeg, Int.reduceBNe, Int.reduceBEq]
            refine vCall_of (hR) ?_ ?_ ?_; (focus simp only [go_sem, reduceIte, Nat.reduceEqDiff, reduceCtorEq, flds]); (focus simp only [go_sem, reduceIte, Nat.reduceEqDiff, reduceCtorEq, flds])
            simp only [go_sem, reduceIte, Nat.reduceEqDiff, reduceCtorEq, Nat.reduceLT, Nat.reduceAdd, Nat.reduceSub, Nat.reduceMul, Nat.reduceLeDiff, Int.reduceLT, Int.reduceLE, Int.reduceToNat, Int.reduceEq, Int.reduceAdd, Int.reduceSub, Int.reduceNeg, Int.reduceBNe, Int.reduceBEq]
            refine vCall_of (hF) ?_ ?_ ?_; (focus simp only [go_sem, reduceIte, Nat.reduceEqDiff, reduceCtorEq, fld]); (focus simp only [go_sem, reduceIte, Nat.reduceEqDiff, reduceCtorEq, fld])
            simp only [go_sem, reduceIte, Nat.reduceEqDiff, reduceCtorEq, Nat.reduceLT, Nat.reduceAdd, Nat.reduceSub, Nat.reduceMul, Nat.reduceLeDiff, Int.reduceLT, Int.reduceLE, Int.reduceToNat, Int.reduceEq, Int.reduceAdd, Int.reduceSub, Int.reduceNeg, Int.reduceBNe, Int.reduceBEq]
            refine vCall_of (hI) ?_ ?_ ?_; (focus simp only [go_sem, reduceIte, Nat.reduceEqDiff, reduceCtorEq, flds, ref]); (focus simp only [go_sem, reduceIte, Nat.reduceEqDiff, reduceCtorEq, flds, ref])
            simp only [go_sem, reduceIte, Nat.reduceEqDiff, reduceCtorEq, Nat.reduceLT, Nat.reduceAdd, Nat.reduceSub, Nat.reduceMul, Nat.reduceLeDiff, Int.reduceLT, Int.reduceLE, Int.reduceToNat, Int.reduceEq, Int.reduceAdd, Int.reduceSub, Int.reduceNeg, Int.reduceBNe, Int.reduceBEq, h2, h3, w0]
            refine ⟨by omega, ?_⟩
            refine awp_moveRow 6 27 49 0 7 46 [] rfl rfl rfl ?_
            exact awp_label_seq (cut ⟨0, [], Nat.zero_le _, rfl⟩ _ ⟨rfl, (forall_cons rfl (forall_cons rfl (forall_cons rfl (forall_cons rfl (forall_nil))))), forall_cons ⟨rfl, rfl⟩ forall_nil, forall_cons rfl forall_nil⟩)
end Go.Proofs.Ytbojhapdidieoaa
