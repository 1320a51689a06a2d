/- Contracts of functions and laws of this seat, each for every input that it names: lemmas of the proof. -/
import Derived.Test.YthingdchjkhfbaaGreatVXAq
import Derived.Test.YthingdchjkhfbaaGreatVPlH
set_option linter.unusedSimpArgs false
set_option linter.unusedVariables false
set_option linter.unusedSimpArgs false
set_option linter.unusedVariables false
namespace Go.Proofs.YthingdchjkhfbaaGreat
open Go.PL
def less' (r : Rf) : Fd → Bool := fun f => lessB f.at' r
def insM (l : List Fd) (f : Fd) : List Fd := l.takeWhile (less' f.at') ++ f :: l.dropWhile (less' f.at')
def withM (l : List Fd) (f : Fd) : List Fd × Int := if rightL l = false ∨ rightF f = false then ([], 5) else if 0 ≤ idx (atF f.at') l then ([], 7) else if 16 ≤ (l.length : Int) then ([], 14) else (insM l f, 0)
structure WA (l : List Fd) (f : Fd) where
 k : Nat
 acc : List Fd
 hk : k ≤ l.length
 h : acc ++ insM (l.drop k) f = insM l f
structure WB (l : List Fd) (f : Fd) where
 k : Nat
 acc : List Fd
 hk : k ≤ l.length
 h : acc ++ l.drop k = insM l f
theorem drop_cons' {α : Type} {l : List α} {k : Nat} {d : α} (h : k < l.length) : l.drop k = l.getD k d :: l.drop (k + 1) := by
 rw [List.getD_eq_getElem?_getD, List.getElem?_eq_getElem h]; exact List.drop_eq_getElem_cons h
theorem ins_t {l : List Fd} {f x : Fd} (h : lessB x.at' f.at' = true) : insM (x :: l) f = x :: insM l f := by
 simp [insM, less', h]
theorem ins_f {l : List Fd} {f x : Fd} (h : lessB x.at' f.at' = false) : insM (x :: l) f = f :: x :: l := by
 simp [insM, less', h]
theorem ins_len (l : List Fd) (f : Fd) : (insM l f).length = l.length + 1 := by
 unfold insM
 have := congrArg List.length (List.takeWhile_append_dropWhile (p := less' f.at') (l := l))
 simp only [List.length_append, List.length_cons] at *
 omega
def fcells (f : Fd) : List PV := [.int .i64 f.at'.sc, .str f.at'.gr, .str f.at'.nm, .int .i64 f.kind, .str f.df, .sl .no (f.cases'.map .str), .int .i64 f.worth]
set_option maxRecDepth 20000 in
set_option maxHeartbeats 8000000 in
theorem With_pure (l : List Fd) (f : Fd) (hl : l.length ≤ 100000) (hc : ∀ f ∈ l, f.cases'.length ≤ 1000000) (hf : f.cases'.length ≤ 1000000) : PL.Pure Tryz.prog 91 [flds l, fld f] (fldsc (withM l f)) := by
 have hm : l.length ≤ maxLen := by rw [maxLen_eq]; omega
 have hR := SRight_pure l hm (fun f hf => by have := hc f hf; rw [maxLen_eq]; omega)
 have hF := Right_pure f (by rw [maxLen_eq]; omega)
 have hI : PL.Pure Tryz.prog 116 [flds l, ref f.at'] (.int .i64 (idx (atF f.at') l)) := Index_pure l f.at' hm
 have hOf := FOwn_pure f hf
 unfold withM
 cases hr : rightL l
 ·rw [hr] at hR
  simp only [true_or, if_true]
  refine PL.Pure.of_v Tryz.func91 (by decide) rfl Tryz.ntmps91 Tryz.results91 (by simp) (fldsc_dids _) ?_
  simp only [go_sem, flds, fld]
  refine vScope0 ?_
  simp only [go_sem]
  refine vCall_of (hR) ?_ ?_ ?_; iterate 2 simp only [go_sem, flds]
  simp only [go_sem, fldsc, flds]
 ·rw [hr] at hR
  cases hrf : rightF f
  ·rw [hrf] at hF
   simp only [or_true, if_true]
   refine PL.Pure.of_v Tryz.func91 (by decide) rfl Tryz.ntmps91 Tryz.results91 (by simp) (fldsc_dids _) ?_
   simp only [go_sem, flds, fld]
   refine vScope0 ?_
   simp only [go_sem]
   refine vCall_of (hR) ?_ ?_ ?_; iterate 2 simp only [go_sem, flds]
   simp only [go_sem]
   refine vCall_of (hF) ?_ ?_ ?_; iterate 2 simp only [go_sem, fld]
   simp only [go_sem, fldsc, flds]
  ·rw [hrf] at hF
   simp only [Bool.true_eq_false, or_self, if_false]
   by_cases h2 : (0 : Int) ≤ idx (atF f.at') l
   ·rw [if_pos h2]
    refine PL.Pure.of_v Tryz.func91 (by decide) rfl Tryz.ntmps91 Tryz.results91 (by simp) (fldsc_dids _) ?_
    simp only [go_sem, flds, fld]
    refine vScope0 ?_
    simp only [go_sem]
    refine vCall_of (hR) ?_ ?_ ?_; iterate 2 simp only [go_sem, flds]
    simp only [go_sem]
    refine vCall_of (hF) ?_ ?_ ?_; iterate 2 simp only [go_sem, fld]
    simp only [go_sem]
    refine vCall_of (hI) ?_ ?_ ?_; iterate 2 simp only [go_sem, flds, ref]
    simp only [go_sem, h2, fldsc, flds]
   ·rw [if_neg h2]
    by_cases h3 : (16 : Int) ≤ (l.length : Int)
    ·rw [if_pos h3]
     refine PL.Pure.of_v Tryz.func91 (by decide) rfl Tryz.ntmps91 Tryz.results91 (by simp) (fldsc_dids _) ?_
     simp only [go_sem, flds, fld]
     refine vScope0 ?_
     simp only [go_sem]
     refine vCall_of (hR) ?_ ?_ ?_; iterate 2 simp only [go_sem, flds]
     simp only [go_sem]
     refine vCall_of (hF) ?_ ?_ ?_; iterate 2 simp only [go_sem, fld]
     simp only [go_sem]
     refine vCall_of (hI) ?_ ?_ ?_; iterate 2 simp only [go_sem, flds, ref]
     simp only [go_sem, h2, h3, fldsc, flds]
    ·rw [if_neg h3]
     have w0 : IntKind.i64.wrap ((l.length : Int) + 1) = ((l.length + 1 : Nat) : Int) := by rw [w64 (by omega)]; rfl
     refine PL.Pure.of_v Tryz.func91 (by decide) rfl Tryz.ntmps91 Tryz.results91 (by simp) (fldsc_dids _) ?_
     simp only [go_sem, flds, fld]
     refine vScope2 (ι0 := WA l f) (ι1 := WB l f) 72
      (fun x => [(0, flds l), (3, .ptr 3 0), (6, .sl (.row 49) (x.acc.map fld)), (7, .int .i64 (x.k : Int))]) (fun x => [(3, fcells f, false)]) (fun x => [(49, .live x.acc.length 7 63)]) (fun x => l.length - x.k)
      (fun x => [(0, flds l), (6, .sl (.row 68) (x.acc.map fld)), (7, .int .i64 (x.k : Int))]) (fun x => []) (fun x => [(68, .live x.acc.length 7 63)]) (fun x => l.length - x.k) (l.length + 1) (fun j => by show l.length - j.k < l.length + 1; omega)
      0 1 _ _ (by exact rfl) (by exact rfl)
      (fun x => ⟨fcs rfl (fcs rfl (fcs (by simp [PV.ids, refInM]) (fcs rfl fnl))), (fcs rfl fnl)⟩)
      (fun x => ⟨fcs rfl (fcs (by simp [PV.ids, refInM]) (fcs rfl fnl)), fnl⟩)
      (fun x cut => ?_) (fun x => ?_) (fun cut => ?_)
     ·obtain ⟨k, acc, hk, hx⟩ := x
      simp only at cut ⊢
      have hacc : acc.length ≤ l.length + 1 := by rw [← ins_len l f, ← hx, List.length_append]; omega
      have hrm := room1 (show acc.length + 1 ≤ 1000000 by omega) (show 96 ≤ 1000 by omega)
      by_cases h : (k : Int) < (l.length : Int)
      ·have hka : k < l.length := by omega
       have w1 := w64s hka hm
       have i1 : (0 : Int) ≤ (k : Int) := by omega
       have hL := Less_pure (l.getD k default).at' f.at'
       have hO := FOwn_pure (l.getD k default) (hc _ (getD_mem' hka))
       rw [drop_cons' hka (d := default)] at hx
       cases hb : lessB (l.getD k default).at' f.at'
       ·rw [hb] at hL
        rw [ins_f hb] at hx
        simp only [go_sem, flds, fcells]
        refine vDrawQ (by kernel_rfl) (by kernel_rfl) ?_
        simp only [go_sem, h, i1, getD_fld hka, fld]
        refine vCall_of (hL) ?_ ?_ ?_; iterate 2 simp only [go_sem, ref]
        simp only [go_sem]
        refine vCall_of (hOf) ?_ ?_ ?_; iterate 2 simp only [go_sem, fld]
        simp only [go_sem, fld, sized_fld, hrm]
        refine awp_moveRow 6 56 68 (acc.length + 1) 7 63 ((acc ++ [f]).map fld) (by simp [upd, fld]) rfl rfl ?_
        refine awp_label_seq (cut ⟨k, acc ++ [f], hk, by rw [drop_cons' hka (d := default), ← hx]; simp⟩ _ ⟨rfl, fcs rfl (fcs rfl (fcs rfl fnl)), fnl, fcs (by simp [upd, Hp.setq, St.with]) fnl⟩)
       ·rw [hb] at hL
        rw [ins_t hb] at hx
        simp only [go_sem, flds, fcells]
        refine vDrawQ (by kernel_rfl) (by kernel_rfl) ?_
        simp only [go_sem, h, i1, getD_fld hka, fld]
        refine vCall_of (hL) ?_ ?_ ?_; iterate 2 simp only [go_sem, ref]
        simp only [go_sem, h, i1, getD_fld hka, fld]
        refine vCall_of (hO) ?_ ?_ ?_; iterate 2 simp only [go_sem, fld]
        simp only [go_sem, fld, sized_fld, hrm, w1]
        exact Or.inl ⟨rfl, ⟨k + 1, acc ++ [l.getD k default], by omega, by rw [← hx]; simp⟩, by show l.length - (k + 1) < l.length - k; omega, ⟨rfl, fcs rfl (fcs rfl (fcs (by simp [upd, fld]) (fcs rfl fnl))), fcs ⟨rfl, rfl⟩ fnl, fcs (by simp [upd]) fnl⟩⟩
      ·obtain rfl : k = l.length := by omega
       simp only [go_sem, flds, fcells]
       refine vDrawQ (by kernel_rfl) (by kernel_rfl) ?_
       simp only [go_sem, h]
       refine vCall_of (hOf) ?_ ?_ ?_; iterate 2 simp only [go_sem, fld]
       simp only [go_sem, fld, sized_fld, hrm]
       refine awp_moveRow 6 56 68 (acc.length + 1) 7 63 ((acc ++ [f]).map fld) (by simp [upd, fld]) rfl rfl ?_
       refine awp_label_seq (cut ⟨l.length, acc ++ [f], hk, by rw [← hx]; simp [insM]⟩ _ ⟨rfl, fcs rfl (fcs rfl (fcs rfl fnl)), fnl, fcs (by simp [upd, Hp.setq, St.with]) fnl⟩)
     ·obtain ⟨k, acc, hk, hx⟩ := x
      simp only
      have hacc : acc.length ≤ l.length + 1 := by rw [← ins_len l f, ← hx, List.length_append]; omega
      have hrm := room1 (show acc.length + 1 ≤ 1000000 by omega) (show 96 ≤ 1000 by omega)
      by_cases h : (k : Int) < (l.length : Int)
      ·have hka : k < l.length := by omega
       have w1 := w64s hka hm
       have i1 : (0 : Int) ≤ (k : Int) := by omega
       have hO := FOwn_pure (l.getD k default) (hc _ (getD_mem' hka))
       rw [drop_cons' hka (d := default)] at hx
       simp only [go_sem, flds, h, i1, getD_fld hka, fld]
       refine vCall_of (hO) ?_ ?_ ?_; iterate 2 simp only [go_sem, fld]
       simp only [go_sem, fld, sized_fld, hrm, w1]
       exact ⟨⟨k + 1, acc ++ [l.getD k default], by omega, by rw [← hx]; simp⟩, by show l.length - (k + 1) < l.length - k; omega, ⟨rfl, fcs rfl (fcs (by simp [upd, fld]) (fcs rfl fnl)), fnl, fcs (by simp [upd]) fnl⟩⟩
      ·obtain rfl : k = l.length := by omega
       rw [List.drop_length, List.append_nil] at hx
       subst hx
       simp only [go_sem, flds, h, fldsc]
     ·simp only [go_sem]
      refine vCall_of (hR) ?_ ?_ ?_; iterate 2 simp only [go_sem, flds]
      simp only [go_sem]
      refine vCall_of (hF) ?_ ?_ ?_; iterate 2 simp only [go_sem, fld]
      simp only [go_sem]
      refine vCall_of (hI) ?_ ?_ ?_; iterate 2 simp only [go_sem, flds, ref]
      simp only [go_sem, h2, h3, w0]
      refine ⟨by omega, ?_⟩
      refine awp_moveRow 6 27 49 0 7 63 [] rfl rfl rfl ?_
      exact awp_label_seq (cut ⟨0, [], Nat.zero_le _, rfl⟩ _ ⟨rfl, (fcs rfl (fcs rfl (fcs rfl (fcs rfl fnl)))), fcs ⟨rfl, rfl⟩ fnl, fcs rfl fnl⟩)
end Go.Proofs.YthingdchjkhfbaaGreat
set_option linter.unusedSimpArgs false
set_option linter.unusedVariables false
set_option linter.unusedSimpArgs false
set_option linter.unusedVariables false
namespace Go.Proofs.YthingdchjkhfbaaGreat
open Go.PL
def hasFr (l : List Pr) (s : Str) : Bool := l.any fun q => q.fr' == s
theorem caseM_snd (l : List Pr) (s : Str) : (caseM l s).2 = hasFr l s := by
 unfold caseM hasFr
 cases h : l.find? (fun p => p.fr' == s) with
 | none =>
  symm
  rw [List.any_eq_false]
  intro x hx
  exact List.find?_eq_none.1 h x hx
 | some p =>
  symm
  exact List.any_eq_true.2 ⟨p, List.mem_of_find?_eq_some h, List.find?_some (p := fun p : Pr => p.fr' == s) h⟩
theorem has_froms (l : List Pr) (s : Str) : (fromsM l).any (· == s) = hasFr l s := by
 simp [fromsM, hasFr, List.any_map, Function.comp_def]
def tabOk (t o : List Pr) (i : Nat) : Bool := nameB (t.getD i default).fr' && (!(hasFr (t.take i) (t.getD i default).fr') && hasFr o (t.getD i default).to')
def tableM (t o : List Pr) : Bool := decide (1 ≤ t.length ∧ t.length ≤ 6) && (List.range t.length).all (tabOk t o)
theorem take_pr (l : List Pr) (k : Nat) : List.take k (l.map pr) = (l.take k).map pr := by rw [List.map_take]
theorem sized_pr (l : List Pr) : Sized 2 (l.map pr) := fun e he => by
 obtain ⟨x, _, rfl⟩ := List.mem_map.1 he; rfl
theorem atoms_pr (l : List Pr) : Atoms (l.map pr) := fun e he => by
 obtain ⟨x, _, rfl⟩ := List.mem_map.1 he; rfl
theorem hasFr_true {l : List Pr} {s : Str} {k : Nat} (hk : k < l.length) (h : ((l.getD k default).fr' == s) = true) : hasFr l s = true := any_true (p := fun q : Pr => q.fr' == s) hk h
theorem hasFr_false {l : List Pr} {s : Str} (h : ∀ j, j < l.length → ((l.getD j default).fr' == s) = false) : hasFr l s = false := any_false (p := fun q : Pr => q.fr' == s) (d := default) h
set_option maxRecDepth 20000 in
set_option maxHeartbeats 8000000 in
theorem rightTable_pure (t o : List Pr) (ho : o.length ≤ maxLen) : PL.Pure Tryz.prog 168 [prs t, prs o] (.bool (tableM t o)) := by
 by_cases h1 : (t.length : Int) < 1
 ·have hx : tableM t o = false := by simp only [tableM, show ¬ (1 ≤ t.length ∧ t.length ≤ 6) by omega, decide_false, Bool.false_and]
  refine PL.Pure.of_v Tryz.func168 (by decide) rfl Tryz.ntmps168 Tryz.results168 (by simp) rfl ?_
  simp only [go_sem, prs, h1, hx]
 ·by_cases h2 : (6 : Int) < (t.length : Int)
  ·have hx : tableM t o = false := by simp only [tableM, show ¬ (1 ≤ t.length ∧ t.length ≤ 6) by omega, decide_false, Bool.false_and]
   refine PL.Pure.of_v Tryz.func168 (by decide) rfl Tryz.ntmps168 Tryz.results168 (by simp) rfl ?_
   simp only [go_sem, prs, h1, h2, hx]
  ·have hm : t.length ≤ maxLen := by rw [maxLen_eq]; omega
   have hx : tableM t o = (List.range t.length).all (tabOk t o) := by simp only [tableM, show (1 ≤ t.length ∧ t.length ≤ 6) by omega, and_self, decide_true, Bool.true_and]
   rw [hx]
   refine PL.Pure.of_v Tryz.func168 (by decide) rfl Tryz.ntmps168 Tryz.results168 (by simp) rfl ?_
   simp only [go_sem, prs, h1, h2]
   refine vLoopM (ι := { x : Nat // x ≤ (t).length ∧ (∀ j, j < x → tabOk t o j = true) }) 54 (fun x => [(0, prs t), (1, prs o), (19, prs t), (20, .int .i64 (t.length : Int)), (21, .int .i64 (x.1 : Int))]) (fun x => []) (fun x => []) (fun x => (t).length - x.1) ⟨0, Nat.zero_le _, fun j hj => absurd hj (Nat.not_lt_zero j)⟩ ⟨rfl, (fcs rfl (fcs rfl (fcs rfl (fcs rfl (fcs rfl fnl))))), fnl, fnl⟩ (fun x => ⟨(fcs rfl (fcs rfl (fcs rfl (fcs rfl (fcs rfl fnl))))), fnl⟩) (fun x => ?_); obtain ⟨k, hk, hI⟩ := x; simp only at hk hI ⊢
   by_cases h : (k : Int) < (t.length : Int)
   ·(have hka : k < (t).length := by omega); (have w1 := w64s hka (hm)); (have i1 : (0 : Int) ≤ (k : Int) := by omega)
    have i2 : (k : Int) ≤ (t.length : Int) := by omega
    have hN := Name_pure (t.getD k default).fr'
    cases hn : nameB (t.getD k default).fr'
    ·rw [hn] at hN
     have hz := rall_false (p := tabOk t o) hka (by simp only [tabOk, hn, Bool.false_and])
     simp only [go_sem, prs, h, i1, getD_pr hka, pr]
     refine vCall_of (hN) ?_ ?_ ?_; iterate 2 simp only [go_sem]
     simp only [go_sem, hz]
    ·rw [hn] at hN
     have hT : (t.take k).length ≤ maxLen := by rw [List.length_take]; omega
     simp only [go_sem, prs, h, i1, getD_pr hka, pr]
     refine vCall_of (hN) ?_ ?_ ?_; iterate 2 simp only [go_sem]
     simp only [go_sem, i1, i2, sized_pr, cut, Nat.sub_zero, take_pr]
     refine vLoopM (ι := { x : Nat // x ≤ (t.take k).length ∧ (∀ j, j < x → (((t.take k).getD j default).fr' == (t.getD k default).fr') = false) }) 54 (fun x => [(0, prs t), (1, prs o), (6, .ptr 6 0), (19, prs t), (20, .int .i64 (t.length : Int)), (21, .int .i64 (k : Int)), (32, .sl .no ((t.take k).map pr)), (33, .int .i64 ((t.take k).length : Int)), (34, .int .i64 (x.1 : Int))]) (fun x => [(6, [.str (t.getD k default).fr', .str (t.getD k default).to'], false)]) (fun x => []) (fun x => (t.take k).length - x.1) ⟨0, Nat.zero_le _, fun j hj => absurd hj (Nat.not_lt_zero j)⟩ ⟨rfl, (fcs rfl (fcs rfl (fcs rfl (fcs rfl (fcs rfl (fcs rfl (fcs rfl (fcs rfl (fcs rfl fnl))))))))), (fcs ⟨rfl, rfl⟩ fnl), fnl⟩ (fun x => ⟨(fcs rfl (fcs rfl (fcs rfl (fcs rfl (fcs rfl (fcs rfl (fcs rfl (fcs rfl (fcs rfl fnl))))))))), (fcs rfl fnl)⟩) (fun x => ?_); obtain ⟨kb, hkb, hIb⟩ := x; simp only at hkb hIb ⊢
     by_cases hb : (kb : Int) < ((t.take k).length : Int)
     ·(have hkab : kb < (t.take k).length := by omega); (have w1b := w64s hkab (hT)); (have i1b : (0 : Int) ≤ (kb : Int) := by omega)
      cases he : (((t.take k).getD kb default).fr' == (t.getD k default).fr')
      ·simp only [go_sem, prs, hb, getD_pr hkab, pr, i1b, he, w1b]
       exact ⟨⟨kb + 1, by (try simp only); omega, below_succ hIb he⟩, by show (t.take k).length - (kb + 1) < (t.take k).length - kb; omega, ⟨rfl, (fcs rfl (fcs rfl (fcs rfl (fcs rfl (fcs rfl (fcs rfl (fcs rfl (fcs rfl (fcs rfl fnl))))))))), (fcs ⟨rfl, rfl⟩ fnl), fnl⟩⟩
      ·have hz := rall_false (p := tabOk t o) hka (by simp only [tabOk, hasFr_true hkab he, Bool.not_true, Bool.false_and, Bool.and_false])
       simp only [go_sem, prs, hb, getD_pr hkab, pr, i1b, he, hz]
     ·have hf := hasFr_false (l := t.take k) (s := (t.getD k default).fr') (fun j hj => hIb j (by omega))
      have hC := Case_pure o (t.getD k default).to' ho
      have hs := caseM_snd o (t.getD k default).to'
      cases hh : hasFr o (t.getD k default).to'
      ·have hz := rall_false (p := tabOk t o) hka (by simp only [tabOk, hh, Bool.and_false])
       rw [hh] at hs
       simp only [go_sem, prs, hb]
       refine vCall_of (hC) ?_ ?_ ?_; iterate 2 simp only [go_sem, prs]
       simp only [go_sem, strb, hs, hz]
      ·have ok : tabOk t o k = true := by simp only [tabOk, hn, hf, hh, Bool.not_false, Bool.and_self]
       rw [hh] at hs
       simp only [go_sem, prs, hb]
       refine vCall_of (hC) ?_ ?_ ?_; iterate 2 simp only [go_sem, prs]
       simp only [go_sem, strb, hs, w1]
       exact ⟨⟨k + 1, by (try simp only); omega, below_succ hI ok⟩, by show (t).length - (k + 1) < (t).length - k; omega, ⟨rfl, (fcs rfl (fcs rfl (fcs rfl (fcs rfl (fcs rfl fnl))))), fnl, fnl⟩⟩
   ·have hz := rall_true (p := tabOk t o) (n := t.length) (fun j hj => hI j (by omega))
    simp only [go_sem, prs, h, hz]
set_option maxRecDepth 20000 in
set_option maxHeartbeats 8000000 in
theorem Rtable_pure (t o : List Pr) (ho : o.length ≤ 1000000) : PL.Pure Tryz.prog 141 [prs t, prs o] (.bool (tableM t o)) := by
 by_cases h1 : (t.length : Int) = 0
 ·have hx : tableM t o = false := by simp only [tableM, show ¬ (1 ≤ t.length ∧ t.length ≤ 6) by omega, decide_false, Bool.false_and]
  have h1' : ((t.length : Int) == 0) = true := by rw [h1]; rfl
  refine PL.Pure.of_v Tryz.func141 (by decide) rfl Tryz.ntmps141 Tryz.results141 (by simp) rfl ?_
  simp only [go_sem, prs, h1', hx]
 ·have h1' : ((t.length : Int) == 0) = false := beq_eq_false_iff_ne.2 h1
  by_cases h2 : (6 : Int) < (t.length : Int)
  ·have hx : tableM t o = false := by simp only [tableM, show ¬ (1 ≤ t.length ∧ t.length ≤ 6) by omega, decide_false, Bool.false_and]
   refine PL.Pure.of_v Tryz.func141 (by decide) rfl Tryz.ntmps141 Tryz.results141 (by simp) rfl ?_
   simp only [go_sem, prs, h1', h2, hx]
  ·have hm : t.length ≤ maxLen := by rw [maxLen_eq]; omega
   have hx : tableM t o = (List.range t.length).all (tabOk t o) := by simp only [tableM, show (1 ≤ t.length ∧ t.length ≤ 6) by omega, and_self, decide_true, Bool.true_and]
   rw [hx]
   refine PL.Pure.of_v Tryz.func141 (by decide) rfl Tryz.ntmps141 Tryz.results141 (by simp) rfl ?_
   simp only [go_sem, prs, h1', h2]
   refine vLoopM (ι := { x : Nat // x ≤ (t).length ∧ (∀ j, j < x → tabOk t o j = true) }) 50 (fun x => [(0, prs t), (1, prs o), (5, .int .i64 (x.1 : Int))]) (fun x => []) (fun x => []) (fun x => (t).length - x.1) ⟨0, Nat.zero_le _, fun j hj => absurd hj (Nat.not_lt_zero j)⟩ ⟨rfl, (fcs rfl (fcs rfl (fcs rfl fnl))), fnl, fnl⟩ (fun x => ⟨(fcs rfl (fcs rfl (fcs rfl fnl))), fnl⟩) (fun x => ?_); obtain ⟨k, hk, hI⟩ := x; simp only at hk hI ⊢
   by_cases h : (k : Int) < (t.length : Int)
   ·(have hka : k < (t).length := by omega); (have w1 := w64s hka (hm)); (have i1 : (0 : Int) ≤ (k : Int) := by omega)
    have i2 : (k : Int) ≤ (t.length : Int) := by omega
    have hN := RName_pure (t.getD k default).fr'
    have hT : (t.take k).length ≤ 1000000 := by rw [List.length_take]; omega
    have hF1 := RFroms_pure (t.take k) hT
    have hF2 := RFroms_pure o ho
    have hH1 := RHas_pure (fromsM (t.take k)) (t.getD k default).fr' (by rw [fromsM, List.length_map, maxLen_eq]; omega)
    have hH2 := RHas_pure (fromsM o) (t.getD k default).to' (by rw [fromsM, List.length_map, maxLen_eq]; omega)
    rw [has_froms] at hH1 hH2
    cases hn : nameB (t.getD k default).fr'
    ·rw [hn] at hN
     have hz := rall_false (p := tabOk t o) hka (by simp only [tabOk, hn, Bool.false_and])
     simp only [go_sem, prs, h, i1]
     refine vDrawQ (by kernel_rfl) (by kernel_rfl) ?_
     simp only [go_sem, prs, h, i1, getD_pr hka, pr]
     refine vCall_of (hN) ?_ ?_ ?_; iterate 2 simp only [go_sem]
     simp only [go_sem, hz]
    ·rw [hn] at hN
     cases hf : hasFr (t.take k) (t.getD k default).fr'
     ·rw [hf] at hH1
      cases hh : hasFr o (t.getD k default).to'
      ·rw [hh] at hH2
       have hz := rall_false (p := tabOk t o) hka (by simp only [tabOk, hh, Bool.and_false])
       simp only [go_sem, prs, h, i1]
       refine vDrawQ (by kernel_rfl) (by kernel_rfl) ?_
       simp only [go_sem, prs, h, i1, getD_pr hka, pr]
       refine vCall_of (hN) ?_ ?_ ?_; iterate 2 simp only [go_sem]
       simp only [go_sem, prs, h, i1, i2, sized_pr, cut, Nat.sub_zero, take_pr]
       refine vCall_of (hF1) ?_ ?_ ?_; iterate 2 simp only [go_sem, prs]
       simp only [go_sem, prs, h, i1, i2, getD_pr hka, pr]
       refine vCall_of (hH1) ?_ ?_ ?_; iterate 2 simp only [go_sem, strs]
       simp only [go_sem, prs]
       refine vCall_of (hF2) ?_ ?_ ?_; iterate 2 simp only [go_sem, prs]
       simp only [go_sem, prs, h, i1, i2, getD_pr hka, pr]
       refine vCall_of (hH2) ?_ ?_ ?_; iterate 2 simp only [go_sem, strs]
       simp only [go_sem, hz]
      ·rw [hh] at hH2
       have ok : tabOk t o k = true := by simp only [tabOk, hn, hf, hh, Bool.not_false, Bool.and_self]
       simp only [go_sem, prs, h, i1]
       refine vDrawQ (by kernel_rfl) (by kernel_rfl) ?_
       simp only [go_sem, prs, h, i1, getD_pr hka, pr]
       refine vCall_of (hN) ?_ ?_ ?_; iterate 2 simp only [go_sem]
       simp only [go_sem, prs, h, i1, i2, sized_pr, cut, Nat.sub_zero, take_pr]
       refine vCall_of (hF1) ?_ ?_ ?_; iterate 2 simp only [go_sem, prs]
       simp only [go_sem, prs, h, i1, i2, getD_pr hka, pr]
       refine vCall_of (hH1) ?_ ?_ ?_; iterate 2 simp only [go_sem, strs]
       simp only [go_sem, prs]
       refine vCall_of (hF2) ?_ ?_ ?_; iterate 2 simp only [go_sem, prs]
       simp only [go_sem, prs, h, i1, i2, getD_pr hka, pr]
       refine vCall_of (hH2) ?_ ?_ ?_; iterate 2 simp only [go_sem, strs]
       simp only [go_sem, w1]
       exact ⟨⟨k + 1, by (try simp only); omega, below_succ hI ok⟩, by show (t).length - (k + 1) < (t).length - k; omega, ⟨rfl, (fcs rfl (fcs rfl (fcs rfl fnl))), fnl, fnl⟩⟩
     ·rw [hf] at hH1
      have hz := rall_false (p := tabOk t o) hka (by simp only [tabOk, hf, Bool.not_true, Bool.false_and, Bool.and_false])
      simp only [go_sem, prs, h, i1]
      refine vDrawQ (by kernel_rfl) (by kernel_rfl) ?_
      simp only [go_sem, prs, h, i1, getD_pr hka, pr]
      refine vCall_of (hN) ?_ ?_ ?_; iterate 2 simp only [go_sem]
      simp only [go_sem, prs, h, i1, i2, sized_pr, cut, Nat.sub_zero, take_pr]
      refine vCall_of (hF1) ?_ ?_ ?_; iterate 2 simp only [go_sem, prs]
      simp only [go_sem, prs, h, i1, i2, getD_pr hka, pr]
      refine vCall_of (hH1) ?_ ?_ ?_; iterate 2 simp only [go_sem, strs]
      simp only [go_sem, hz]
   ·have hz := rall_true (p := tabOk t o) (n := t.length) (fun j hj => hI j (by omega))
    simp only [go_sem, prs, h, hz]
theorem lns_dids (x : Ln) : (lns x).dids = [] := by
 have : ∀ l : List Pr, PV.didsL (l.map pr) = [] := fun l => by
  induction l with
  | nil => rfl
  | cons t l ih => simp only [List.map_cons, PV.didsL, ih, pr, PV.dids, List.append_nil]
 simp only [lns, PV.dids, PV.didsL, didsL_str, this, List.append_nil]
structure OkLn (x : Ln) : Prop where
 c : x.fd.cases'.length ≤ 1000000
 f : x.fo.length ≤ 1000000
 b : x.ba.length ≤ 1000000
set_option maxHeartbeats 4000000 in
theorem LOwn_pure (x : Ln) (hx : OkLn x) : PL.Pure Tryz.prog 105 [lns x] (lns x) := by
 have hF := FOwn_pure x.fd hx.c
 have r1 := room1 hx.f (show 32 ≤ 1000 by omega)
 have r2 := room1 hx.b (show 32 ≤ 1000 by omega)
 refine PL.Pure.of_v Tryz.func105 (by decide) rfl Tryz.ntmps105 Tryz.results105 (by simp) (lns_dids _) ?_
 simp only [go_sem, lns]
 refine vCall_of (hF) ?_ ?_ ?_; iterate 2 simp only [go_sem, fld]
 simp only [go_sem, fld, lns, sized_pr, atoms_pr, r1, r2]
set_option maxRecDepth 20000 in
set_option maxHeartbeats 8000000 in
theorem LSame_pure (a b : Ln) (ha : OkLn a) (hb : OkLn b) : PL.Pure Tryz.prog 104 [lns a, lns b] (.bool (decide (a = b))) := by
 have hF := FSame_pure a.fd b.fd (by have := ha.c; rw [maxLen_eq]; omega) (by have := hb.c; rw [maxLen_eq]; omega)
 have h1 := EqPr_pure a.fo b.fo (by have := ha.f; rw [maxLen_eq]; omega) (by have := hb.f; rw [maxLen_eq]; omega)
 have h2 := EqPr_pure a.ba b.ba (by have := ha.b; rw [maxLen_eq]; omega) (by have := hb.b; rw [maxLen_eq]; omega)
 clear ha hb
 refine PL.Pure.of_v Tryz.func104 (by decide) rfl Tryz.ntmps104 Tryz.results104 (by simp) rfl ?_
 simp only [go_sem, lns, ref_fold]
 repeat' (first | (refine vGuard_t (fun h => ?_) (fun h => ?_) <;> (try simp only [go_sem, h, ref_fold])) | (refine vGuard_f (fun h => ?_) (fun h => ?_) <;> (try simp only [go_sem, h, ref_fold])) | (refine vCond_b (fun h => ?_) (fun h => ?_) <;> (try simp only [go_sem, h, ref_fold])) | ((refine vCall_of (hF) ?_ ?_ ?_); (focus simp only [go_sem, fld, prs]); (focus exact rfl); (try simp only [go_sem, ref_fold])) | ((refine vCall_of (h1) ?_ ?_ ?_); (focus simp only [go_sem, fld, prs]); (focus exact rfl); (try simp only [go_sem, ref_fold])) | ((refine vCall_of (h2) ?_ ?_ ?_); (focus simp only [go_sem, fld, prs]); (focus exact rfl); (try simp only [go_sem, ref_fold])) | ((refine vDrawQ (by kernel_rfl) (by kernel_rfl) ?_); (try simp only [go_sem, ref_fold])))
 all_goals (clear hF h1 h2; (cases a; cases b; simp_all) <;> rfl)
set_option maxRecDepth 20000 in
set_option maxHeartbeats 8000000 in
theorem RLSame_pure (a b : Ln) (ha : OkLn a) (hb : OkLn b) : PL.Pure Tryz.prog 103 [lns a, lns b] (.bool (decide (a = b))) := by
 have hF := RFSame_pure a.fd b.fd (by have := ha.c; rw [maxLen_eq]; omega) (by have := hb.c; rw [maxLen_eq]; omega)
 have h1 := REqPr_pure a.fo b.fo (by have := ha.f; rw [maxLen_eq]; omega) (by have := hb.f; rw [maxLen_eq]; omega)
 have h2 := REqPr_pure a.ba b.ba (by have := ha.b; rw [maxLen_eq]; omega) (by have := hb.b; rw [maxLen_eq]; omega)
 clear ha hb
 refine PL.Pure.of_v Tryz.func103 (by decide) rfl Tryz.ntmps103 Tryz.results103 (by simp) rfl ?_
 simp only [go_sem, lns, ref_fold]
 repeat' (first | (refine vGuard_t (fun h => ?_) (fun h => ?_) <;> (try simp only [go_sem, h, ref_fold])) | (refine vGuard_f (fun h => ?_) (fun h => ?_) <;> (try simp only [go_sem, h, ref_fold])) | (refine vCond_b (fun h => ?_) (fun h => ?_) <;> (try simp only [go_sem, h, ref_fold])) | ((refine vCall_of (hF) ?_ ?_ ?_); (focus simp only [go_sem, fld, prs]); (focus exact rfl); (try simp only [go_sem, ref_fold])) | ((refine vCall_of (h1) ?_ ?_ ?_); (focus simp only [go_sem, fld, prs]); (focus exact rfl); (try simp only [go_sem, ref_fold])) | ((refine vCall_of (h2) ?_ ?_ ?_); (focus simp only [go_sem, fld, prs]); (focus exact rfl); (try simp only [go_sem, ref_fold])) | ((refine vDrawQ (by kernel_rfl) (by kernel_rfl) ?_); (try simp only [go_sem, ref_fold])))
 all_goals (clear hF h1 h2; (cases a; cases b; simp_all) <;> rfl)
end Go.Proofs.YthingdchjkhfbaaGreat
set_option linter.unusedSimpArgs false
set_option linter.unusedVariables false
set_option linter.unusedSimpArgs false
set_option linter.unusedVariables false
namespace Go.Proofs.YthingdchjkhfbaaGreat
open Go.PL
def partsM (x : Ln) : Ln × Bool :=
 if x.kind = 1 ∨ x.kind = 5 then (⟨x.kind, x.at', x.nm, [], 0, default, [], []⟩, true)
 else if x.kind = 2 ∨ x.kind = 3 then (⟨x.kind, default, [], [], 0, x.fd, [], []⟩, true)
 else if x.kind = 4 then (⟨x.kind, x.at', [], [], 0, default, [], []⟩, true)
 else if x.kind = 6 ∨ x.kind = 9 then (⟨x.kind, x.at', x.nm, x.ot, x.fac, default, [], []⟩, true)
 else if x.kind = 7 ∨ x.kind = 10 then (⟨x.kind, x.at', [], x.ot, 0, default, [], []⟩, true)
 else if x.kind = 8 then (⟨x.kind, x.at', x.nm, x.ot, 0, default, x.fo, x.ba⟩, true)
 else (default, false)
def lnb (x : Ln × Bool) : PV := .tup [lns x.1, .bool x.2]
theorem lnb_dids (x : Ln × Bool) : (lnb x).dids = [] := by simp only [lnb, PV.dids, PV.didsL, lns_dids, List.append_nil]
theorem lns_default : lns default = .agg [.int .i64 0, .int .i64 0, .str [], .str [], .str [], .str [], .int .i64 0, .int .i64 0, .str [], .str [], .int .i64 0, .str [], .sl .no [], .int .i64 0, .sl .no [], .sl .no []] := rfl
set_option maxRecDepth 20000 in
set_option maxHeartbeats 8000000 in
theorem parts_pure (x : Ln) : PL.Pure Tryz.prog 128 [lns x] (lnb (partsM x)) := by
 refine PL.Pure.of_v Tryz.func128 (by decide) rfl Tryz.ntmps128 Tryz.results128 (by simp) (lnb_dids _) ?_
 simp only [go_sem, lns]
 repeat' (first | (refine vGuard_t (fun h => ?_) (fun h => ?_) <;> (try simp only [go_sem, h])) | (refine vGuard_f (fun h => ?_) (fun h => ?_) <;> (try simp only [go_sem, h])) | (refine vCond_b (fun h => ?_) (fun h => ?_) <;> (try simp only [go_sem, h])) | ((refine vDrawS [(1, 4)] (by kernel_rfl) (by kernel_rfl) (by exact rfl) ?_); (try simp only [go_sem])) | ((refine vDrawQ (by kernel_rfl) (by kernel_rfl) ?_); (try simp only [go_sem])))
 all_goals (simp only [beq_iff_eq, beq_eq_false_iff_ne, ne_eq] at *; simp [partsM, lnb, lns, *]; try decide)
theorem okParts {x : Ln} (hx : OkLn x) : OkLn (partsM x).1 := by
 unfold partsM
 repeat' split
 all_goals exact ⟨by first | exact hx.c | exact Nat.zero_le _, by first | exact hx.f | exact Nat.zero_le _, by first | exact hx.b | exact Nat.zero_le _⟩
def rtM (x : Ln) : Bool := nameB x.nm && (tableM x.fo x.ba && (tableM x.ba x.fo && (((caseM x.fo x.nm).2 && ((caseM x.fo x.nm).1 == x.ot)) && ((caseM x.ba x.ot).2 && ((caseM x.ba x.ot).1 == x.nm)))))
set_option maxRecDepth 20000 in
set_option maxHeartbeats 8000000 in
theorem rightTables_pure (x : Ln) (hx : OkLn x) : PL.Pure Tryz.prog 130 [lns x] (.bool (rtM x)) := by
 have mf : x.fo.length ≤ maxLen := by have := hx.f; rw [maxLen_eq]; omega
 have mb : x.ba.length ≤ maxLen := by have := hx.b; rw [maxLen_eq]; omega
 have hN := Name_pure x.nm
 have h1 := rightTable_pure x.fo x.ba mb
 have h2 := rightTable_pure x.ba x.fo mf
 have h3 := Case_pure x.fo x.nm mf
 have h4 := Case_pure x.ba x.ot mb
 unfold rtM
 generalize caseM x.fo x.nm = c at *
 generalize caseM x.ba x.ot = d at *
 obtain ⟨c1, c2⟩ := c
 obtain ⟨d1, d2⟩ := d
 refine PL.Pure.of_v Tryz.func130 (by decide) rfl Tryz.ntmps130 Tryz.results130 (by simp) rfl ?_
 simp only [go_sem, lns]
 repeat' (first | (refine vGuard_t (fun h => ?_) (fun h => ?_) <;> (try simp only [go_sem, h, strb])) | (refine vGuard_f (fun h => ?_) (fun h => ?_) <;> (try simp only [go_sem, h, strb])) | (refine vCond_b (fun h => ?_) (fun h => ?_) <;> (try simp only [go_sem, h, strb])) | ((refine vCall_of (hN) ?_ ?_ ?_); (focus simp only [go_sem, prs]); (focus exact rfl); (try simp only [go_sem, strb])) | ((refine vCall_of (h1) ?_ ?_ ?_); (focus simp only [go_sem, prs]); (focus exact rfl); (try simp only [go_sem, strb])) | ((refine vCall_of (h2) ?_ ?_ ?_); (focus simp only [go_sem, prs]); (focus exact rfl); (try simp only [go_sem, strb])) | ((refine vCall_of (h3) ?_ ?_ ?_); (focus simp only [go_sem, prs]); (focus exact rfl); (try simp only [go_sem, strb])) | ((refine vCall_of (h4) ?_ ?_ ?_); (focus simp only [go_sem, prs]); (focus exact rfl); (try simp only [go_sem, strb])) | ((refine vDrawQ (by kernel_rfl) (by kernel_rfl) ?_); (try simp only [go_sem, strb])))
 all_goals (clear hN h1 h2 h3 h4 mf mb hx; simp_all)
theorem Factor_pure (n : Int) : PL.Pure Tryz.prog 129 [.int .i64 n] (.bool (decide (2 ≤ n) && decide (n ≤ 1000))) := by
 refine PL.Pure.of_v Tryz.func129 (by decide) rfl Tryz.ntmps129 Tryz.results129 (by simp) rfl ?_
 simp only [go_sem]
 repeat' (first | (refine vGuard_t (fun h => ?_) (fun h => ?_) <;> (try simp only [go_sem, h])) | (refine vGuard_f (fun h => ?_) (fun h => ?_) <;> (try simp only [go_sem, h])) | (refine vCond_b (fun h => ?_) (fun h => ?_) <;> (try simp only [go_sem, h])) | ((refine vDrawQ (by kernel_rfl) (by kernel_rfl) ?_); (try simp only [go_sem])))
 all_goals simp_all
def rightLnP (x : Ln) : Bool :=
 if (partsM x).2 = false ∨ ¬ x = (partsM x).1 then false
 else if x.kind = 2 ∨ x.kind = 3 then rightF x.fd
 else if placeB x.at' = false then false
 else if x.kind = 1 then nameB x.nm
 else if x.kind = 4 then !(x.at'.gr == [])
 else if x.kind = 5 then (x.at'.gr == []) && nameB x.nm
 else if x.kind = 6 ∨ x.kind = 9 then nameB x.nm && (nameB x.ot && (!(x.nm == x.ot) && (decide (2 ≤ x.fac) && decide (x.fac ≤ 1000))))
 else if x.kind = 7 ∨ x.kind = 10 then decide ((x.ot.length : Int) ≤ 40)
 else rtM x
set_option maxRecDepth 20000 in
set_option maxHeartbeats 16000000 in
theorem LRightP_pure (x : Ln) (hx : OkLn x) : PL.Pure Tryz.prog 87 [lns x] (.bool (rightLnP x)) := by
 have hP := parts_pure x
 have hS := LSame_pure x (partsM x).1 hx (okParts hx)
 have hF := Right_pure x.fd (by have := hx.c; rw [maxLen_eq]; omega)
 have hA := Place_pure x.at'
 have hN := Name_pure x.nm
 have hO := Name_pure x.ot
 have hT := Text_pure x.ot
 have hK := Factor_pure x.fac
 have hR := rightTables_pure x hx
 unfold rightLnP
 generalize partsM x = y at *
 obtain ⟨y, b⟩ := y
 refine PL.Pure.of_v Tryz.func87 (by decide) rfl Tryz.ntmps87 Tryz.results87 (by simp) rfl ?_
 simp only [go_sem, lns]
 repeat' (first | (refine vGuard_t (fun h => ?_) (fun h => ?_) <;> (try simp only [go_sem, h, lnb, lns])) | (refine vGuard_f (fun h => ?_) (fun h => ?_) <;> (try simp only [go_sem, h, lnb, lns])) | (refine vCond_b (fun h => ?_) (fun h => ?_) <;> (try simp only [go_sem, h, lnb, lns])) | ((refine vCall_of (hP) ?_ ?_ ?_); (focus simp only [go_sem, lns, fld, ref]); (focus exact rfl); (try simp only [go_sem, lnb, lns])) | ((refine vCall_of (hS) ?_ ?_ ?_); (focus simp only [go_sem, lns, fld, ref]); (focus exact rfl); (try simp only [go_sem, lnb, lns])) | ((refine vCall_of (hF) ?_ ?_ ?_); (focus simp only [go_sem, lns, fld, ref]); (focus exact rfl); (try simp only [go_sem, lnb, lns])) | ((refine vCall_of (hA) ?_ ?_ ?_); (focus simp only [go_sem, lns, fld, ref]); (focus exact rfl); (try simp only [go_sem, lnb, lns])) | ((refine vCall_of (hN) ?_ ?_ ?_); (focus simp only [go_sem, lns, fld, ref]); (focus exact rfl); (try simp only [go_sem, lnb, lns])) | ((refine vCall_of (hO) ?_ ?_ ?_); (focus simp only [go_sem, lns, fld, ref]); (focus exact rfl); (try simp only [go_sem, lnb, lns])) | ((refine vCall_of (hT) ?_ ?_ ?_); (focus simp only [go_sem, lns, fld, ref]); (focus exact rfl); (try simp only [go_sem, lnb, lns])) | ((refine vCall_of (hK) ?_ ?_ ?_); (focus simp only [go_sem, lns, fld, ref]); (focus exact rfl); (try simp only [go_sem, lnb, lns])) | ((refine vCall_of (hR) ?_ ?_ ?_); (focus simp only [go_sem, lns, fld, ref]); (focus exact rfl); (try simp only [go_sem, lnb, lns])) | ((refine vDrawQ (by kernel_rfl) (by kernel_rfl) ?_); (try simp only [go_sem, lnb, lns])))
 all_goals (clear hP hS hF hA hN hO hT hK hR hx; simp_all)
end Go.Proofs.YthingdchjkhfbaaGreat
