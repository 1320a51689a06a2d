/- Contracts of functions and laws of this seat, each for every input that it names: lemmas of the proof. -/
import Derived.Test.YthingdchjkhfbaaGreatVXBe
set_option linter.unusedSimpArgs false
set_option linter.unusedVariables false
set_option linter.unusedSimpArgs false
set_option linter.unusedVariables false
namespace Go.Proofs.YthingdchjkhfbaaGreat
open Go.PL
def SemiT (m : List Eg) : Type := { c : List Nd // Semi m c }
def skipN (c : List Nd) (i : Nat) : Prop := (c.getD i default).st ≠ 1 ∨ ((atN c (c.getD i default).e.par).st ≠ 2 ∧ (atN c (c.getD i default).e.par).st ≠ 3)
theorem last_snoc (l : List Nat) (i : Nat) : (l ++ [i]).getLast? = some i := by simp
theorem semi_pend {m : List Eg} {c : List Nd} (h : Semi m c) {i : Nat} (hi : i < m.length) (h1 : (c.getD i default).st = 1) : (c.getD i default).sch = [] ∧ (c.getD i default).dep = 0 := by
 rcases h.2 i hi with hk | ⟨_, hk⟩
 ·rw [hk]; exact ⟨rfl, rfl⟩
 ·exact absurd h1 hk
set_option maxRecDepth 20000 in
set_option maxHeartbeats 16000000 in
theorem settle_wr (m : List Eg) (c0 : List Nd) (ha : Apart m) (h0 : Semi m c0) (hm : ∀ e ∈ m, OkLn e.ln) (hl : m.length ≤ 1000) : PL.Wr Tryz.prog 63 (fun b => [.rptr [.mref b]]) (mc c0) (.tup []) (mc (treeOf m)) := by
 refine PL.Wr.of_v Tryz.func63 (by decide) rfl Tryz.ntmps63 Tryz.results63 (by simp) rfl (fun b => ?_)
 simp only [go_sem]
 refine vScopeO (ι := SemiT m) 61 (fun x => [(0, .rptr [.mref b])]) (fun x => []) (fun x => []) (fun x => [(b, mc x.1)]) (fun x => []) (fun x => pends x.1) 0 _ (by exact rfl) (fun x => ⟨(fcs rfl fnl), fnl⟩) (fun x => ?_) (fun cut => ?_)
 ·obtain ⟨c, hc⟩ := x
  simp only
  have hcl := hc.1
  simp only [go_sem, List.map_cons, List.map_nil]
  intro ib
  simp only [go_sem, forall_const, mc, kts_len]
  refine vLoopO (ι := Seen c.length (skipN c)) 61 (fun x => [(0, .rptr [.mref b]), (11, .iptr ib)]) (fun x => []) (fun x => []) (fun x => [(b, mc c)]) (fun x => [(ib, ⟨b, c.length, x.l, none⟩)]) (fun x => c.length - x.l.length) ⟨[], by simp, fun i hi => by cases hi⟩
   ⟨⟨rfl, (fcs rfl (fcs rfl fnl)), fnl, fnl⟩, fcs (by simp [upd, mc]) fnl, fcs (by simp [upd]) fnl⟩ (fun x => ⟨(fcs rfl (fcs rfl fnl)), fnl⟩) (fun x => ?_)
  have hsl := x.len
  simp only [go_sem, List.map_cons, List.map_nil, mc, kts_len]
  refine ⟨fun hall => ?_, fun i hi hns => ?_⟩
  ·have hdone : c = treeOf m := semi_done ha hc fun i hi => by
    have := (x.h i (hall i (by omega))).2
    unfold skipN at this
    rw [semi_e hc hi] at this
    exact this
   rw [← hdone]
  ·have him : i < m.length := by omega
   have hA := at_pure c (c.getD i default).e.par
   obtain ⟨ok1, ok2, ok3⟩ := okAtN hm hc (c.getD i default).e.par
   have hL := Apply_pure (atN c (c.getD i default).e.par).sch (c.getD i default).e.ln ok1 (by rw [semi_e hc him]; exact hm _ (getD_mem him))
   have hset := semi_ids ha hc hi
   have hwd : IntKind.i64.wrap ((atN c (c.getD i default).e.par).dep + 1) = (atN c (c.getD i default).e.par).dep + 1 := w64 (by omega)
   have hnx : ∀ (s' : St) (j : Seen c.length (skipN c)), j.l.length = x.l.length + 1 → HasO 61 [(0, .rptr [.mref b]), (11, .iptr ib)] [] [] [(b, mc c)] [(ib, ⟨b, c.length, j.l, none⟩)] s' → NextO 61 (fun x => [(0, .rptr [.mref b]), (11, .iptr ib)]) (fun x => []) (fun x => []) (fun x => [(b, mc c)]) (fun x => [(ib, ⟨b, c.length, x.l, none⟩)]) (fun x : Seen c.length (skipN c) => c.length - x.l.length) x s' := fun s' j hj hh => ⟨j, by have := j.len; show c.length - j.l.length < c.length - x.l.length; omega, hh⟩
   by_cases h1 : (c.getD i default).st = 1
   ·obtain ⟨hp1, hp2⟩ := semi_pend hc him h1
    have e1 : ((c.getD i default).st != 1) = false := by rw [h1]; rfl
    simp only [go_sem, last_snoc, getD_nd hi, getD_kt hi, hi, kts_len, tg, nd, e1]
    refine vCall_sl hA (nomap_nd _) ?_ ?_ ?_
    ·simp only [go_sem]
    ·simp only [go_sem, tr, tg, kts, nds]
    by_cases hs2 : (atN c (c.getD i default).e.par).st = 2
    ·have e2 : ((atN c (c.getD i default).e.par).st != 2) = false := by rw [hs2]; rfl
     have e2' : ((atN c (c.getD i default).e.par).st == 2) = true := by rw [hs2]; rfl
     have hsem := semi_set ha hc hi (.inl hs2)
     simp only [go_sem, nd, e2, e2']
     refine vCall_of (hL) ?_ ?_ ?_; iterate 2 simp only [go_sem, flds, lns]
     simp only [go_sem, fldsc, flds]
     by_cases hz : (applyM (atN c (c.getD i default).e.par).sch (c.getD i default).e.ln).2 = 0
     ·have hnn : nextN (c.getD i default).e (atN c (c.getD i default).e.par) = ⟨(c.getD i default).e, 2, (applyM (atN c (c.getD i default).e.par).sch (c.getD i default).e.ln).1, (atN c (c.getD i default).e.par).dep + 1⟩ := by unfold nextN; rw [if_pos ⟨hs2, hz⟩]
      simp only [go_sem, hz]
      refine vDrawS [(4, 3)] (by kernel_rfl) (by kernel_rfl) (by exact rfl) ?_
      simp only [go_sem, hwd]
      refine vDrawQ (by kernel_rfl) (by kernel_rfl) ?_
      simp only [go_sem, findP_tags0, hset]
      refine ⟨⟨_, hsem⟩, pends_set hi h1 (nextN_st _ _), ⟨⟨rfl, (fcs rfl fnl), fnl, fnl⟩, fcs ?_ fnl, fnl⟩⟩
      simp only [upd_same]
      rw [kts_set c i _ (nextN_e _ _), nds_set, hnn]
      rfl
     ·have hnn : nextN (c.getD i default).e (atN c (c.getD i default).e.par) = ⟨(c.getD i default).e, 3, [], 0⟩ := by unfold nextN; rw [if_neg (fun hh => hz hh.2)]
      have hzb : ((applyM (atN c (c.getD i default).e.par).sch (c.getD i default).e.ln).2 == 0) = false := by simpa using hz
      simp only [go_sem, hzb]
      refine vDrawQ (by kernel_rfl) (by kernel_rfl) ?_
      simp only [go_sem, findP_tags0, hset]
      refine ⟨⟨_, hsem⟩, pends_set hi h1 (nextN_st _ _), ⟨⟨rfl, (fcs rfl fnl), fnl, fnl⟩, fcs ?_ fnl, fnl⟩⟩
      simp only [upd_same]
      rw [kts_set c i _ (nextN_e _ _), nds_set, hnn]
      simp only [nd, hp1, hp2]
    ·by_cases hs3 : (atN c (c.getD i default).e.par).st = 3
     ·have e2 : ((atN c (c.getD i default).e.par).st != 2) = true := by rw [hs3]; rfl
      have e2' : ((atN c (c.getD i default).e.par).st == 2) = false := by rw [hs3]; rfl
      have e3 : ((atN c (c.getD i default).e.par).st != 3) = false := by rw [hs3]; rfl
      have hsem := semi_set ha hc hi (.inr hs3)
      have hnn : nextN (c.getD i default).e (atN c (c.getD i default).e.par) = ⟨(c.getD i default).e, 3, [], 0⟩ := by unfold nextN; rw [if_neg (fun hh => hs2 hh.1)]
      simp only [go_sem, nd, e2, e2', e3]
      refine vDrawQ (by kernel_rfl) (by kernel_rfl) ?_
      simp only [go_sem, findP_tags0, hset]
      refine ⟨⟨_, hsem⟩, pends_set hi h1 (nextN_st _ _), ⟨⟨rfl, (fcs rfl fnl), fnl, fnl⟩, fcs ?_ fnl, fnl⟩⟩
      simp only [upd_same]
      rw [kts_set c i _ (nextN_e _ _), nds_set, hnn]
      simp only [nd, hp1, hp2]
     ·have e2 : ((atN c (c.getD i default).e.par).st != 2) = true := by simpa using hs2
      have e3 : ((atN c (c.getD i default).e.par).st != 3) = true := by simpa using hs3
      simp only [go_sem, nd, e2, e3]
      refine hnx _ (x.next i hi (.inr ⟨hs2, hs3⟩) hns) (by simp [Seen.next]) ?_
      exact ⟨⟨rfl, (fcs rfl (fcs rfl fnl)), fnl, fnl⟩, fcs (by simp [upd, mc]) fnl, fcs (by simp [upd, Seen.next]) fnl⟩
   ·have e1 : ((c.getD i default).st != 1) = true := by simpa using h1
    simp only [go_sem, last_snoc, getD_nd hi, getD_kt hi, hi, kts_len, tg, nd, e1]
    refine hnx _ (x.next i hi (.inl h1) hns) (by simp [Seen.next]) ?_
    exact ⟨⟨rfl, (fcs rfl (fcs rfl fnl)), fnl, fnl⟩, fcs (by simp [upd, mc]) fnl, fcs (by simp [upd, Seen.next]) fnl⟩
 ·simp only [go_sem]
  exact awp_label_seq (cut ⟨c0, h0⟩ _ ⟨⟨rfl, (fcs rfl fnl), fnl, fnl⟩, fcs (by simp [upd]) fnl, fnl⟩)
end Go.Proofs.YthingdchjkhfbaaGreat
set_option linter.unusedSimpArgs false
set_option linter.unusedVariables false
set_option linter.unusedSimpArgs false
set_option linter.unusedVariables false
namespace Go.Proofs.YthingdchjkhfbaaGreat
open Go.PL
def edgeB (e : Eg) : Bool := tagB e.id && ((decide (e.par = default) || (tagB e.par && !decide (e.par = e.id))) && (decide (1 ≤ e.ln.kind) && (decide (e.ln.kind ≤ 8) && rightLn e.ln)))
theorem tagB_default {t : Tg} (h : tagB t = true) : t ≠ default := fun e => by subst e; exact absurd h (by decide)
theorem rightLn_pos {x : Ln} (h : rightLn x = true) : 1 ≤ x.kind := by
 unfold rightLn at h
 split at h
 ·rename_i hk; omega
 ·split at h
  ·omega
  ·split at h
   ·omega
   ·split at h
    ·omega
    ·split at h
     ·omega
     ·split at h
      ·omega
      ·simp only [Bool.and_eq_true, decide_eq_true_eq] at h
       omega
set_option maxRecDepth 20000 in
set_option maxHeartbeats 8000000 in
theorem tedge_pure (e : Eg) (he : OkLn e.ln) : PL.Pure Tryz.prog 60 [eg e] (.bool (edgeB e)) := by
 have hT := Tag_pure e.id
 have hU := Tag_pure e.par
 have hR := LRight_pure e.ln he
 unfold edgeB
 cases ht : tagB e.id
 ·rw [ht] at hT
  refine PL.Pure.of_v Tryz.func60 (by decide) rfl Tryz.ntmps60 Tryz.results60 (by simp) rfl ?_
  simp only [go_sem, eg]
  refine vCall_of (hT) ?_ ?_ ?_; iterate 2 simp only [go_sem, tg]
  simp only [go_sem, Bool.false_and]
 rw [ht] at hT
 generalize hdp : decide (e.par = default) = dp at *
 generalize hde : decide (e.par = e.id) = de at *
 generalize tagB e.par = tp at *
 generalize rightLn e.ln = rl at *
 have hdp' : (e.par.r == 0 && e.par.n == 0) = dp := by rw [← hdp]; exact tg_fold e.par default
 refine PL.Pure.of_v Tryz.func60 (by decide) rfl Tryz.ntmps60 Tryz.results60 (by simp) rfl ?_
 simp only [go_sem, eg]
 refine vCall_of (hT) ?_ ?_ ?_; iterate 2 simp only [go_sem, tg]
 simp only [go_sem]
 cases dp <;> cases tp <;> cases de
 all_goals
  refine vDrawQ (by kernel_rfl) (by kernel_rfl) ?_
  simp only [go_sem]
  refine vCall_of (TRoot_pure) ?_ ?_ ?_; iterate 2 simp only [go_sem, tg]
  simp only [go_sem, tg, tg_fold, hdp, hde, hdp']
  (try refine vCall_of (hU) ?_ ?_ ?_; iterate 2 simp only [go_sem, tg])
  (try simp only [go_sem, tg_fold, hde])
  (try repeat' (first | (refine vGuard_t (fun h => ?_) (fun h => ?_) <;> (try simp only [go_sem, h])) | (refine vGuard_f (fun h => ?_) (fun h => ?_) <;> (try simp only [go_sem, h])) | (refine vCond_b (fun h => ?_) (fun h => ?_) <;> (try simp only [go_sem, h])) | ((refine vCall_of (hR) ?_ ?_ ?_); (focus simp only [go_sem, lns]); (focus exact rfl); (try simp only [go_sem])) | ((refine vDrawQ (by kernel_rfl) (by kernel_rfl) ?_); (try simp only [go_sem]))))
  (try (all_goals simp_all))
end Go.Proofs.YthingdchjkhfbaaGreat
set_option linter.unusedSimpArgs false
set_option linter.unusedVariables false
set_option linter.unusedSimpArgs false
set_option linter.unusedVariables false
namespace Go.Proofs.YthingdchjkhfbaaGreat
open Go.PL
set_option maxHeartbeats 1000000 in
theorem RTag_pure (t : Tg) : PL.Pure Tryz.prog 101 [tg t] (.bool (tagB t)) := by
 refine PL.Pure.of_v Tryz.func101 (by decide) rfl Tryz.ntmps101 Tryz.results101 (by simp) rfl ?_
 simp only [go_sem, tg]
 repeat' (first | (refine vGuard_t (fun h => ?_) (fun h => ?_) <;> (try simp only [go_sem, h])) | (refine vGuard_f (fun h => ?_) (fun h => ?_) <;> (try simp only [go_sem, h])) | (refine vCond_b (fun h => ?_) (fun h => ?_) <;> (try simp only [go_sem, h])) | ((refine vDrawQ (by kernel_rfl) (by kernel_rfl) ?_); (try simp only [go_sem])))
 all_goals (simp only [decide_eq_true_eq, decide_eq_false_iff_not] at *; rw [Bool.eq_iff_iff]; simp [tagB]; omega)
theorem edgeR (e : Eg) : edgeB e = (tagB e.id && ((decide (e.par = default) || tagB e.par) && (!decide (e.id = e.par) && (rightLn e.ln && decide (e.ln.kind < 9))))) := by
 unfold edgeB
 rw [Bool.eq_iff_iff]
 simp only [Bool.and_eq_true, Bool.or_eq_true, decide_eq_true_eq, Bool.not_eq_true', decide_eq_false_iff_not]
 constructor
 ·rintro ⟨h1, h2, h3, h4, h5⟩
  refine ⟨h1, ?_, ?_, h5, by omega⟩
  ·rcases h2 with h2 | h2
   ·exact .inl h2
   ·exact .inr h2.1
  ·rcases h2 with h2 | h2
   ·exact fun e1 => tagB_default h1 (e1.trans h2)
   ·exact fun e1 => h2.2 e1.symm
 ·rintro ⟨h1, h2, h3, h4, h5⟩
  refine ⟨h1, ?_, rightLn_pos h4, by omega, h4⟩
  rcases h2 with h2 | h2
  ·exact .inl h2
  ·exact .inr ⟨h2, fun e1 => h3 e1.symm⟩
set_option maxRecDepth 20000 in
set_option maxHeartbeats 8000000 in
theorem REdge_pure (e : Eg) (he : OkLn e.ln) : PL.Pure Tryz.prog 57 [eg e] (.bool (edgeB e)) := by
 have hT := RTag_pure e.id
 have hU := RTag_pure e.par
 have hR := RLRight_pure e.ln he
 rw [edgeR]
 generalize hdp : decide (e.par = default) = dp at *
 generalize hde : decide (e.id = e.par) = de at *
 generalize tagB e.par = tp at *
 generalize tagB e.id = ti at *
 generalize rightLn e.ln = rl at *
 have hdp' : (e.par.r == 0 && e.par.n == 0) = dp := by rw [← hdp]; exact tg_fold e.par default
 refine PL.Pure.of_v Tryz.func57 (by decide) rfl Tryz.ntmps57 Tryz.results57 (by simp) rfl ?_
 simp only [go_sem, eg, hdp', tg_fold, hde]
 repeat' (first | (refine vGuard_t (fun h => ?_) (fun h => ?_) <;> (try simp only [go_sem, h, hdp', tg_fold, hde])) | (refine vGuard_f (fun h => ?_) (fun h => ?_) <;> (try simp only [go_sem, h, hdp', tg_fold, hde])) | (refine vCond_b (fun h => ?_) (fun h => ?_) <;> (try simp only [go_sem, h, hdp', tg_fold, hde])) | ((refine vCall_of (hT) ?_ ?_ ?_); (focus simp only [go_sem, tg, lns]); (focus exact rfl); (try simp only [go_sem, hdp', tg_fold, hde])) | ((refine vCall_of (hU) ?_ ?_ ?_); (focus simp only [go_sem, tg, lns]); (focus exact rfl); (try simp only [go_sem, hdp', tg_fold, hde])) | ((refine vCall_of (hR) ?_ ?_ ?_); (focus simp only [go_sem, tg, lns]); (focus exact rfl); (try simp only [go_sem, hdp', tg_fold, hde])) | ((refine vDrawQ (by kernel_rfl) (by kernel_rfl) ?_); (try simp only [go_sem, hdp', tg_fold, hde])))
 all_goals simp_all
set_option maxRecDepth 20000 in
set_option maxHeartbeats 8000000 in
theorem tsame_pure (a b : Eg) (ha : OkLn a.ln) (hb : OkLn b.ln) : PL.Pure Tryz.prog 61 [eg a, eg b] (.bool (decide (a = b))) := by
 have hE := LSame_pure a.ln b.ln ha hb
 refine PL.Pure.of_v Tryz.func61 (by decide) rfl Tryz.ntmps61 Tryz.results61 (by simp) rfl ?_
 simp only [go_sem, eg, tg_fold]
 repeat' (first | (refine vGuard_t (fun h => ?_) (fun h => ?_) <;> (try simp only [go_sem, h, tg_fold])) | (refine vGuard_f (fun h => ?_) (fun h => ?_) <;> (try simp only [go_sem, h, tg_fold])) | (refine vCond_b (fun h => ?_) (fun h => ?_) <;> (try simp only [go_sem, h, tg_fold])) | ((refine vCall_of (hE) ?_ ?_ ?_); (focus simp only [go_sem, lns]); (focus exact rfl); (try simp only [go_sem, tg_fold])) | ((refine vDrawQ (by kernel_rfl) (by kernel_rfl) ?_); (try simp only [go_sem, tg_fold])))
 all_goals (clear hE ha hb; cases a; cases b; simp_all)
set_option maxRecDepth 20000 in
set_option maxHeartbeats 8000000 in
theorem RESame_pure (a b : Eg) (ha : OkLn a.ln) (hb : OkLn b.ln) : PL.Pure Tryz.prog 59 [eg a, eg b] (.bool (decide (a = b))) := by
 have hE := RLSame_pure a.ln b.ln ha hb
 refine PL.Pure.of_v Tryz.func59 (by decide) rfl Tryz.ntmps59 Tryz.results59 (by simp) rfl ?_
 simp only [go_sem, eg, tg_fold]
 repeat' (first | (refine vGuard_t (fun h => ?_) (fun h => ?_) <;> (try simp only [go_sem, h, tg_fold])) | (refine vGuard_f (fun h => ?_) (fun h => ?_) <;> (try simp only [go_sem, h, tg_fold])) | (refine vCond_b (fun h => ?_) (fun h => ?_) <;> (try simp only [go_sem, h, tg_fold])) | ((refine vCall_of (hE) ?_ ?_ ?_); (focus simp only [go_sem, lns]); (focus exact rfl); (try simp only [go_sem, tg_fold])) | ((refine vDrawQ (by kernel_rfl) (by kernel_rfl) ?_); (try simp only [go_sem, tg_fold])))
 all_goals (clear hE ha hb; cases a; cases b; simp_all)
set_option maxHeartbeats 4000000 in
theorem town_pure (e : Eg) (he : OkLn e.ln) : PL.Pure Tryz.prog 62 [eg e] (eg e) := by
 have hO := LOwn_pure e.ln he
 refine PL.Pure.of_v Tryz.func62 (by decide) rfl Tryz.ntmps62 Tryz.results62 (by simp) (eg_dids _) ?_
 simp only [go_sem, eg]
 refine vDrawQ (by kernel_rfl) (by kernel_rfl) ?_
 simp only [go_sem]
 refine vCall_of (hO) ?_ ?_ ?_; iterate 2 simp only [go_sem, lns]
 simp only [go_sem, lns]
 rfl
def pairTop (p : Pr) : Bool := longB 200 p.fr' || longB 200 p.to'
def heavyP (l : List Pr) : Bool := decide (20 < (l.length : Int)) || l.any pairTop
set_option maxRecDepth 20000 in
set_option maxHeartbeats 8000000 in
theorem RHeavyP_pure (l : List Pr) (hl : l.length ≤ maxLen) : PL.Pure Tryz.prog 56 [prs l] (.bool (heavyP l)) := by
 by_cases h20 : (20 : Int) < (l.length : Int)
 ·refine PL.Pure.of_v Tryz.func56 (by decide) rfl Tryz.ntmps56 Tryz.results56 (by simp) rfl ?_
  simp only [go_sem, prs, h20, heavyP, Bool.true_or]
 ·have hx : heavyP l = l.any pairTop := by simp only [heavyP, h20, decide_false, Bool.false_or]
  rw [hx]
  refine PL.Pure.of_v Tryz.func56 (by decide) rfl Tryz.ntmps56 Tryz.results56 (by simp) rfl ?_
  simp only [go_sem, prs, h20]
  refine vLoopM (ι := { x : Nat // x ≤ (l).length ∧ (∀ j, j < x → pairTop (l.getD j default) = false) }) 29 (fun x => [(0, prs l), (3, .int .i64 (x.1 : Int))]) (fun x => []) (fun x => []) (fun x => (l).length - x.1) ⟨0, Nat.zero_le _, fun j hj => absurd hj (Nat.not_lt_zero j)⟩ ⟨rfl, (fcs rfl (fcs rfl fnl)), fnl, fnl⟩ (fun x => ⟨(fcs rfl (fcs rfl fnl)), fnl⟩) (fun x => ?_); obtain ⟨k, hk, hI⟩ := x; simp only at hk hI ⊢
  by_cases h : (k : Int) < (l.length : Int)
  ·(have hka : k < (l).length := by omega); (have w1 := w64s hka (hl)); (have i1 : (0 : Int) ≤ (k : Int) := by omega)
   by_cases g1 : (200 : Int) < ((l.getD k default).fr'.length : Int)
   ·have hz := any_true (p := pairTop) hka (d := default) (by simp only [pairTop, longB, Bool.or_eq_true, decide_eq_true_eq]; omega)
    simp only [go_sem, prs, h, getD_pr hka, pr, i1, g1, hz]
   ·by_cases g2 : (200 : Int) < ((l.getD k default).to'.length : Int)
    ·have hz := any_true (p := pairTop) hka (d := default) (by simp only [pairTop, longB, Bool.or_eq_true, decide_eq_true_eq]; omega)
     simp only [go_sem, prs, h, getD_pr hka, pr, i1, g1, g2, hz]
    ·simp only [go_sem, prs, h, getD_pr hka, pr, i1, g1, g2, w1]
     exact ⟨⟨k + 1, by (try simp only); omega, below_succ hI (by simp only [pairTop, longB, Bool.or_eq_false_iff, decide_eq_false_iff_not]; omega)⟩, by show (l).length - (k + 1) < (l).length - k; omega, ⟨rfl, (fcs rfl (fcs rfl fnl)), fnl, fnl⟩⟩
  ·have hz := any_false (p := pairTop) (d := default) (l := l) (fun j hj => hI j (by omega))
   simp only [go_sem, prs, h, hz]
theorem longI (s : Str) : longB 200 s = decide ((200 : Int) < (s.length : Int)) := rfl
def heavyLn (x : Ln) : Bool := longB 200 x.at'.gr || (longB 200 x.at'.nm || (longB 200 x.nm || (longB 200 x.ot || (heavyF x.fd || (heavyP x.fo || heavyP x.ba)))))
structure LenLn (x : Ln) : Prop where
 c : x.fd.cases'.length ≤ maxLen
 f : x.fo.length ≤ maxLen
 b : x.ba.length ≤ maxLen
set_option maxRecDepth 20000 in
set_option maxHeartbeats 8000000 in
theorem RHeavyLn_pure (x : Ln) (hx : LenLn x) : PL.Pure Tryz.prog 29 [lns x] (.bool (heavyLn x)) := by
 have hF := RHeavyF_pure x.fd hx.c
 have hP := RHeavyP_pure x.fo hx.f
 have hQ := RHeavyP_pure x.ba hx.b
 unfold heavyLn
 generalize heavyF x.fd = a1 at *
 generalize heavyP x.fo = a2 at *
 generalize heavyP x.ba = a3 at *
 refine PL.Pure.of_v Tryz.func29 (by decide) rfl Tryz.ntmps29 Tryz.results29 (by simp) rfl ?_
 simp only [go_sem, lns]
 repeat' (first | (refine vGuard_t (fun h => ?_) (fun h => ?_) <;> (try simp only [go_sem, h])) | (refine vGuard_f (fun h => ?_) (fun h => ?_) <;> (try simp only [go_sem, h])) | (refine vCond_b (fun h => ?_) (fun h => ?_) <;> (try simp only [go_sem, h])) | ((refine vCall_of (hF) ?_ ?_ ?_); (focus simp only [go_sem, fld, prs]); (focus exact rfl); (try simp only [go_sem])) | ((refine vCall_of (hP) ?_ ?_ ?_); (focus simp only [go_sem, fld, prs]); (focus exact rfl); (try simp only [go_sem])) | ((refine vCall_of (hQ) ?_ ?_ ?_); (focus simp only [go_sem, fld, prs]); (focus exact rfl); (try simp only [go_sem])) | ((refine vDrawQ (by kernel_rfl) (by kernel_rfl) ?_); (try simp only [go_sem])))
 all_goals (clear hF hP hQ hx; simp only [longI, *, Bool.true_or, Bool.or_true, Bool.false_or, Bool.or_false])
def heavyE (l : List Eg) (most : Int) : Bool := decide (most < (l.length : Int)) || l.any fun e => heavyLn e.ln
set_option maxRecDepth 20000 in
set_option maxHeartbeats 8000000 in
theorem RHeavyE_pure (l : List Eg) (most : Int) (hl : l.length ≤ maxLen) (hx : ∀ e ∈ l, LenLn e.ln) : PL.Pure Tryz.prog 9 [egs l, .int .i64 most] (.bool (heavyE l most)) := by
 by_cases hm : most < (l.length : Int)
 ·refine PL.Pure.of_v Tryz.func9 (by decide) rfl Tryz.ntmps9 Tryz.results9 (by simp) rfl ?_
  simp only [go_sem, egs, hm, heavyE, Bool.true_or]
 ·have hz : heavyE l most = l.any fun e => heavyLn e.ln := by simp only [heavyE, hm, decide_false, Bool.false_or]
  rw [hz]
  refine PL.Pure.of_v Tryz.func9 (by decide) rfl Tryz.ntmps9 Tryz.results9 (by simp) rfl ?_
  simp only [go_sem, egs, hm]
  refine vLoopM (ι := { x : Nat // x ≤ (l).length ∧ (∀ j, j < x → heavyLn (l.getD j default).ln = false) }) 22 (fun x => [(0, egs l), (5, .int .i64 (x.1 : Int))]) (fun x => []) (fun x => []) (fun x => (l).length - x.1) ⟨0, Nat.zero_le _, fun j hj => absurd hj (Nat.not_lt_zero j)⟩ ⟨rfl, (fcs rfl (fcs rfl fnl)), fnl, fnl⟩ (fun x => ⟨(fcs rfl (fcs rfl fnl)), fnl⟩) (fun x => ?_); obtain ⟨k, hk, hI⟩ := x; simp only at hk hI ⊢
  by_cases h : (k : Int) < (l.length : Int)
  ·(have hka : k < (l).length := by omega); (have w1 := w64s hka (hl)); (have i1 : (0 : Int) ≤ (k : Int) := by omega)
   have hF := RHeavyLn_pure (l.getD k default).ln (hx _ (getD_mem' hka))
   cases hf : heavyLn (l.getD k default).ln
   ·rw [hf] at hF
    simp only [go_sem, egs, h, getD_eg hka, eg, i1]
    refine vCall_of (hF) ?_ ?_ ?_; iterate 2 simp only [go_sem, lns]
    simp only [go_sem, w1]
    exact ⟨⟨k + 1, by (try simp only); omega, below_succ hI hf⟩, by show (l).length - (k + 1) < (l).length - k; omega, ⟨rfl, (fcs rfl (fcs rfl fnl)), fnl, fnl⟩⟩
   ·rw [hf] at hF
    have hz := any_true (p := fun e : Eg => heavyLn e.ln) hka hf
    simp only [go_sem, egs, h, getD_eg hka, eg, i1]
    refine vCall_of (hF) ?_ ?_ ?_; iterate 2 simp only [go_sem, lns]
    simp only [go_sem, hz]
  ·have hz := any_false (p := fun e : Eg => heavyLn e.ln) (d := default) (l := l) (fun j hj => hI j (by omega))
   simp only [go_sem, egs, h, hz]
theorem okOfHeavy {x : Ln} (h : heavyLn x = false) : OkLn x := by
 simp only [heavyLn, heavyF, fldTop, heavyP, Bool.or_eq_false_iff, decide_eq_false_iff_not] at h
 obtain ⟨_, _, _, _, ⟨⟨_, _, _, h1⟩, _⟩, ⟨h2, _⟩, h3, _⟩ := h
 exact ⟨by omega, by omega, by omega⟩
end Go.Proofs.YthingdchjkhfbaaGreat
set_option linter.unusedSimpArgs false
set_option linter.unusedVariables false
set_option linter.unusedSimpArgs false
set_option linter.unusedVariables false
namespace Go.Proofs.YthingdchjkhfbaaGreat
open Go.PL
def putM (m : List Eg) (e : Eg) : List Eg × Int :=
 if edgeB e = false then (m, 5) else match findE m e.id with
  | some x => if x = e then (m, 7) else (m, 15)
  | none => if 40 ≤ m.length then (m, 9) else (m ++ [e], 0)
structure OkM (m : List Eg) : Prop where
 a : Apart m
 l : ∀ e ∈ m, OkLn e.ln
 n : m.length ≤ 40
theorem okM_nil : OkM [] := ⟨⟨by simp, fun e h => (by cases h)⟩, fun e h => (by cases h), by simp⟩
theorem okPut {m : List Eg} (h : OkM m) {e : Eg} (he : OkLn e.ln) : OkM (putM m e).1 := by
 unfold putM
 split
 ·exact h
 ·rename_i hb
  split
  ·split <;> exact h
  ·rename_i hf
   split
   ·exact h
   ·rename_i hn
    refine ⟨⟨?_, fun x hx => ?_⟩, fun x hx => ?_, by simp; omega⟩
    ·rw [List.map_append, List.nodup_append]
     refine ⟨h.a.d, by simp, fun a ha b hb' => ?_⟩
     simp only [List.map_cons, List.map_nil, List.mem_singleton] at hb'
     subst hb'
     obtain ⟨x, hx, rfl⟩ := List.mem_map.1 ha
     unfold findE at hf
     rw [List.find?_eq_none] at hf
     have := hf x hx
     simp only [decide_eq_true_eq] at this
     exact fun e1 => this e1.symm
    ·rcases List.mem_append.1 hx with hx | hx
     ·exact h.a.n x hx
     ·rw [List.mem_singleton.1 hx]
      have hb : edgeB e = true := by simpa using hb
      simp only [edgeB, Bool.and_eq_true] at hb
      exact tagB_default hb.1
    ·rcases List.mem_append.1 hx with hx | hx
     ·exact h.l x hx
     ·rw [List.mem_singleton.1 hx]; exact he
theorem findE_append {m : List Eg} {e x : Eg} {id : Tg} (h : findE m id = some x) : findE (m ++ [e]) id = some x := by
 unfold findE at *; rw [List.find?_append, h]; rfl
theorem Way.append {m : List Eg} {e : Eg} {id : Tg} {w : List Eg} (h : Way m id w) : Way (m ++ [e]) id w := by
 induction h with
 | root => exact .root
 | step hn he hw ih => exact .step hn (findE_append he) ih
theorem semi_put {m : List Eg} (e : Eg) : Semi (m ++ [e]) (treeOf m ++ [pend e]) := by
 refine ⟨by simp [treeOf], fun i hi => ?_⟩
 by_cases hl : i < m.length
 ·rw [getD_append_left (by simpa [treeOf] using hl), getD_append_left hl]
  have e1 : (treeOf m).getD i default = nodeOf m (m.getD i default) := by
   rw [getD_lt (by simpa [treeOf] using hl), getD_lt hl]; simp [treeOf]
  rw [e1]
  cases hw : wayM m (m.getD i default).id with
  | none => exact .inl (nodeOf_none hw)
  | some w =>
   right
   have : wayM (m ++ [e]) (m.getD i default).id = some w := wayM_iff.2 (wayM_iff.1 hw).append
   refine ⟨by simp only [nodeOf, hw, this], fun hh => ?_⟩
   rw [nodeOf_st.1 hh] at hw; cases hw
 ·left
  have hi' : i = m.length := by simp at hi; omega
  subst hi'
  rw [getD_append_right (by simp [treeOf]), getD_append_right (Nat.le_refl _)]
  simp [treeOf]
theorem tree_semi (m : List Eg) : Semi m (treeOf m) := by
 refine ⟨by simp [treeOf], fun i hi => ?_⟩
 have e1 : (treeOf m).getD i default = nodeOf m (m.getD i default) := by
  rw [getD_lt (by simpa [treeOf] using hi), getD_lt hi]; simp [treeOf]
 rw [e1]
 cases hw : wayM m (m.getD i default).id with
 | none => exact .inl (nodeOf_none hw)
 | some w => exact .inr ⟨rfl, fun hh => by rw [nodeOf_st.1 hh] at hw; cases hw⟩
theorem find_tree (m : List Eg) (id : Tg) : findN (treeOf m) id = (findE m id).map (nodeOf m) := by
 unfold findN findE treeOf
 rw [List.find?_map]
 congr 1
 congr 1
 funext x
 simp [nodeOf_e]
theorem idx_tree (m : List Eg) (id : Tg) : ((treeOf m).findIdx? fun n => decide (id = n.e.id)) = m.findIdx? fun e => decide (id = e.id) := by
 unfold treeOf
 rw [List.findIdx?_map]
 congr 1
 funext x
 simp [nodeOf_e]
theorem tree_len (m : List Eg) : (treeOf m).length = m.length := by simp [treeOf]
theorem mc_push (m : List Eg) (e : Eg) : mc (treeOf m ++ [pend e]) = ⟨kts (treeOf m) ++ [tg e.id], nds (treeOf m) ++ [nd (pend e)]⟩ := by simp [mc, kts, nds, pend]
set_option maxRecDepth 20000 in
set_option maxHeartbeats 16000000 in
theorem put_wr (m : List Eg) (e : Eg) (hm : OkM m) (he : OkLn e.ln) : PL.Wr Tryz.prog 31 (fun b => [.rptr [.mref b], eg e]) (mc (treeOf m)) (.int .i64 (putM m e).2) (mc (treeOf (putM m e).1)) := by
 have hE := tedge_pure e he
 have hok := okPut hm he
 unfold putM at hok ⊢
 cases hb : edgeB e
 ·rw [hb] at hE
  refine PL.Wr.of_v Tryz.func31 (by decide) rfl Tryz.ntmps31 Tryz.results31 (by simp) rfl (fun b => ?_)
  simp only [go_sem, eg]
  refine vCall_of (hE) ?_ ?_ ?_; iterate 2 simp only [go_sem, eg]
  simp only [go_sem, if_true]
 ·rw [hb] at hE
  simp only [hb, Bool.true_eq_false, if_false] at hok ⊢
  have hidx := idx_tree m e.id
  cases hf : m.findIdx? (fun x => decide (e.id = x.id)) with
  | some i =>
   rw [hf] at hidx
   obtain ⟨h1, h2⟩ := findIdx_some hidx
   rw [find_tree] at h2
   cases hfe : findE m e.id with
   | none => rw [hfe] at h2; cases h2
   | some x =>
    rw [hfe] at h2
    simp only [Option.map_some, Option.some.injEq] at h2
    have hxm := (findE_id hfe).2
    have hS := tsame_pure x e (hm.l x hxm) he
    have hgx : ((treeOf m).getD i default).e = x := by rw [← h2, nodeOf_e]
    have hval : (nds (treeOf m)).getD i .any = nd (nodeOf m x) := by rw [getD_nd h1, h2]
    have hne := nodeOf_e m x
    simp only
    cases hd : decide (x = e)
    ·rw [hd] at hS
     have hx : ¬ x = e := by simpa using hd
     simp only [hx, if_false]
     refine PL.Wr.of_v Tryz.func31 (by decide) rfl Tryz.ntmps31 Tryz.results31 (by simp) rfl (fun b => ?_)
     simp only [go_sem, eg]
     refine vCall_of (hE) ?_ ?_ ?_; iterate 2 simp only [go_sem, eg]
     simp only [go_sem]
     refine vDrawQ (by kernel_rfl) (by kernel_rfl) ?_
     simp only [go_sem, mc, findP_tags0, hidx, hval, nd, hne]
     refine vCall_of (hS) ?_ ?_ ?_; iterate 2 simp only [go_sem, eg]
     simp only [go_sem, mc]
    ·rw [hd] at hS
     have hx : x = e := by simpa using hd
     simp only [hx, if_true]
     refine PL.Wr.of_v Tryz.func31 (by decide) rfl Tryz.ntmps31 Tryz.results31 (by simp) rfl (fun b => ?_)
     simp only [go_sem, eg]
     refine vCall_of (hE) ?_ ?_ ?_; iterate 2 simp only [go_sem, eg]
     simp only [go_sem]
     refine vDrawQ (by kernel_rfl) (by kernel_rfl) ?_
     simp only [go_sem, mc, findP_tags0, hidx, hval, nd, hne]
     refine vCall_of (hS) ?_ ?_ ?_; iterate 2 simp only [go_sem, eg]
     simp only [go_sem, mc]
  | none =>
   rw [hf] at hidx
   have h2 := findIdx_find.1 hidx
   rw [find_tree] at h2
   have hfe : findE m e.id = none := by
    cases hx : findE m e.id with
    | none => rfl
    | some x => rw [hx] at h2; cases h2
   rw [hfe] at hok ⊢
   simp only at hok ⊢
   have hkl : (kts (treeOf m)).length = m.length := by rw [kts_len, tree_len]
   by_cases hn : 40 ≤ m.length
   ·have hn' : (40 : Int) ≤ (m.length : Int) := by omega
    simp only [hn, if_true]
    refine PL.Wr.of_v Tryz.func31 (by decide) rfl Tryz.ntmps31 Tryz.results31 (by simp) rfl (fun b => ?_)
    simp only [go_sem, eg]
    refine vCall_of (hE) ?_ ?_ ?_; iterate 2 simp only [go_sem, eg]
    simp only [go_sem]
    refine vDrawQ (by kernel_rfl) (by kernel_rfl) ?_
    simp only [go_sem, mc, findP_tags0, hidx, hkl, hn']
   ·have hn' : ¬ (40 : Int) ≤ (m.length : Int) := by omega
    simp only [hn, if_false] at hok ⊢
    have hO := town_pure e he
    have hW := settle_wr (m ++ [e]) (treeOf m ++ [pend e]) hok.a (semi_put e) hok.l (by have := hok.n; omega)
    refine PL.Wr.of_v Tryz.func31 (by decide) rfl Tryz.ntmps31 Tryz.results31 (by simp) rfl (fun b => ?_)
    simp only [go_sem, eg]
    refine vCall_of (hE) ?_ ?_ ?_; iterate 2 simp only [go_sem, eg]
    simp only [go_sem]
    refine vDrawQ (by kernel_rfl) (by kernel_rfl) ?_
    simp only [go_sem, mc, findP_tags0, hidx, hkl, hn']
    refine vDrawQ (by kernel_rfl) (by kernel_rfl) ?_
    simp only [go_sem]
    refine vCall_of (hO) ?_ ?_ ?_; iterate 2 simp only [go_sem, eg]
    simp only [go_sem, eg, mc, findP_tags0, hidx]
    refine vCall_wr b hW ?_ ?_ ?_ ?_
    ·simp only [go_sem]
    ·simp only [go_sem]
    ·rw [mc_push]
     simp [upd, tg, nd, pend]
    ·simp only [go_sem, mc]
def egsc (x : List Eg × Int) : PV := .tup [egs x.1, .int .i64 x.2]
theorem egs_dids (l : List Eg) : (egs l).dids = [] := by
 unfold egs
 simp only [PV.dids]
 induction l with
 | nil => rfl
 | cons e l ih => simp only [List.map_cons, PV.didsL, ih, eg_dids, List.append_nil]
theorem egsc_dids (x : List Eg × Int) : (egsc x).dids = [] := by simp only [egsc, PV.dids, PV.didsL, egs_dids, List.append_nil]
theorem sized_eg (l : List Eg) : Sized 20 (l.map eg) := fun e he => by
 obtain ⟨x, _, rfl⟩ := List.mem_map.1 he; rfl
theorem atoms_eg (l : List Eg) : Atoms (l.map eg) := fun e he => by
 obtain ⟨x, _, rfl⟩ := List.mem_map.1 he; rfl
theorem idx_find {m : List Eg} {id : Tg} : (idx (fun x => decide (x.id = id)) m = -1 ∧ findE m id = none) ∨ ∃ i : Nat, i < m.length ∧ idx (fun x => decide (x.id = id)) m = (i : Int) ∧ findE m id = some (m.getD i default) := by
 have e : (fun x : Eg => decide (x.id = id)) = fun x => decide (id = x.id) := by funext x; simp [eq_comm]
 unfold idx
 rw [e]
 cases hf : m.findIdx? (fun x => decide (id = x.id)) with
 | none =>
  left
  refine ⟨rfl, ?_⟩
  rw [List.findIdx?_eq_none_iff] at hf
  unfold findE
  rw [List.find?_eq_none]
  intro x hx hh
  rw [hf x hx] at hh; cases hh
 | some i =>
  right
  rw [List.findIdx?_eq_some_iff_getElem] at hf
  obtain ⟨h1, h2, h3⟩ := hf
  refine ⟨i, h1, rfl, ?_⟩
  unfold findE
  rw [List.find?_eq_some_iff_getElem]
  exact ⟨by rw [getD_lt h1]; exact h2, i, h1, (getD_lt h1).symm, fun j hj => by simpa using h3 j hj⟩
set_option maxRecDepth 20000 in
set_option maxHeartbeats 16000000 in
theorem RPut_pure (m : List Eg) (e : Eg) (hm : OkM m) (he : OkLn e.ln) : PL.Pure Tryz.prog 30 [egs m, eg e] (egsc (putM m e)) := by
 have hE := REdge_pure e he
 have hA := RAtE_pure m e.id (by rw [maxLen_eq]; have := hm.n; omega)
 unfold putM
 cases hb : edgeB e
 ·rw [hb] at hE
  refine PL.Pure.of_v Tryz.func30 (by decide) rfl Tryz.ntmps30 Tryz.results30 (by simp) (egsc_dids _) ?_
  simp only [go_sem, eg, egs]
  refine vCall_of (hE) ?_ ?_ ?_; iterate 2 simp only [go_sem, eg]
  simp only [go_sem, if_true, egsc, egs]
 ·rw [hb] at hE
  simp only [Bool.true_eq_false, if_false]
  rcases idx_find (m := m) (id := e.id) with ⟨h1, h2⟩ | ⟨i, hi, h1, h2⟩
  ·rw [h1] at hA
   rw [h2]
   by_cases hn : 40 ≤ m.length
   ·have hn' : (39 : Int) < (m.length : Int) := by omega
    simp only [hn, if_true]
    refine PL.Pure.of_v Tryz.func30 (by decide) rfl Tryz.ntmps30 Tryz.results30 (by simp) (egsc_dids _) ?_
    simp only [go_sem, eg, egs]
    refine vCall_of (hE) ?_ ?_ ?_; iterate 2 simp only [go_sem, eg]
    simp only [go_sem]
    refine vCall_of (hA) ?_ ?_ ?_; iterate 2 simp only [go_sem, egs, tg]
    simp only [go_sem]
    refine vDrawQ (by kernel_rfl) (by kernel_rfl) ?_
    simp only [go_sem, hn', egsc, egs]
   ·have hn' : ¬ (39 : Int) < (m.length : Int) := by omega
    simp only [hn, if_false]
    have hr1 := room1 (show m.length ≤ 1000000 by omega) (show 256 ≤ 1000 by omega)
    have hr2 := room1 (show m.length + 1 ≤ 1000000 by omega) (show 256 ≤ 1000 by omega)
    refine PL.Pure.of_v Tryz.func30 (by decide) rfl Tryz.ntmps30 Tryz.results30 (by simp) (egsc_dids _) ?_
    simp only [go_sem, eg, egs]
    refine vCall_of (hE) ?_ ?_ ?_; iterate 2 simp only [go_sem, eg]
    simp only [go_sem]
    refine vCall_of (hA) ?_ ?_ ?_; iterate 2 simp only [go_sem, egs, tg]
    simp only [go_sem]
    refine vDrawQ (by kernel_rfl) (by kernel_rfl) ?_
    simp only [go_sem, hn', egsc, egs, sized_eg, atoms_eg, hr1, hr2, List.length_map]
    repeat ((with_reducible refine And.intro ?_ ?_); (focus ((repeat' (with_reducible apply And.intro)) <;> (first | omega | exact room_small (by omega) (by omega) | exact room_small (by simp; omega) (by omega) | exact sized_str _ | (simp; done) | (simp; omega)))))
    simp [eg]
  ·rw [h1] at hA
   rw [h2]
   have hS := RESame_pure (m.getD i default) e (hm.l _ (getD_mem hi)) he
   have i0 : (0 : Int) ≤ (i : Int) := by omega
   have i1 : (i : Int) < (m.length : Int) := by omega
   cases hd : decide (m.getD i default = e)
   ·rw [hd] at hS
    have hx : ¬ m.getD i default = e := by simpa using hd
    simp only [hx, if_false]
    refine PL.Pure.of_v Tryz.func30 (by decide) rfl Tryz.ntmps30 Tryz.results30 (by simp) (egsc_dids _) ?_
    simp only [go_sem, eg, egs]
    refine vCall_of (hE) ?_ ?_ ?_; iterate 2 simp only [go_sem, eg]
    simp only [go_sem]
    refine vCall_of (hA) ?_ ?_ ?_; iterate 2 simp only [go_sem, egs, tg]
    simp only [go_sem]
    refine vDrawQ (by kernel_rfl) (by kernel_rfl) ?_
    simp only [go_sem, i0, i1, getD_eg hi, eg]
    refine vCall_of (hS) ?_ ?_ ?_; iterate 2 simp only [go_sem, eg]
    simp only [go_sem, i0, egsc, egs]
   ·rw [hd] at hS
    have hx : m.getD i default = e := by simpa using hd
    simp only [hx, if_true]
    refine PL.Pure.of_v Tryz.func30 (by decide) rfl Tryz.ntmps30 Tryz.results30 (by simp) (egsc_dids _) ?_
    simp only [go_sem, eg, egs]
    refine vCall_of (hE) ?_ ?_ ?_; iterate 2 simp only [go_sem, eg]
    simp only [go_sem]
    refine vCall_of (hA) ?_ ?_ ?_; iterate 2 simp only [go_sem, egs, tg]
    simp only [go_sem]
    refine vDrawQ (by kernel_rfl) (by kernel_rfl) ?_
    simp only [go_sem, i0, i1, getD_eg hi, eg]
    refine vCall_of (hS) ?_ ?_ ?_; iterate 2 simp only [go_sem, eg]
    simp only [go_sem, i0, egsc, egs]
end Go.Proofs.YthingdchjkhfbaaGreat
