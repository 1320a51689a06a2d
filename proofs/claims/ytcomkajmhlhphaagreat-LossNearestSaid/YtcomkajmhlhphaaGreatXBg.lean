/- Contracts of functions and laws of this seat, each for every input that it names: lemmas of the proof. -/
import Derived.Test.YtcomkajmhlhphaaGreatXBb
import Derived.Test.YtcomkajmhlhphaaGreatPlG
set_option linter.unusedSimpArgs false
set_option linter.unusedVariables false
set_option linter.unusedSimpArgs false
set_option linter.unusedVariables false
namespace Go.Proofs.YtcomkajmhlhphaaGreat
open Go.PL
set_option maxHeartbeats 1000000 in
theorem RTag_pure (t : Tg) : PL.Pure Tryz.prog 59 [tg t] (.bool (tagB t)) := by
  refine PL.Pure.of_v Tryz.func59 (by decide) rfl Tryz.ntmps59 Tryz.results59 (by simp) rfl ?_
  simp only [go_sem, tg]
  repeat' (first | (refine vGuard_t (fun h => ?_) (fun h => ?_) <;> (try simp only [go_sem, h])) | (refine vGuard_f (fun h => ?_) (fun h => ?_) <;> (try simp only [go_sem, h])) | (refine vCond_b (fun h => ?_) (fun h => ?_) <;> (try simp only [go_sem, h])) | ((refine vDrawQ (by kernel_rfl) (by kernel_rfl) ?_); (try simp only [go_sem])))
  all_goals (simp only [decide_eq_true_eq, decide_eq_false_iff_not] at *; rw [Bool.eq_iff_iff]; simp [tagB]; omega)
theorem edgeR (e : Eg) : edgeB e = (tagB e.id && ((decide (e.par = default) || tagB e.par) && (!decide (e.id = e.par) && (rightLn e.ln && decide (e.ln.kind < 9))))) := by
  unfold edgeB
  rw [Bool.eq_iff_iff]
  simp only [Bool.and_eq_true, Bool.or_eq_true, decide_eq_true_eq, Bool.not_eq_true', decide_eq_false_iff_not]
  constructor
  · rintro ⟨h1, h2, h3, h4, h5⟩
    refine ⟨h1, ?_, ?_, h5, by omega⟩
    · rcases h2 with h2 | h2
      · exact .inl h2
      · exact .inr h2.1
    · rcases h2 with h2 | h2
      · exact fun e1 => tagB_default h1 (e1.trans h2)
      · exact fun e1 => h2.2 e1.symm
  · rintro ⟨h1, h2, h3, h4, h5⟩
    refine ⟨h1, ?_, rightLn_pos h4, by omega, h4⟩
    rcases h2 with h2 | h2
    · exact .inl h2
    · exact .inr ⟨h2, fun e1 => h3 e1.symm⟩
set_option maxRecDepth 20000 in
set_option maxHeartbeats 8000000 in
theorem REdge_pure (e : Eg) (he : OkLn e.ln) : PL.Pure Tryz.prog 33 [eg e] (.bool (edgeB e)) := by
  have hT := RTag_pure e.id
  have hU := RTag_pure e.par
  have hR := RLRight_pure e.ln he
  rw [edgeR]
  generalize hdp : decide (e.par = default) = dp at *
  generalize hde : decide (e.id = e.par) = de at *
  generalize tagB e.par = tp at *
  generalize tagB e.id = ti at *
  generalize rightLn e.ln = rl at *
  have hdp' : (e.par.r == 0 && e.par.n == 0) = dp := by rw [← hdp]; exact tg_fold e.par default
  refine PL.Pure.of_v Tryz.func33 (by decide) rfl Tryz.ntmps33 Tryz.results33 (by simp) rfl ?_
  simp only [go_sem, eg, hdp', tg_fold, hde]
  repeat' (first | (refine vGuard_t (fun h => ?_) (fun h => ?_) <;> (try simp only [go_sem, h, hdp', tg_fold, hde])) | (refine vGuard_f (fun h => ?_) (fun h => ?_) <;> (try simp only [go_sem, h, hdp', tg_fold, hde])) | (refine vCond_b (fun h => ?_) (fun h => ?_) <;> (try simp only [go_sem, h, hdp', tg_fold, hde])) | ((refine vCall_of (hT) ?_ ?_ ?_); (focus simp only [go_sem, tg, lns]); (focus exact rfl); (try simp only [go_sem, hdp', tg_fold, hde])) | ((refine vCall_of (hU) ?_ ?_ ?_); (focus simp only [go_sem, tg, lns]); (focus exact rfl); (try simp only [go_sem, hdp', tg_fold, hde])) | ((refine vCall_of (hR) ?_ ?_ ?_); (focus simp only [go_sem, tg, lns]); (focus exact rfl); (try simp only [go_sem, hdp', tg_fold, hde])) | ((refine vDrawQ (by kernel_rfl) (by kernel_rfl) ?_); (try simp only [go_sem, hdp', tg_fold, hde])))
  all_goals simp_all
set_option maxRecDepth 20000 in
set_option maxHeartbeats 8000000 in
theorem tsame_pure (a b : Eg) (ha : OkLn a.ln) (hb : OkLn b.ln) : PL.Pure Tryz.prog 24 [eg a, eg b] (.bool (decide (a = b))) := by
  have hE := LSame_pure a.ln b.ln ha hb
  refine PL.Pure.of_v Tryz.func24 (by decide) rfl Tryz.ntmps24 Tryz.results24 (by simp) rfl ?_
  simp only [go_sem, eg, tg_fold]
  repeat' (first | (refine vGuard_t (fun h => ?_) (fun h => ?_) <;> (try simp only [go_sem, h, tg_fold])) | (refine vGuard_f (fun h => ?_) (fun h => ?_) <;> (try simp only [go_sem, h, tg_fold])) | (refine vCond_b (fun h => ?_) (fun h => ?_) <;> (try simp only [go_sem, h, tg_fold])) | ((refine vCall_of (hE) ?_ ?_ ?_); (focus simp only [go_sem, lns]); (focus exact rfl); (try simp only [go_sem, tg_fold])) | ((refine vDrawQ (by kernel_rfl) (by kernel_rfl) ?_); (try simp only [go_sem, tg_fold])))
  all_goals (clear hE ha hb; cases a; cases b; simp_all)
set_option maxRecDepth 20000 in
set_option maxHeartbeats 8000000 in
theorem RESame_pure (a b : Eg) (ha : OkLn a.ln) (hb : OkLn b.ln) : PL.Pure Tryz.prog 35 [eg a, eg b] (.bool (decide (a = b))) := by
  have hE := RLSame_pure a.ln b.ln ha hb
  refine PL.Pure.of_v Tryz.func35 (by decide) rfl Tryz.ntmps35 Tryz.results35 (by simp) rfl ?_
  simp only [go_sem, eg, tg_fold]
  repeat' (first | (refine vGuard_t (fun h => ?_) (fun h => ?_) <;> (try simp only [go_sem, h, tg_fold])) | (refine vGuard_f (fun h => ?_) (fun h => ?_) <;> (try simp only [go_sem, h, tg_fold])) | (refine vCond_b (fun h => ?_) (fun h => ?_) <;> (try simp only [go_sem, h, tg_fold])) | ((refine vCall_of (hE) ?_ ?_ ?_); (focus simp only [go_sem, lns]); (focus exact rfl); (try simp only [go_sem, tg_fold])) | ((refine vDrawQ (by kernel_rfl) (by kernel_rfl) ?_); (try simp only [go_sem, tg_fold])))
  all_goals (clear hE ha hb; cases a; cases b; simp_all)
set_option maxHeartbeats 4000000 in
theorem town_pure (e : Eg) (he : OkLn e.ln) : PL.Pure Tryz.prog 25 [eg e] (eg e) := by
  have hO := LOwn_pure e.ln he
  refine PL.Pure.of_v Tryz.func25 (by decide) rfl Tryz.ntmps25 Tryz.results25 (by simp) (eg_dids _) ?_
  simp only [go_sem, eg]
  refine vDrawQ (by kernel_rfl) (by kernel_rfl) ?_
  simp only [go_sem]
  refine vCall_of (hO) ?_ ?_ ?_; (focus simp only [go_sem, lns]); (focus simp only [go_sem, lns])
  simp only [go_sem, lns]
  rfl
def pairTop (p : Pr) : Bool := longB 200 p.fr' || longB 200 p.to'
def heavyP (l : List Pr) : Bool := decide (20 < (l.length : Int)) || l.any pairTop
set_option maxRecDepth 20000 in
set_option maxHeartbeats 8000000 in
theorem RHeavyP_pure (l : List Pr) (hl : l.length ≤ maxLen) : PL.Pure Tryz.prog 32 [prs l] (.bool (heavyP l)) := by
  by_cases h20 : (20 : Int) < (l.length : Int)
  · refine PL.Pure.of_v Tryz.func32 (by decide) rfl Tryz.ntmps32 Tryz.results32 (by simp) rfl ?_
    simp only [go_sem, prs, h20, heavyP, Bool.true_or]
  · have hx : heavyP l = l.any pairTop := by simp only [heavyP, h20, decide_false, Bool.false_or]
    rw [hx]
    refine PL.Pure.of_v Tryz.func32 (by decide) rfl Tryz.ntmps32 Tryz.results32 (by simp) rfl ?_
    simp only [go_sem, prs, h20]
    refine vLoopM (ι := { x : Nat // x ≤ (l).length ∧ (∀ j, j < x → pairTop (l.getD j default) = false) }) 29 (fun x => [(0, prs l), (3, .int .i64 (x.1 : Int))]) (fun x => []) (fun x => []) (fun x => (l).length - x.1) ⟨0, Nat.zero_le _, fun j hj => absurd hj (Nat.not_lt_zero j)⟩ ⟨rfl, (forall_cons rfl (forall_cons rfl forall_nil)), forall_nil, forall_nil⟩ (fun x => ⟨(forall_cons rfl (forall_cons rfl forall_nil)), forall_nil⟩) (fun x => ?_); obtain ⟨k, hk, hI⟩ := x; simp only at hk hI ⊢
    by_cases h : (k : Int) < (l.length : Int)
    · (have hka : k < (l).length := by omega); (have w1 := w64s hka (hl)); (have i1 : (0 : Int) ≤ (k : Int) := by omega)
      by_cases g1 : (200 : Int) < ((l.getD k default).fr'.length : Int)
      · have hz := any_true (p := pairTop) hka (d := default) (by simp only [pairTop, longB, Bool.or_eq_true, decide_eq_true_eq]; omega)
        simp only [go_sem, prs, h, getD_pr hka, pr, i1, g1, hz]
      · by_cases g2 : (200 : Int) < ((l.getD k default).to'.length : Int)
        · have hz := any_true (p := pairTop) hka (d := default) (by simp only [pairTop, longB, Bool.or_eq_true, decide_eq_true_eq]; omega)
          simp only [go_sem, prs, h, getD_pr hka, pr, i1, g1, g2, hz]
        · simp only [go_sem, prs, h, getD_pr hka, pr, i1, g1, g2, w1]
          exact ⟨⟨k + 1, by (try simp only); omega, below_succ hI (by simp only [pairTop, longB, Bool.or_eq_false_iff, decide_eq_false_iff_not]; omega)⟩, by show (l).length - (k + 1) < (l).length - k; omega, ⟨rfl, (forall_cons rfl (forall_cons rfl forall_nil)), forall_nil, forall_nil⟩⟩
    · have hz := any_false (p := pairTop) (d := default) (l := l) (fun j hj => hI j (by omega))
      simp only [go_sem, prs, h, hz]
theorem longI (s : Str) : longB 200 s = decide ((200 : Int) < (s.length : Int)) := rfl
def heavyLn (x : Ln) : Bool := longB 200 x.at'.gr || (longB 200 x.at'.nm || (longB 200 x.nm || (longB 200 x.ot || (heavyF x.fd || (heavyP x.fo || heavyP x.ba)))))
structure LenLn (x : Ln) : Prop where
  c : x.fd.cases'.length ≤ maxLen
  f : x.fo.length ≤ maxLen
  b : x.ba.length ≤ maxLen
set_option maxRecDepth 20000 in
set_option maxHeartbeats 8000000 in
theorem RHeavyLn_pure (x : Ln) (hx : LenLn x) : PL.Pure Tryz.prog 13 [lns x] (.bool (heavyLn x)) := by
  have hF := RHeavyF_pure x.fd hx.c
  have hP := RHeavyP_pure x.fo hx.f
  have hQ := RHeavyP_pure x.ba hx.b
  unfold heavyLn
  generalize heavyF x.fd = a1 at *
  generalize heavyP x.fo = a2 at *
  generalize heavyP x.ba = a3 at *
  refine PL.Pure.of_v Tryz.func13 (by decide) rfl Tryz.ntmps13 Tryz.results13 (by simp) rfl ?_
  simp only [go_sem, lns]
  repeat' (first | (refine vGuard_t (fun h => ?_) (fun h => ?_) <;> (try simp only [go_sem, h])) | (refine vGuard_f (fun h => ?_) (fun h => ?_) <;> (try simp only [go_sem, h])) | (refine vCond_b (fun h => ?_) (fun h => ?_) <;> (try simp only [go_sem, h])) | ((refine vCall_of (hF) ?_ ?_ ?_); (focus simp only [go_sem, fld, prs]); (focus exact rfl); (try simp only [go_sem])) | ((refine vCall_of (hP) ?_ ?_ ?_); (focus simp only [go_sem, fld, prs]); (focus exact rfl); (try simp only [go_sem])) | ((refine vCall_of (hQ) ?_ ?_ ?_); (focus simp only [go_sem, fld, prs]); (focus exact rfl); (try simp only [go_sem])) | ((refine vDrawQ (by kernel_rfl) (by kernel_rfl) ?_); (try simp only [go_sem])))
  all_goals (clear hF hP hQ hx; simp only [longI, *, Bool.true_or, Bool.or_true, Bool.false_or, Bool.or_false])
def heavyE (l : List Eg) (most : Int) : Bool := decide (most < (l.length : Int)) || l.any fun e => heavyLn e.ln
set_option maxRecDepth 20000 in
set_option maxHeartbeats 8000000 in
theorem RHeavyE_pure (l : List Eg) (most : Int) (hl : l.length ≤ maxLen) (hx : ∀ e ∈ l, LenLn e.ln) : PL.Pure Tryz.prog 5 [egs l, .int .i64 most] (.bool (heavyE l most)) := by
  by_cases hm : most < (l.length : Int)
  · refine PL.Pure.of_v Tryz.func5 (by decide) rfl Tryz.ntmps5 Tryz.results5 (by simp) rfl ?_
    simp only [go_sem, egs, hm, heavyE, Bool.true_or]
  · have hz : heavyE l most = l.any fun e => heavyLn e.ln := by simp only [heavyE, hm, decide_false, Bool.false_or]
    rw [hz]
    refine PL.Pure.of_v Tryz.func5 (by decide) rfl Tryz.ntmps5 Tryz.results5 (by simp) rfl ?_
    simp only [go_sem, egs, hm]
    refine vLoopM (ι := { x : Nat // x ≤ (l).length ∧ (∀ j, j < x → heavyLn (l.getD j default).ln = false) }) 22 (fun x => [(0, egs l), (5, .int .i64 (x.1 : Int))]) (fun x => []) (fun x => []) (fun x => (l).length - x.1) ⟨0, Nat.zero_le _, fun j hj => absurd hj (Nat.not_lt_zero j)⟩ ⟨rfl, (forall_cons rfl (forall_cons rfl forall_nil)), forall_nil, forall_nil⟩ (fun x => ⟨(forall_cons rfl (forall_cons rfl forall_nil)), forall_nil⟩) (fun x => ?_); obtain ⟨k, hk, hI⟩ := x; simp only at hk hI ⊢
    by_cases h : (k : Int) < (l.length : Int)
    · (have hka : k < (l).length := by omega); (have w1 := w64s hka (hl)); (have i1 : (0 : Int) ≤ (k : Int) := by omega)
      have hF := RHeavyLn_pure (l.getD k default).ln (hx _ (getD_mem' hka))
      cases hf : heavyLn (l.getD k default).ln
      · rw [hf] at hF
        simp only [go_sem, egs, h, getD_eg hka, eg, i1]
        refine vCall_of (hF) ?_ ?_ ?_; (focus simp only [go_sem, lns]); (focus simp only [go_sem, lns])
        simp only [go_sem, w1]
        exact ⟨⟨k + 1, by (try simp only); omega, below_succ hI hf⟩, by show (l).length - (k + 1) < (l).length - k; omega, ⟨rfl, (forall_cons rfl (forall_cons rfl forall_nil)), forall_nil, forall_nil⟩⟩
      · rw [hf] at hF
        have hz := any_true (p := fun e : Eg => heavyLn e.ln) hka hf
        simp only [go_sem, egs, h, getD_eg hka, eg, i1]
        refine vCall_of (hF) ?_ ?_ ?_; (focus simp only [go_sem, lns]); (focus simp only [go_sem, lns])
        simp only [go_sem, hz]
    · have hz := any_false (p := fun e : Eg => heavyLn e.ln) (d := default) (l := l) (fun j hj => hI j (by omega))
      simp only [go_sem, egs, h, hz]
theorem okOfHeavy {x : Ln} (h : heavyLn x = false) : OkLn x := by
  simp only [heavyLn, heavyF, fldTop, heavyP, Bool.or_eq_false_iff, decide_eq_false_iff_not] at h
  obtain ⟨_, _, _, _, ⟨⟨_, _, _, h1⟩, _⟩, ⟨h2, _⟩, h3, _⟩ := h
  exact ⟨by omega, by omega, by omega⟩
end Go.Proofs.YtcomkajmhlhphaaGreat

set_option linter.unusedSimpArgs false
set_option linter.unusedVariables false
set_option linter.unusedSimpArgs false
set_option linter.unusedVariables false
namespace Go.Proofs.YtcomkajmhlhphaaGreat
open Go.PL
def putM (m : List Eg) (e : Eg) : List Eg × Int :=
  if edgeB e = false then (m, 5) else match findE m e.id with
    | some x => if x = e then (m, 7) else (m, 15)
    | none => if 40 ≤ m.length then (m, 9) else (m ++ [e], 0)
/-- a list of edges that a tree holds -/
structure OkM (m : List Eg) : Prop where
  a : Apart m
  l : ∀ e ∈ m, OkLn e.ln
  n : m.length ≤ 40
theorem okM_nil : OkM [] := ⟨⟨by simp, fun e h => (by cases h)⟩, fun e h => (by cases h), by simp⟩
theorem okPut {m : List Eg} (h : OkM m) {e : Eg} (he : OkLn e.ln) : OkM (putM m e).1 := by
  unfold putM
  split
  · exact h
  · rename_i hb
    split
    · split <;> exact h
    · rename_i hf
      split
      · exact h
      · rename_i hn
        refine ⟨⟨?_, fun x hx => ?_⟩, fun x hx => ?_, by simp; omega⟩
        · rw [List.map_append, List.nodup_append]
          refine ⟨h.a.d, by simp, fun a ha b hb' => ?_⟩
          simp only [List.map_cons, List.map_nil, List.mem_singleton] at hb'
          subst hb'
          obtain ⟨x, hx, rfl⟩ := List.mem_map.1 ha
          unfold findE at hf
          rw [List.find?_eq_none] at hf
          have := hf x hx
          simp only [decide_eq_true_eq] at this
          exact fun e1 => this e1.symm
        · rcases List.mem_append.1 hx with hx | hx
          · exact h.a.n x hx
          · rw [List.mem_singleton.1 hx]
            have hb : edgeB e = true := by simpa using hb
            simp only [edgeB, Bool.and_eq_true] at hb
            exact tagB_default hb.1
        · rcases List.mem_append.1 hx with hx | hx
          · exact h.l x hx
          · rw [List.mem_singleton.1 hx]; exact he
/-- with one more edge the settled ones are as they were -/
theorem findE_append {m : List Eg} {e x : Eg} {id : Tg} (h : findE m id = some x) : findE (m ++ [e]) id = some x := by
  unfold findE at *; rw [List.find?_append, h]; rfl
theorem Way.append {m : List Eg} {e : Eg} {id : Tg} {w : List Eg} (h : Way m id w) : Way (m ++ [e]) id w := by
  induction h with
  | root => exact .root
  | step hn he hw ih => exact .step hn (findE_append he) ih
theorem semi_put {m : List Eg} (e : Eg) : Semi (m ++ [e]) (treeOf m ++ [pend e]) := by
  refine ⟨by simp [treeOf], fun i hi => ?_⟩
  by_cases hl : i < m.length
  · rw [getD_append_left (by simpa [treeOf] using hl), getD_append_left hl]
    have e1 : (treeOf m).getD i default = nodeOf m (m.getD i default) := by
      rw [getD_lt (by simpa [treeOf] using hl), getD_lt hl]; simp [treeOf]
    rw [e1]
    cases hw : wayM m (m.getD i default).id with
    | none => exact .inl (nodeOf_none hw)
    | some w =>
      right
      have : wayM (m ++ [e]) (m.getD i default).id = some w := wayM_iff.2 (wayM_iff.1 hw).append
      refine ⟨by simp only [nodeOf, hw, this], fun hh => ?_⟩
      rw [nodeOf_st.1 hh] at hw; cases hw
  · left
    have hi' : i = m.length := by simp at hi; omega
    subst hi'
    rw [getD_append_right (by simp [treeOf]), getD_append_right (Nat.le_refl _)]
    simp [treeOf]
theorem tree_semi (m : List Eg) : Semi m (treeOf m) := by
  refine ⟨by simp [treeOf], fun i hi => ?_⟩
  have e1 : (treeOf m).getD i default = nodeOf m (m.getD i default) := by
    rw [getD_lt (by simpa [treeOf] using hi), getD_lt hi]; simp [treeOf]
  rw [e1]
  cases hw : wayM m (m.getD i default).id with
  | none => exact .inl (nodeOf_none hw)
  | some w => exact .inr ⟨rfl, fun hh => by rw [nodeOf_st.1 hh] at hw; cases hw⟩
theorem find_tree (m : List Eg) (id : Tg) : findN (treeOf m) id = (findE m id).map (nodeOf m) := by
  unfold findN findE treeOf
  rw [List.find?_map]
  congr 1
  congr 1
  funext x
  simp [nodeOf_e]
theorem idx_tree (m : List Eg) (id : Tg) : ((treeOf m).findIdx? fun n => decide (id = n.e.id)) = m.findIdx? fun e => decide (id = e.id) := by
  unfold treeOf
  rw [List.findIdx?_map]
  congr 1
  funext x
  simp [nodeOf_e]
theorem tree_len (m : List Eg) : (treeOf m).length = m.length := by simp [treeOf]
theorem mc_push (m : List Eg) (e : Eg) : mc (treeOf m ++ [pend e]) = ⟨kts (treeOf m) ++ [tg e.id], nds (treeOf m) ++ [nd (pend e)]⟩ := by simp [mc, kts, nds, pend]
set_option maxRecDepth 20000 in
set_option maxHeartbeats 16000000 in
theorem put_wr (m : List Eg) (e : Eg) (hm : OkM m) (he : OkLn e.ln) : PL.Wr Tryz.prog 10 (fun b => [.rptr [.mref b], eg e]) (mc (treeOf m)) (.int .i64 (putM m e).2) (mc (treeOf (putM m e).1)) := by
  have hE := tedge_pure e he
  have hok := okPut hm he
  unfold putM at hok ⊢
  cases hb : edgeB e
  · rw [hb] at hE
    refine PL.Wr.of_v Tryz.func10 (by decide) rfl Tryz.ntmps10 Tryz.results10 (by simp) rfl (fun b => ?_)
    simp only [go_sem, eg]
    refine vCall_of (hE) ?_ ?_ ?_; (focus simp only [go_sem, eg]); (focus simp only [go_sem, eg])
    simp only [go_sem, if_true]
  · rw [hb] at hE
    simp only [hb, Bool.true_eq_false, if_false] at hok ⊢
    have hidx := idx_tree m e.id
    cases hf : m.findIdx? (fun x => decide (e.id = x.id)) with
    | some i =>
      rw [hf] at hidx
      obtain ⟨h1, h2⟩ := findIdx_some hidx
      rw [find_tree] at h2
      cases hfe : findE m e.id with
      | none => rw [hfe] at h2; cases h2
      | some x =>
        rw [hfe] at h2
        simp only [Option.map_some, Option.some.injEq] at h2
        have hxm := (findE_id hfe).2
        have hS := tsame_pure x e (hm.l x hxm) he
        have hgx : ((treeOf m).getD i default).e = x := by rw [← h2, nodeOf_e]
        have hval : (nds (treeOf m)).getD i .any = nd (nodeOf m x) := by rw [getD_nd h1, h2]
        have hne := nodeOf_e m x
        simp only
        cases hd : decide (x = e)
        · rw [hd] at hS
          have hx : ¬ x = e := by simpa using hd
          simp only [hx, if_false]
          refine PL.Wr.of_v Tryz.func10 (by decide) rfl Tryz.ntmps10 Tryz.results10 (by simp) rfl (fun b => ?_)
          simp only [go_sem, eg]
          refine vCall_of (hE) ?_ ?_ ?_; (focus simp only [go_sem, eg]); (focus simp only [go_sem, eg])
          simp only [go_sem]
          refine vDrawQ (by kernel_rfl) (by kernel_rfl) ?_
          simp only [go_sem, mc, findP_tags0, hidx, hval, nd, hne]
          refine vCall_of (hS) ?_ ?_ ?_; (focus simp only [go_sem, eg]); (focus simp only [go_sem, eg])
          simp only [go_sem, mc]
        · rw [hd] at hS
          have hx : x = e := by simpa using hd
          simp only [hx, if_true]
          refine PL.Wr.of_v Tryz.func10 (by decide) rfl Tryz.ntmps10 Tryz.results10 (by simp) rfl (fun b => ?_)
          simp only [go_sem, eg]
          refine vCall_of (hE) ?_ ?_ ?_; (focus simp only [go_sem, eg]); (focus simp only [go_sem, eg])
          simp only [go_sem]
          refine vDrawQ (by kernel_rfl) (by kernel_rfl) ?_
          simp only [go_sem, mc, findP_tags0, hidx, hval, nd, hne]
          refine vCall_of (hS) ?_ ?_ ?_; (focus simp only [go_sem, eg]); (focus simp only [go_sem, eg])
          simp only [go_sem, mc]
    | none =>
      rw [hf] at hidx
      have h2 := findIdx_find.1 hidx
      rw [find_tree] at h2
      have hfe : findE m e.id = none := by
        cases hx : findE m e.id with
        | none => rfl
        | some x => rw [hx] at h2; cases h2
      rw [hfe] at hok ⊢
      simp only at hok ⊢
      have hkl : (kts (treeOf m)).length = m.length := by rw [kts_len, tree_len]
      by_cases hn : 40 ≤ m.length
      · have hn' : (40 : Int) ≤ (m.length : Int) := by omega
        simp only [hn, if_true]
        refine PL.Wr.of_v Tryz.func10 (by decide) rfl Tryz.ntmps10 Tryz.results10 (by simp) rfl (fun b => ?_)
        simp only [go_sem, eg]
        refine vCall_of (hE) ?_ ?_ ?_; (focus simp only [go_sem, eg]); (focus simp only [go_sem, eg])
        simp only [go_sem]
        refine vDrawQ (by kernel_rfl) (by kernel_rfl) ?_
        simp only [go_sem, mc, findP_tags0, hidx, hkl, hn']
      · have hn' : ¬ (40 : Int) ≤ (m.length : Int) := by omega
        simp only [hn, if_false] at hok ⊢
        have hO := town_pure e he
        have hW := settle_wr (m ++ [e]) (treeOf m ++ [pend e]) hok.a (semi_put e) hok.l (by have := hok.n; omega)
        refine PL.Wr.of_v Tryz.func10 (by decide) rfl Tryz.ntmps10 Tryz.results10 (by simp) rfl (fun b => ?_)
        simp only [go_sem, eg]
        refine vCall_of (hE) ?_ ?_ ?_; (focus simp only [go_sem, eg]); (focus simp only [go_sem, eg])
        simp only [go_sem]
        refine vDrawQ (by kernel_rfl) (by kernel_rfl) ?_
        simp only [go_sem, mc, findP_tags0, hidx, hkl, hn']
        refine vDrawQ (by kernel_rfl) (by kernel_rfl) ?_
        simp only [go_sem]
        refine vCall_of (hO) ?_ ?_ ?_; (focus simp only [go_sem, eg]); (focus simp only [go_sem, eg])
        simp only [go_sem, eg, mc, findP_tags0, hidx]
        refine vCall_wr b hW ?_ ?_ ?_ ?_
        · simp only [go_sem]
        · simp only [go_sem]
        · rw [mc_push]
          simp [upd, tg, nd, pend]
        · simp only [go_sem, mc]
def egsc (x : List Eg × Int) : PV := .tup [egs x.1, .int .i64 x.2]
theorem egs_dids (l : List Eg) : (egs l).dids = [] := by
  unfold egs
  simp only [PV.dids]
  induction l with
  | nil => rfl
  | cons e l ih => simp only [List.map_cons, PV.didsL, ih, eg_dids, List.append_nil]
theorem egsc_dids (x : List Eg × Int) : (egsc x).dids = [] := by simp only [egsc, PV.dids, PV.didsL, egs_dids, List.append_nil]
theorem sized_eg (l : List Eg) : Sized 20 (l.map eg) := fun e he => by
  obtain ⟨x, _, rfl⟩ := List.mem_map.1 he; rfl
theorem atoms_eg (l : List Eg) : Atoms (l.map eg) := fun e he => by
  obtain ⟨x, _, rfl⟩ := List.mem_map.1 he; rfl
theorem idx_find {m : List Eg} {id : Tg} : (idx (fun x => decide (x.id = id)) m = -1 ∧ findE m id = none) ∨ ∃ i : Nat, i < m.length ∧ idx (fun x => decide (x.id = id)) m = (i : Int) ∧ findE m id = some (m.getD i default) := by
  have e : (fun x : Eg => decide (x.id = id)) = fun x => decide (id = x.id) := by funext x; simp [eq_comm]
  unfold idx
  rw [e]
  cases hf : m.findIdx? (fun x => decide (id = x.id)) with
  | none =>
    left
    refine ⟨rfl, ?_⟩
    rw [List.findIdx?_eq_none_iff] at hf
    unfold findE
    rw [List.find?_eq_none]
    intro x hx hh
    rw [hf x hx] at hh; cases hh
  | some i =>
    right
    rw [List.findIdx?_eq_some_iff_getElem] at hf
    obtain ⟨h1, h2, h3⟩ := hf
    refine ⟨i, h1, rfl, ?_⟩
    unfold findE
    rw [List.find?_eq_some_iff_getElem]
    exact ⟨by rw [getD_lt h1]; exact h2, i, h1, (getD_lt h1).symm, fun j hj => by simpa using h3 j hj⟩
set_option maxRecDepth 20000 in
set_option maxHeartbeats 16000000 in
theorem RPut_pure (m : List Eg) (e : Eg) (hm : OkM m) (he : OkLn e.ln) : PL.Pure Tryz.prog 14 [egs m, eg e] (egsc (putM m e)) := by
  have hE := REdge_pure e he
  have hA := RAtE_pure m e.id (by rw [maxLen_eq]; have := hm.n; omega)
  unfold putM
  cases hb : edgeB e
  · rw [hb] at hE
    refine PL.Pure.of_v Tryz.func14 (by decide) rfl Tryz.ntmps14 Tryz.results14 (by simp) (egsc_dids _) ?_
    simp only [go_sem, eg, egs]
    refine vCall_of (hE) ?_ ?_ ?_; (focus simp only [go_sem, eg]); (focus simp only [go_sem, eg])
    simp only [go_sem, if_true, egsc, egs]
  · rw [hb] at hE
    simp only [Bool.true_eq_false, if_false]
    rcases idx_find (m := m) (id := e.id) with ⟨h1, h2⟩ | ⟨i, hi, h1, h2⟩
    · rw [h1] at hA
      rw [h2]
      by_cases hn : 40 ≤ m.length
      · have hn' : (39 : Int) < (m.length : Int) := by omega
        simp only [hn, if_true]
        refine PL.Pure.of_v Tryz.func14 (by decide) rfl Tryz.ntmps14 Tryz.results14 (by simp) (egsc_dids _) ?_
        simp only [go_sem, eg, egs]
        refine vCall_of (hE) ?_ ?_ ?_; (focus simp only [go_sem, eg]); (focus simp only [go_sem, eg])
        simp only [go_sem]
        refine vCall_of (hA) ?_ ?_ ?_; (focus simp only [go_sem, egs, tg]); (focus simp only [go_sem, egs, tg])
        simp only [go_sem]
        refine vDrawQ (by kernel_rfl) (by kernel_rfl) ?_
        simp only [go_sem, hn', egsc, egs]
      · have hn' : ¬ (39 : Int) < (m.length : Int) := by omega
        simp only [hn, if_false]
        have hr1 := room1 (show m.length ≤ 1000000 by omega) (show 256 ≤ 1000 by omega)
        have hr2 := room1 (show m.length + 1 ≤ 1000000 by omega) (show 256 ≤ 1000 by omega)
        refine PL.Pure.of_v Tryz.func14 (by decide) rfl Tryz.ntmps14 Tryz.results14 (by simp) (egsc_dids _) ?_
        simp only [go_sem, eg, egs]
        refine vCall_of (hE) ?_ ?_ ?_; (focus simp only [go_sem, eg]); (focus simp only [go_sem, eg])
        simp only [go_sem]
        refine vCall_of (hA) ?_ ?_ ?_; (focus simp only [go_sem, egs, tg]); (focus simp only [go_sem, egs, tg])
        simp only [go_sem]
        refine vDrawQ (by kernel_rfl) (by kernel_rfl) ?_
        simp only [go_sem, hn', egsc, egs, sized_eg, atoms_eg, hr1, hr2, List.length_map]
        repeat ((with_reducible refine And.intro ?_ ?_); (focus ((repeat' (with_reducible apply And.intro)) <;> (first | omega | exact room_small (by omega) (by omega) | exact room_small (by simp; omega) (by omega) | exact sized_str _ | (simp; done) | (simp; omega)))))
        simp [eg]
    · rw [h1] at hA
      rw [h2]
      have hS := RESame_pure (m.getD i default) e (hm.l _ (getD_mem hi)) he
      have i0 : (0 : Int) ≤ (i : Int) := by omega
      have i1 : (i : Int) < (m.length : Int) := by omega
      cases hd : decide (m.getD i default = e)
      · rw [hd] at hS
        have hx : ¬ m.getD i default = e := by simpa using hd
        simp only [hx, if_false]
        refine PL.Pure.of_v Tryz.func14 (by decide) rfl Tryz.ntmps14 Tryz.results14 (by simp) (egsc_dids _) ?_
        simp only [go_sem, eg, egs]
        refine vCall_of (hE) ?_ ?_ ?_; (focus simp only [go_sem, eg]); (focus simp only [go_sem, eg])
        simp only [go_sem]
        refine vCall_of (hA) ?_ ?_ ?_; (focus simp only [go_sem, egs, tg]); (focus simp only [go_sem, egs, tg])
        simp only [go_sem]
        refine vDrawQ (by kernel_rfl) (by kernel_rfl) ?_
        simp only [go_sem, i0, i1, getD_eg hi, eg]
        refine vCall_of (hS) ?_ ?_ ?_; (focus simp only [go_sem, eg]); (focus simp only [go_sem, eg])
        simp only [go_sem, i0, egsc, egs]
      · rw [hd] at hS
        have hx : m.getD i default = e := by simpa using hd
        simp only [hx, if_true]
        refine PL.Pure.of_v Tryz.func14 (by decide) rfl Tryz.ntmps14 Tryz.results14 (by simp) (egsc_dids _) ?_
        simp only [go_sem, eg, egs]
        refine vCall_of (hE) ?_ ?_ ?_; (focus simp only [go_sem, eg]); (focus simp only [go_sem, eg])
        simp only [go_sem]
        refine vCall_of (hA) ?_ ?_ ?_; (focus simp only [go_sem, egs, tg]); (focus simp only [go_sem, egs, tg])
        simp only [go_sem]
        refine vDrawQ (by kernel_rfl) (by kernel_rfl) ?_
        simp only [go_sem, i0, i1, getD_eg hi, eg]
        refine vCall_of (hS) ?_ ?_ ?_; (focus simp only [go_sem, eg]); (focus simp only [go_sem, eg])
        simp only [go_sem, i0, egsc, egs]
end Go.Proofs.YtcomkajmhlhphaaGreat

set_option linter.unusedSimpArgs false
set_option linter.unusedVariables false
set_option linter.unusedSimpArgs false
set_option linter.unusedVariables false
namespace Go.Proofs.YtcomkajmhlhphaaGreat
open Go.PL
def grownM (l : List Eg) : List Eg := l.foldl (fun m e => (putM m e).1) []
theorem okGrown : ∀ (l : List Eg) {m : List Eg}, OkM m → (∀ e ∈ l, OkLn e.ln) → OkM (l.foldl (fun m e => (putM m e).1) m)
  | [], m, h, _ => h
  | e :: l, m, h, hl => okGrown l (okPut h (hl e (by simp))) (fun x hx => hl x (by simp [hx]))
theorem foldl_take {l : List Eg} {k : Nat} (hk : k < l.length) : (l.take (k + 1)).foldl (fun m e => (putM m e).1) [] = (putM ((l.take k).foldl (fun m e => (putM m e).1) []) (l.getD k default)).1 := by
  have : l.take (k + 1) = l.take k ++ [l.getD k default] := by
    rw [getD_lt hk, List.take_add_one]; simp [hk]
  rw [this, List.foldl_append]; rfl
def grv (m : List Eg) : PV := .tup [tr (treeOf m), egs m, .bool true]
theorem didsL_kts (l : List Nd) : PV.didsL (kts l) = [] := by
  unfold kts
  induction l with
  | nil => rfl
  | cons e l ih => simp only [List.map_cons, PV.didsL, ih, tg_dids, List.append_nil]
theorem didsL_nds (l : List Nd) : PV.didsL (nds l) = [] := by
  unfold nds
  induction l with
  | nil => rfl
  | cons e l ih => simp only [List.map_cons, PV.didsL, ih, nd_dids, List.append_nil]
theorem tr_dids (l : List Nd) : (tr l).dids = [] := by simp only [tr, PV.dids, PV.didsL, didsL_kts, didsL_nds, List.append_nil]
theorem grv_dids (m : List Eg) : (grv m).dids = [] := by simp only [grv, PV.dids, PV.didsL, tr_dids, egs_dids, List.append_nil]
set_option maxRecDepth 20000 in
set_option maxHeartbeats 16000000 in
theorem Grown_pure (l : List Eg) (hl : l.length ≤ 1000) (hx : ∀ e ∈ l, OkLn e.ln) : PL.Pure Tryz.prog 6 [egs l] (grv (grownM l)) := by
  have hml : l.length ≤ maxLen := by rw [maxLen_eq]; omega
  refine PL.Pure.of_vs Tryz.func6 (by decide) rfl Tryz.ntmps6 Tryz.results6 (by simp) (grv_dids _) ?_
  simp only [go_sem, egs]
  refine vCall_mk mk_new ?_ ?_ (fun b hb => ?_)
  · simp only [go_sem]
  · simp only [go_sem]
  simp only [go_sem]
  refine awp_plain 6 11 [] rfl ?_
  refine vLoopO (ι := { k : Nat // k ≤ l.length }) 40 (fun x => [(0, egs l), (5, .rptr [.mref b]), (6, egs (grownM (l.take x.1))), (7, .int .i64 (x.1 : Int))]) (fun x => []) (fun x => []) (fun x => [(b, mc (treeOf (grownM (l.take x.1))))]) (fun x => []) (fun x => l.length - x.1) ⟨0, Nat.zero_le _⟩
    ⟨⟨rfl, (forall_cons rfl (forall_cons rfl (forall_cons rfl (forall_cons rfl (forall_nil))))), forall_nil, forall_nil⟩, forall_cons (by simp [upd]; rfl) forall_nil, forall_nil⟩ (fun x => ⟨(forall_cons rfl (forall_cons rfl (forall_cons rfl (forall_cons rfl (forall_nil))))), forall_nil⟩) (fun x => ?_)
  obtain ⟨k, hk⟩ := x
  simp only
  by_cases h : (k : Int) < (l.length : Int)
  · have hka : k < l.length := by omega
    have w1 := w64s hka hml
    have i1 : (0 : Int) ≤ (k : Int) := by omega
    have hft := foldl_take hka
    have hom : OkM (grownM (l.take k)) := okGrown _ okM_nil (fun e he => hx e (List.mem_of_mem_take he))
    have hR := RPut_pure (grownM (l.take k)) (l.getD k default) hom (hx _ (getD_mem hka))
    have hW := put_wr (grownM (l.take k)) (l.getD k default) hom (hx _ (getD_mem hka))
    have hne : ((putM (grownM (l.take k)) (l.getD k default)).2 != (putM (grownM (l.take k)) (l.getD k default)).2) = false := by simp
    simp only [go_sem, List.map_cons, List.map_nil, egs, h, getD_eg hka, eg, i1]
    refine vCall_of (hR) ?_ ?_ ?_; (focus simp only [go_sem, egs, eg]); (focus simp only [go_sem, egs, eg])
    simp only [go_sem, egsc, egs, h, getD_eg hka, eg, i1]
    refine vCall_wr b hW ?_ ?_ ?_ ?_
    · simp only [go_sem]
    · simp only [go_sem, eg]
    · simp [upd]
    · simp only [go_sem, hne, w1]
      refine ⟨⟨k + 1, by omega⟩, by show l.length - (k + 1) < l.length - k; omega, ⟨⟨rfl, forall_cons rfl (forall_cons rfl (forall_cons ?_ (forall_cons ?_ forall_nil))), forall_nil, forall_nil⟩, forall_cons ?_ forall_nil, forall_nil⟩⟩
      · show _ = egs (grownM (l.take (k + 1)))
        unfold grownM
        rw [hft]
        rfl
      · rfl
      · show _ = some (mc (treeOf (grownM (l.take (k + 1)))))
        unfold grownM
        rw [hft]
        simp [upd]
  · obtain rfl : k = l.length := by omega
    have htl : l.take l.length = l := List.take_length
    simp only [go_sem, List.map_cons, List.map_nil, egs, h, htl, mc]
    exact ⟨_, rfl, by simp [PV.shut, PV.sealL, upd, grv, tr, egs]⟩
def edc (x : Eg × Int) : PV := .tup [eg x.1, .int .i64 x.2]
theorem edc_dids (x : Eg × Int) : (edc x).dids = [] := by simp only [edc, PV.dids, PV.didsL, eg_dids, List.append_nil]
theorem eg_default : eg default = .agg [.int .i64 0, .int .i64 0, .int .i64 0, .int .i64 0, .int .i64 0, .int .i64 0, .str [], .str [], .str [], .str [], .int .i64 0, .int .i64 0, .str [], .str [], .int .i64 0, .str [], .sl .no [], .int .i64 0, .sl .no [], .sl .no []] := rfl
def findTM (m : List Eg) (id : Tg) : Eg × Int := match findE m id with | some e => (e, 0) | none => (default, 6)
set_option maxRecDepth 20000 in
set_option maxHeartbeats 8000000 in
theorem TFind_pure (m : List Eg) (id : Tg) (hm : OkM m) : PL.Pure Tryz.prog 135 [tr (treeOf m), tg id] (edc (findTM m id)) := by
  have hidx := idx_tree m id
  unfold findTM
  cases hf : m.findIdx? (fun x => decide (id = x.id)) with
  | some i =>
    rw [hf] at hidx
    obtain ⟨h1, h2⟩ := findIdx_some hidx
    rw [find_tree] at h2
    cases hfe : findE m id with
    | none => rw [hfe] at h2; cases h2
    | some x =>
      rw [hfe] at h2
      simp only [Option.map_some, Option.some.injEq] at h2
      have hO := town_pure x (hm.l x (findE_id hfe).2)
      have hval : (nds (treeOf m)).getD i .any = nd (nodeOf m x) := by rw [getD_nd h1, h2]
      have hne := nodeOf_e m x
      refine PL.Pure.of_v Tryz.func135 (by decide) rfl Tryz.ntmps135 Tryz.results135 (by simp) (edc_dids _) ?_
      simp only [go_sem, tr, tg]
      refine vDrawQ (by kernel_rfl) (by kernel_rfl) ?_
      simp only [go_sem, findP_tags0, hidx, hval, nd, hne]
      refine vCall_of (hO) ?_ ?_ ?_; (focus simp only [go_sem, eg]); (focus simp only [go_sem, eg])
      simp only [go_sem, eg, edc]
  | none =>
    rw [hf] at hidx
    have h2 := findIdx_find.1 hidx
    rw [find_tree] at h2
    have hfe : findE m id = none := by
      cases hx : findE m id with
      | none => rfl
      | some x => rw [hx] at h2; cases h2
    rw [hfe]
    refine PL.Pure.of_v Tryz.func135 (by decide) rfl Tryz.ntmps135 Tryz.results135 (by simp) (edc_dids _) ?_
    simp only [go_sem, tr, tg]
    refine vDrawQ (by kernel_rfl) (by kernel_rfl) ?_
    simp only [go_sem, findP_tags0, hidx, edc, eg_default]
/-- what a tree says of a tag's schema -/
def schM (l : List Nd) (id : Tg) : List Fd × Int := if (atN l id).st = 2 then ((atN l id).sch, 0) else if (atN l id).st = 3 then ([], 16) else ([], 13)
set_option maxRecDepth 20000 in
set_option maxHeartbeats 8000000 in
theorem Schema_pure (m : List Eg) (id : Tg) (hm : OkM m) : PL.Pure Tryz.prog 15 [tr (treeOf m), tg id] (fldsc (schM (treeOf m) id)) := by
  have hA := at_pure (treeOf m) id
  obtain ⟨o1, o2, o3⟩ := okAtN hm.l (tree_semi m) id
  have hO := SOwn_pure (atN (treeOf m) id).sch (by have := o1.n; omega) o1.c
  unfold schM
  by_cases h2 : (atN (treeOf m) id).st = 2
  · have e2 : ((atN (treeOf m) id).st == 2) = true := by rw [h2]; rfl
    simp only [h2, if_true]
    refine PL.Pure.of_v Tryz.func15 (by decide) rfl Tryz.ntmps15 Tryz.results15 (by simp) (fldsc_dids _) ?_
    simp only [go_sem, tr, tg]
    refine vCall_of (hA) ?_ ?_ ?_; (focus simp only [go_sem, tr, tg]); (focus simp only [go_sem, tr, tg])
    simp only [go_sem, nd, e2]
    refine vCall_of (hO) ?_ ?_ ?_; (focus simp only [go_sem, flds]); (focus simp only [go_sem, flds])
    simp only [go_sem, flds, fldsc]
  · by_cases h3 : (atN (treeOf m) id).st = 3
    · have e2 : ((atN (treeOf m) id).st == 2) = false := by simpa using h2
      have e3 : ((atN (treeOf m) id).st == 3) = true := by rw [h3]; rfl
      simp only [h2, h3, if_true, if_false]
      refine PL.Pure.of_v Tryz.func15 (by decide) rfl Tryz.ntmps15 Tryz.results15 (by simp) (fldsc_dids _) ?_
      simp only [go_sem, tr, tg]
      refine vCall_of (hA) ?_ ?_ ?_; (focus simp only [go_sem, tr, tg]); (focus simp only [go_sem, tr, tg])
      simp only [go_sem, nd, e2, e3, fldsc, flds, List.map_nil]
    · have e2 : ((atN (treeOf m) id).st == 2) = false := by simpa using h2
      have e3 : ((atN (treeOf m) id).st == 3) = false := by simpa using h3
      simp only [h2, h3, if_false]
      refine PL.Pure.of_v Tryz.func15 (by decide) rfl Tryz.ntmps15 Tryz.results15 (by simp) (fldsc_dids _) ?_
      simp only [go_sem, tr, tg]
      refine vCall_of (hA) ?_ ?_ ?_; (focus simp only [go_sem, tr, tg]); (focus simp only [go_sem, tr, tg])
      simp only [go_sem, nd, e2, e3, fldsc, flds, List.map_nil]
def depM (l : List Nd) (id : Tg) : Int := if (atN l id).st = 2 then (atN l id).dep else -1
end Go.Proofs.YtcomkajmhlhphaaGreat

set_option linter.unusedSimpArgs false
set_option linter.unusedVariables false
set_option linter.unusedSimpArgs false
set_option linter.unusedVariables false
namespace Go.Proofs.YtcomkajmhlhphaaGreat
open Go.PL
theorem live1_pure (n : Nd) : PL.Pure Tryz.prog 39 [nd n] (.bool (n.st == 2)) := by
  refine PL.Pure.of_v Tryz.func39 (by decide) rfl Tryz.ntmps39 Tryz.results39 (by simp) rfl ?_
  simp only [go_sem, nd]
/-- the live ones of those seen, as they were seen -/
def liveT (l : List Nd) (s : List Nat) : List Tg := (s.filter fun i => (l.getD i default).st == 2).map fun i => (l.getD i default).e.id
structure TgS (l : List Nd) where
  s : List Nat
  d : s.Nodup
  h : ∀ i ∈ s, i < l.length
theorem TgS.len {l : List Nd} (x : TgS l) : x.s.length ≤ l.length := by
  have := nodup_le (m := List.range l.length) x.d (fun i hi => List.mem_range.2 (x.h i hi))
  simpa using this
def TgS.next {l : List Nd} (x : TgS l) (i : Nat) (hi : i < l.length) (hn : ¬ i ∈ x.s) : TgS l := ⟨x.s ++ [i], by
    rw [List.nodup_append]
    exact ⟨x.d, by simp, fun a ha b hb => by rw [List.mem_singleton.1 hb]; rintro rfl; exact hn ha⟩, fun j hj => by
    rcases List.mem_append.1 hj with h | h
    · exact x.h j h
    · rw [List.mem_singleton.1 h]; exact hi⟩
theorem liveT_snoc (l : List Nd) (s : List Nat) (i : Nat) : liveT l (s ++ [i]) = liveT l s ++ (if (l.getD i default).st = 2 then [(l.getD i default).e.id] else []) := by
  unfold liveT
  rw [List.filter_append, List.map_append]
  congr 1
  simp only [List.filter_cons, List.filter_nil]
  by_cases h : (l.getD i default).st = 2
  · rw [if_pos h, if_pos (by simpa using h)]; rfl
  · rw [if_neg h, if_neg (by simpa using h)]; rfl
theorem liveT_len (l : List Nd) (s : List Nat) : (liveT l s).length ≤ s.length := by
  unfold liveT
  rw [List.length_map]
  exact List.length_filter_le _ _
def TagsG (l : List Nd) (xs : List Tg) : Prop := ∃ x : TgS l, (∀ i, i < l.length → i ∈ x.s) ∧ xs = liveT l x.s
def flatTg : Flat Tg where
  p := tg
  v := fun t => [.int .i64 t.r, .int .i64 t.n]
  sz := 2
  pos := by decide
  hp := fun _ => rfl
  hv := fun _ => rfl
  to := fun S x j u hj h => by
    match j, hj with
    | 0, _ => cases h; rfl
    | 1, _ => cases h; rfl
  of := fun S x j hj => by
    match j, hj with
    | 0, _ => exact .int _ _
    | 1, _ => exact .int _ _
set_option maxRecDepth 20000 in
set_option maxHeartbeats 16000000 in
theorem tags_told (l : List Nd) (hl : l.length ≤ 1000) {c : Code} (hc : Tryz.f38.body = some c) : tawp Tryz.prog (fun s => ∃ xs, TagsG l xs ∧ s.n = 28 ∧ s.fr 5 = .sl (.row 24) (xs.map tg) ∧ s.m.q 24 = some (.live xs.length 2 24)) 3 c (St.init [tr l, .fn 39 []] 28) := by
  cases hc
  have hL := fun n => live1_pure n
  refine tawp_seq ?_
  simp only [go_sem]
  refine tawp_seq ?_
  simp only [go_sem]
  refine tawp_seq ?_
  simp only [go_sem, tr]
  intro ib b
  refine awp_nilRow 5 24 2 24 rfl rfl ?_
  refine vLoopO (ι := TgS l) 28 (fun x => [(1, .fn 39 []), (5, .sl (.row 24) ((liveT l x.s).map tg)), (12, .iptr ib)]) (fun x => []) (fun x => [(24, .live (liveT l x.s).length 2 24)]) (fun x => []) (fun x => [(ib, ⟨b, l.length, x.s, some ⟨kts l, nds l⟩⟩)]) (fun x => l.length - x.s.length) ⟨[], by simp, fun i hi => by cases hi⟩
    ⟨⟨rfl, (forall_cons rfl (forall_cons rfl (forall_cons rfl (forall_nil)))), forall_nil, forall_cons rfl forall_nil⟩, forall_nil, forall_cons (by simp [upd, kts_len, Hp.setq, St.with]) forall_nil⟩ (fun x => ⟨(forall_cons rfl (forall_cons rfl (forall_cons rfl (forall_nil)))), forall_nil⟩) (fun x => ?_)
  have hsl := x.len
  have hll := liveT_len l x.s
  simp only [go_sem, List.map_cons, List.map_nil, kts_len]
  refine ⟨fun hall => ?_, fun i hi hns => ?_⟩
  · exact ⟨_, ⟨x, fun i hi => hall i (by omega), rfl⟩, rfl, rfl, rfl⟩
  · have hrm := room1 (show (liveT l x.s).length + 1 ≤ 1000000 by omega) (show 16 ≤ 1000 by omega)
    by_cases h2 : (l.getD i default).st = 2
    · have e2 : ((l.getD i default).st == 2) = true := by rw [h2]; rfl
      have hT := liveT_snoc l x.s i
      rw [if_pos h2] at hT
      simp only [go_sem, last_snoc, getD_nd hi, getD_kt hi, hi, kts_len, tg, nd]
      refine vCall_of (hL (l.getD i default)) ?_ ?_ ?_; (focus simp only [go_sem, nd]); (focus simp only [go_sem, nd])
      simp only [go_sem, e2, hrm, sized_tg, List.length_map, last_snoc, getD_nd hi, getD_kt hi, hi, kts_len, tg, nd]
      refine ⟨x.next i hi hns, by have := (x.next i hi hns).len; show l.length - (x.s ++ [i]).length < l.length - x.s.length; simp [TgS.next] at *; omega, ⟨⟨rfl, (forall_cons rfl (forall_cons ?_ (forall_cons rfl forall_nil))), forall_nil, forall_cons ?_ forall_nil⟩, forall_nil, forall_cons (by simp [upd, TgS.next]) forall_nil⟩⟩
      · show PV.sl _ _ = PV.sl _ _
        simp only [TgS.next, hT, List.map_append]; rfl
      · simp [upd, Hp.setq, St.with, TgS.next, hT]
    · have e2 : ((l.getD i default).st == 2) = false := by simpa using h2
      have hT := liveT_snoc l x.s i
      rw [if_neg h2, List.append_nil] at hT
      simp only [go_sem, last_snoc, getD_nd hi, getD_kt hi, hi, kts_len, tg, nd]
      refine vCall_of (hL (l.getD i default)) ?_ ?_ ?_; (focus simp only [go_sem, nd]); (focus simp only [go_sem, nd])
      simp only [go_sem, e2, last_snoc, getD_nd hi, getD_kt hi, hi, kts_len, tg, nd]
      refine ⟨x.next i hi hns, by have := (x.next i hi hns).len; show l.length - (x.s ++ [i]).length < l.length - x.s.length; simp [TgS.next] at *; omega, ⟨⟨rfl, (forall_cons rfl (forall_cons ?_ (forall_cons rfl forall_nil))), forall_nil, forall_cons ?_ forall_nil⟩, forall_nil, forall_cons (by simp [upd, TgS.next]) forall_nil⟩⟩
      · show PV.sl _ _ = PV.sl _ _
        simp only [TgS.next, hT]
      · simp [upd, Hp.setq, St.with, TgS.next, hT]
end Go.Proofs.YtcomkajmhlhphaaGreat
