/- Contracts of functions and laws of this seat, each for every input that it names: lemmas of the proof. -/
import Derived.Test.YtmnibpgmcgdfpaaXBu
import Derived.Test.YtmnibpgmcgdfpaaPlJ
set_option linter.unusedSimpArgs false
set_option linter.unusedVariables false
set_option linter.unusedSimpArgs false
set_option linter.unusedVariables false
namespace Go.Proofs.Ytmnibpgmcgdfpaa
open Go.PL
structure Cg where
  kind : Int
  item : Str
  was : En
  now : En
  l : List En
deriving DecidableEq, Inhabited
def chg (c : Cg) : PV := .agg [.int .i64 c.kind, .str c.item, .int .i64 c.was.at'.sc, .str c.was.at'.gr, .str c.was.at'.nm, .int .i64 c.was.n, .sl .no (c.was.l.map .str), .int .i64 c.now.at'.sc, .str c.now.at'.gr, .str c.now.at'.nm, .int .i64 c.now.n, .sl .no (c.now.l.map .str), .sl .no (c.l.map ent)]
def chgs (l : List Cg) : PV := .sl .no (l.map chg)
structure FineC (c : Cg) : Prop where
  w : c.was.l.length ≤ maxLen
  n : c.now.l.length ≤ maxLen
  l : c.l.length ≤ maxLen
  e : ∀ e ∈ c.l, e.l.length ≤ maxLen
theorem getD_chg {l : List Cg} {i : Nat} (h : i < l.length) : (l.map chg).getD i .any = chg (l.getD i default) := getD_map h
set_option maxHeartbeats 4000000 in
theorem ROne_pure (e : En) : PL.Pure Try.prog 39 [ent e] (ents [e]) := by
  refine PL.Pure.of_v Try.func39 (by decide) rfl Try.ntmps39 Try.results39 (by simp) (ents_dids _) ?_
  simp only [go_sem, ent, ents]
set_option maxRecDepth 20000 in
set_option maxHeartbeats 16000000 in
theorem RSameC_pure (a b : Cg) (ha : FineC a) (hb : FineC b) : PL.Pure Try.prog 15 [chg a, chg b] (.bool (decide (a = b))) := by
  have h1 := ROne_pure a.was
  have h2 := ROne_pure b.was
  have h3 := ROne_pure a.now
  have h4 := ROne_pure b.now
  have one : (1 : Nat) ≤ maxLen := by rw [maxLen_eq]; omega
  have hS1 := SameEntries_pure [a.was] [b.was] one one (by simpa using ha.w) (by simpa using hb.w)
  have hS2 := SameEntries_pure [a.now] [b.now] one one (by simpa using ha.n) (by simpa using hb.n)
  have hS3 := SameEntries_pure a.l b.l ha.l hb.l ha.e hb.e
  have hf : decide (a = b) = (decide (a.kind = b.kind) && (decide (a.item = b.item) && (decide (a.was = b.was) && (decide (a.now = b.now) && decide (a.l = b.l))))) := by
    clear h1 h2 h3 h4 hS1 hS2 hS3 ha hb
    cases a; cases b
    simp only [Cg.mk.injEq]
    simp only [Bool.decide_and]
  rw [hf]
  have e1 : (a.kind == b.kind) = decide (a.kind = b.kind) := rfl
  have e2 : (a.item == b.item) = decide (a.item = b.item) := by rw [Bool.eq_iff_iff]; simp
  simp only [List.cons.injEq, and_true] at hS1 hS2
  refine PL.Pure.of_v Try.func15 (by decide) rfl Try.ntmps15 Try.results15 (by simp) rfl ?_
  simp only [go_sem, chg]
  refine vDrawQ (by kernel_rfl) (by kernel_rfl) ?_
  cases k1 : decide (a.kind = b.kind)
  · simp only [go_sem, chg, e1, k1, Bool.false_and]
  · cases k2 : decide (a.item = b.item)
    · simp only [go_sem, chg, e1, k1, e2, k2, Bool.false_and, Bool.and_false]
    · simp only [go_sem, chg, e1, k1, e2, k2]
      refine vCall_of (h1) ?_ ?_ ?_; (focus simp only [go_sem, ent]); (focus simp only [go_sem, ent])
      simp only [go_sem, chg]
      refine vCall_of (h2) ?_ ?_ ?_; (focus simp only [go_sem, ent]); (focus simp only [go_sem, ent])
      simp only [go_sem]
      refine vCall_of (hS1) ?_ ?_ ?_; (focus simp only [go_sem, ents]); (focus simp only [go_sem, ents])
      cases k3 : decide (a.was = b.was)
      · simp only [go_sem, chg, k3, Bool.false_and, Bool.and_false, Bool.true_and]
      · simp only [go_sem, chg, k3]
        refine vCall_of (h3) ?_ ?_ ?_; (focus simp only [go_sem, ent]); (focus simp only [go_sem, ent])
        simp only [go_sem, chg]
        refine vCall_of (h4) ?_ ?_ ?_; (focus simp only [go_sem, ent]); (focus simp only [go_sem, ent])
        simp only [go_sem]
        refine vCall_of (hS2) ?_ ?_ ?_; (focus simp only [go_sem, ents]); (focus simp only [go_sem, ents])
        cases k4 : decide (a.now = b.now)
        · simp only [go_sem, chg, k4, Bool.false_and, Bool.and_false, Bool.true_and]
        · simp only [go_sem, chg, k4]
          refine vCall_of (hS3) ?_ ?_ ?_; (focus simp only [go_sem, ents]); (focus simp only [go_sem, ents])
          simp only [go_sem, Bool.true_and]
set_option maxHeartbeats 8000000 in
theorem RSameAllC_pure (a b : List Cg) (ha : a.length ≤ maxLen) (hb : b.length ≤ maxLen) (oa : ∀ c ∈ a, FineC c) (ob : ∀ c ∈ b, FineC c) : PL.Pure Try.prog 12 [chgs a, chgs b] (.bool (decide (a = b))) := by
  by_cases hl : a.length = b.length
  · have hne : ((a.length : Int) != (b.length : Int)) = false := by simp [hl]
    refine PL.Pure.of_v Try.func12 (by decide) rfl Try.ntmps12 Try.results12 (by simp) rfl ?_
    simp only [go_sem, chgs, hne]
    refine vLoopM (ι := { x : Nat // x ≤ (a).length ∧ (∀ j, j < x → a.getD j default = b.getD j default) }) 27 (fun x => [(0, chgs a), (1, chgs b), (5, .int .i64 (x.1 : Int))]) (fun x => []) (fun x => []) (fun x => (a).length - x.1) ⟨0, Nat.zero_le _, fun j hj => absurd hj (Nat.not_lt_zero j)⟩ ⟨rfl, (forall_cons rfl (forall_cons rfl (forall_cons rfl forall_nil))), forall_nil, forall_nil⟩ (fun x => ⟨(forall_cons rfl (forall_cons rfl (forall_cons rfl forall_nil))), forall_nil⟩) (fun x => ?_); obtain ⟨k, hk, hI⟩ := x; simp only at hk hI ⊢
    by_cases h : (k : Int) < (a.length : Int)
    · (have hka : k < (a).length := by omega); (have w1 := w64s hka (ha)); (have i1 : (0 : Int) ≤ (k : Int) := by omega)
      have hkb : k < b.length := by omega
      have h' : (k : Int) < (b.length : Int) := by omega
      have hS := RSameC_pure (a.getD k default) (b.getD k default) (oa _ (getD_mem' hka)) (ob _ (getD_mem' hkb))
      by_cases he : a.getD k default = b.getD k default
      · rw [decide_eq_true he] at hS
        simp only [go_sem, chgs, h]
        refine vDrawQ (by kernel_rfl) (by kernel_rfl) ?_
        simp only [go_sem, getD_chg hka, getD_chg hkb, chg, i1, h, h']
        refine vCall_of (hS) ?_ ?_ ?_; (focus simp only [go_sem, chg]); (focus simp only [go_sem, chg])
        simp only [go_sem, w1]
        exact ⟨⟨k + 1, by (try simp only); omega, below_succ hI he⟩, by show (a).length - (k + 1) < (a).length - k; omega, ⟨rfl, (forall_cons rfl (forall_cons rfl (forall_cons rfl forall_nil))), forall_nil, forall_nil⟩⟩
      · rw [decide_eq_false he] at hS
        have hab : ¬ a = b := ne_of_getD he
        simp only [go_sem, chgs, h]
        refine vDrawQ (by kernel_rfl) (by kernel_rfl) ?_
        simp only [go_sem, getD_chg hka, getD_chg hkb, chg, i1, h, h']
        refine vCall_of (hS) ?_ ?_ ?_; (focus simp only [go_sem, chg]); (focus simp only [go_sem, chg])
        simp only [go_sem, hab]
    · have hab : decide (a = b) = true := decide_eq_true (eq_of_getD (d := default) hl fun j hj => hI j (by omega))
      simp only [go_sem, chgs, h, hab]
  · have hne : ((a.length : Int) != (b.length : Int)) = true := bne_iff_ne.2 (by omega)
    have hab : ¬ a = b := fun e => hl (by rw [e])
    refine PL.Pure.of_v Try.func12 (by decide) rfl Try.ntmps12 Try.results12 (by simp) rfl ?_
    simp only [go_sem, chgs, hne, hab]
end Go.Proofs.Ytmnibpgmcgdfpaa

set_option linter.unusedSimpArgs false
set_option linter.unusedVariables false
set_option linter.unusedSimpArgs false
set_option linter.unusedVariables false
namespace Go.Proofs.Ytmnibpgmcgdfpaa
open Go.PL
set_option maxRecDepth 20000 in
set_option maxHeartbeats 8000000 in
theorem DEqual_pure (a b : En) (ha : a.l.length ≤ maxLen) (hb : b.l.length ≤ maxLen) : PL.Pure Try.prog 43 [ent a, ent b] (.bool (decide (a = b))) := by
  have hE := EqStr_pure a.l b.l ha hb
  refine PL.Pure.of_v Try.func43 (by decide) rfl Try.ntmps43 Try.results43 (by simp) rfl ?_
  simp only [go_sem, ent, ref_fold, List.append_eq, List.cons_append]
  repeat' (first | (refine vGuard_t (fun h => ?_) (fun h => ?_) <;> (try simp only [go_sem, h, ref_fold])) | (refine vGuard_f (fun h => ?_) (fun h => ?_) <;> (try simp only [go_sem, h, ref_fold])) | (refine vCond_b (fun h => ?_) (fun h => ?_) <;> (try simp only [go_sem, h, ref_fold])) | ((refine vCall_of (hE) ?_ ?_ ?_); (focus simp only [go_sem, strs]); (focus exact rfl); (try simp only [go_sem, ref_fold])) | ((refine vDrawQ (by kernel_rfl) (by kernel_rfl) ?_); (try simp only [go_sem, ref_fold])))
  all_goals (clear hE ha hb; (cases a; cases b; simp_all) <;> rfl)
end Go.Proofs.Ytmnibpgmcgdfpaa

set_option linter.unusedSimpArgs false
set_option linter.unusedVariables false
set_option linter.unusedSimpArgs false
set_option linter.unusedVariables false
namespace Go.Proofs.Ytmnibpgmcgdfpaa
open Go.PL
end Go.Proofs.Ytmnibpgmcgdfpaa

set_option linter.unusedSimpArgs false
set_option linter.unusedVariables false
set_option linter.unusedSimpArgs false
set_option linter.unusedVariables false
namespace Go.Proofs.Ytmnibpgmcgdfpaa
open Go.PL
/-- the change that goes the other way -/
def flipC (c : Cg) : Cg := if c.kind = 1 then ⟨c.kind, c.item, c.now, c.was, c.l⟩ else if c.kind = 2 ∨ c.kind = 3 then ⟨5 - c.kind, c.item, c.was, c.now, c.l⟩ else c
def backC (l : List Cg) : List Cg := l.reverse.map flipC
theorem backC_len (l : List Cg) : (backC l).length = l.length := by simp [backC]
theorem backC_snoc (l : List Cg) {k : Nat} (h : k < l.length) : (backC l).take (k + 1) = (backC l).take k ++ [flipC (l.getD (l.length - 1 - k) default)] := by
  rw [take_snoc (d := default) (by rw [backC_len]; exact h)]
  congr 2
  rw [getD_lt (by rw [backC_len]; exact h), getD_lt (by omega)]
  simp [backC]
theorem sized_chg (l : List Cg) : Sized 13 (l.map chg) := fun e he => by
  obtain ⟨x, _, rfl⟩ := List.mem_map.1 he; rfl
theorem atoms_chg (l : List Cg) : Atoms (l.map chg) := fun e he => by
  obtain ⟨x, _, rfl⟩ := List.mem_map.1 he; rfl
theorem chg_dids (c : Cg) : (chg c).dids = [] := by simp only [chg, PV.dids, PV.didsL, didsL_str, didsL_ent, List.append_nil]
theorem didsL_chg (l : List Cg) : PV.didsL (l.map chg) = [] := by
  induction l with
  | nil => rfl
  | cons e l ih => rw [List.map_cons, PV.didsL, ih, chg_dids]; rfl
theorem chgs_dids (l : List Cg) : (chgs l).dids = [] := by simp only [chgs, PV.dids, didsL_chg]
set_option maxRecDepth 20000 in
set_option maxHeartbeats 16000000 in
theorem RBackC_pure (l : List Cg) (hl : l.length ≤ 100000) : PL.Pure Try.prog 13 [chgs l] (chgs (backC l)) := by
  have hol : l.length ≤ maxLen := by rw [maxLen_eq]; omega
  have w0 : IntKind.i64.wrap ((l.length : Int) - 1) = (l.length : Int) - 1 - ((0 : Nat) : Int) := by rw [w64 (by omega)]; omega
  refine PL.Pure.of_v Try.func13 (by decide) rfl Try.ntmps13 Try.results13 (by simp) (chgs_dids _) ?_
  simp only [go_sem, chgs, List.length_map, w0]
  refine awp_moveRow 3 6 48 0 13 30 [] rfl rfl rfl ?_
  refine vLoopM (ι := { x : Nat // x ≤ (l).length }) 50 (fun x => [(0, chgs l), (3, .sl (.row 48) (((backC l).take x.1).map chg)), (4, .int .i64 ((l.length : Int) - 1 - (x.1 : Int)))]) (fun x => []) (fun x => [(48, .live (((backC l).take x.1).length) (13) (30))]) (fun x => (l).length - x.1) ⟨0, Nat.zero_le _⟩ ⟨rfl, (forall_cons rfl (forall_cons rfl (forall_cons rfl forall_nil))), forall_nil, (forall_cons rfl forall_nil)⟩ (fun x => ⟨(forall_cons rfl (forall_cons (by simp [PV.ids, refInM]) (forall_cons rfl forall_nil))), forall_nil⟩) (fun x => ?_); obtain ⟨k, hk⟩ := x; simp only at hk ⊢
  by_cases h : (l.length : Int) - 1 - (k : Int) ≥ 0
  · have hka : k < l.length := by omega
    have hsn := backC_snoc l hka
    have hkb : l.length - 1 - k < l.length := by omega
    have hkk : ((l.length - 1 - k : Nat) : Int) = (l.length : Int) - 1 - (k : Int) := by omega
    have w1 : IntKind.i64.wrap ((l.length : Int) - 1 - (k : Int) - 1) = (l.length : Int) - 1 - ((k + 1 : Nat) : Int) := by rw [w64 (by omega)]; omega
    have i0 : (0 : Int) ≤ (l.length : Int) - 1 - (k : Int) := by omega
    have i2 : (l.length : Int) - 1 - (k : Int) < (l.length : Int) := by omega
    have hto : ((l.length : Int) - 1 - (k : Int)).toNat = l.length - 1 - k := by omega
    have hge := getD_chg hkb
    have hkl : ((backC l).take k).length ≤ 100000 := Nat.le_trans (List.length_take_le' _ _) (by rw [backC_len]; omega)
    have hrm := room1 (show ((backC l).take k).length + 1 ≤ 1000000 by omega) (show 192 ≤ 1000 by omega)
    have hml : (((backC l).take k).map chg).length = ((backC l).take k).length := List.length_map _
    have hsz := sized_chg ((backC l).take k)
    generalize hx : l.getD (l.length - 1 - k) default = x at *
    have hsx : Sized 13 [chg x] := sized_chg [x]
    have hax : Atoms [chg x] := atoms_chg [x]
    by_cases k1 : x.kind = 1
    · have e1 : (x.kind == 1) = true := by simpa using k1
      unfold flipC at hsn
      rw [if_pos k1] at hsn
      simp only [go_sem, chgs, h, List.length_map, hto, i0, i2, hge, chg, e1]
      have e2 : (x.kind == 2) = false := by simp [k1]
      have e3 : (x.kind == 3) = false := by simp [k1]
      simp only [go_sem, e2, e3, hml, hsz, hrm, sized_str, atoms_str, w1]
      exact ⟨⟨k + 1, by omega⟩, by show l.length - (k + 1) < l.length - k; omega, ⟨rfl, by simp only; rw [hsn, List.map_append]; exact (forall_cons rfl (forall_cons rfl (forall_cons rfl (forall_nil)))), forall_nil, by simp only; rw [hsn, List.length_append]; exact forall_cons rfl forall_nil⟩⟩
    · have e1 : (x.kind == 1) = false := by simpa using k1
      by_cases k2 : x.kind = 2
      · have e2 : (x.kind == 2) = true := by simpa using k2
        unfold flipC at hsn
        rw [if_neg k1, if_pos (.inl k2)] at hsn
        have w5 : IntKind.i64.wrap (5 - x.kind) = 5 - x.kind := w64 (by omega)
        simp only [go_sem, chgs, h, List.length_map, hto, i0, i2, hge, chg, e1, e2, w5, hml, hsz, hrm, sized_str, atoms_str, w1]
        exact ⟨⟨k + 1, by omega⟩, by show l.length - (k + 1) < l.length - k; omega, ⟨rfl, by simp only; rw [hsn, List.map_append]; exact (forall_cons rfl (forall_cons rfl (forall_cons rfl (forall_nil)))), forall_nil, by simp only; rw [hsn, List.length_append]; exact forall_cons rfl forall_nil⟩⟩
      · have e2 : (x.kind == 2) = false := by simpa using k2
        by_cases k3 : x.kind = 3
        · have e3 : (x.kind == 3) = true := by simpa using k3
          unfold flipC at hsn
          rw [if_neg k1, if_pos (.inr k3)] at hsn
          have w5 : IntKind.i64.wrap (5 - x.kind) = 5 - x.kind := w64 (by omega)
          simp only [go_sem, chgs, h, List.length_map, hto, i0, i2, hge, chg, e1, e2]
          simp only [go_sem, e3, w5, hml, hsz, hrm, sized_str, atoms_str, w1]
          exact ⟨⟨k + 1, by omega⟩, by show l.length - (k + 1) < l.length - k; omega, ⟨rfl, by simp only; rw [hsn, List.map_append]; exact (forall_cons rfl (forall_cons rfl (forall_cons rfl (forall_nil)))), forall_nil, by simp only; rw [hsn, List.length_append]; exact forall_cons rfl forall_nil⟩⟩
        · have e3 : (x.kind == 3) = false := by simpa using k3
          unfold flipC at hsn
          rw [if_neg k1, if_neg (fun h => h.elim k2 k3)] at hsn
          simp only [go_sem, chgs, h, List.length_map, hto, i0, i2, hge, chg, e1, e2]
          simp only [go_sem, e3, hml, hsz, hrm, sized_str, atoms_str, w1]
          exact ⟨⟨k + 1, by omega⟩, by show l.length - (k + 1) < l.length - k; omega, ⟨rfl, by simp only; rw [hsn, List.map_append]; exact (forall_cons rfl (forall_cons rfl (forall_cons rfl (forall_nil)))), forall_nil, by simp only; rw [hsn, List.length_append]; exact forall_cons rfl forall_nil⟩⟩
  · have htk : (backC l).take k = backC l := List.take_of_length_le (by rw [backC_len]; omega)
    simp only [go_sem, chgs, h, htk]
end Go.Proofs.Ytmnibpgmcgdfpaa

set_option linter.unusedSimpArgs false
set_option linter.unusedVariables false
set_option linter.unusedSimpArgs false
set_option linter.unusedVariables false
namespace Go.Proofs.Ytmnibpgmcgdfpaa
open Go.PL
set_option maxHeartbeats 4000000 in
theorem CloneStr_pure (l : List Str) (hl : l.length ≤ 1000000) : PL.Pure Try.prog 84 [strs l] (strs l) := by
  cases l with
  | nil =>
    refine PL.Pure.of_v Try.func84 (by decide) rfl Try.ntmps84 Try.results84 (by simp) (strs_dids _) ?_
    simp only [go_sem, strs, List.map_nil]
    intro b
    cases b
    · simp only [go_sem, strs, List.map_nil]
      exact room_small (by omega) (by omega)
    · simp only [go_sem, strs, List.map_nil]
  | cons x l =>
    have hr := room_small (show (x :: l).length ≤ 100000000000 by omega) (show 16 ≤ 1000 by omega)
    have hs := sized_str (x :: l)
    have ha := atoms_str (x :: l)
    simp only [List.map_cons] at hs ha
    refine PL.Pure.of_v Try.func84 (by decide) rfl Try.ntmps84 Try.results84 (by simp) (strs_dids _) ?_
    simp only [go_sem, strs, List.map_cons, hs, ha]
    exact hr
set_option maxHeartbeats 4000000 in
theorem DOwnE_pure (e : En) (he : e.l.length ≤ 1000000) : PL.Pure Try.prog 41 [ent e] (ent e) := by
  have hC := CloneStr_pure e.l he
  refine PL.Pure.of_v Try.func41 (by decide) rfl Try.ntmps41 Try.results41 (by simp) (ent_dids _) ?_
  simp only [go_sem, ent]
  refine vCall_of (hC) ?_ ?_ ?_; (focus simp only [go_sem, strs]); (focus simp only [go_sem, strs])
  simp only [go_sem, ent, strs]
end Go.Proofs.Ytmnibpgmcgdfpaa

set_option linter.unusedSimpArgs false
set_option linter.unusedVariables false
set_option linter.unusedSimpArgs false
set_option linter.unusedVariables false
namespace Go.Proofs.Ytmnibpgmcgdfpaa
open Go.PL
theorem ent_ids (e : En) : (ent e).ids = [] := by simp [ent, PV.ids, PV.idsL]
set_option maxRecDepth 20000 in
set_option maxHeartbeats 8000000 in
theorem CloneEnts_eff (x : En) (l : List En) (hl : (x :: l).length ≤ 100000) :
    Eff Try.prog 85 [ents (x :: l)] noV (.vsl 7 (x :: l).length 5) (vecN 7 (x :: l).length 5 27 ((x :: l).map ent)) := by
  have hcl : ∀ l : List En, ∀ p ∈ l.map ent, p.ids = [] := fun l => ids_mapV ent_ids l
  refine Eff.vn [5, 7] Try.func85 (by decide) rfl Try.ntmps85 Try.results85 (by simp) (hcl _) (by simp [PV.ids, ents]) (by simp [PV.ids]) ?_
  simp only [go_sem, ents, List.map_cons]
  have hm : ∀ p ∈ ent x :: l.map ent, ∃ y, p = ent y := fun p hp => by
    rcases List.mem_cons.1 hp with rfl | hp
    · exact ⟨x, rfl⟩
    · obtain ⟨y, _, rfl⟩ := List.mem_map.1 hp
      exact ⟨y, rfl⟩
  have hc : ∀ p ∈ ent x :: l.map ent, p.ids = [] := fun p hp => by obtain ⟨y, rfl⟩ := hm p hp; exact ent_ids y
  have hrm := room1 (show l.length + 1 ≤ 1000000 by simp only [List.length_cons] at hl; omega) (show 72 ≤ 1000 by omega)
  refine ⟨fun p hp => by obtain ⟨y, rfl⟩ := hm p hp; exact ⟨rfl, rfl⟩, hc, fun p hp => by rw [hc p hp]; simp, hrm, ?_⟩
  exact eret_vn (r0 := .vsl 7 _ 5) hc rfl (.keep _ (by intro i hi; simp [PV.ids] at hi; subst hi; exact ⟨_, List.mem_singleton.2 rfl, rfl⟩)) rfl rfl
theorem CloneEnts_nil : PL.Pure Try.prog 85 [ents []] (ents []) := by
  refine PL.Pure.of_v Try.func85 (by decide) rfl Try.ntmps85 Try.results85 (by simp) (ents_dids _) ?_
  simp only [go_sem, ents, List.map_nil]
  intro b
  cases b
  · simp only [go_sem, ents, List.map_nil]
    exact room_small (by omega) (by omega)
  · simp only [go_sem, ents, List.map_nil]
set_option maxRecDepth 20000 in
set_option maxHeartbeats 16000000 in
theorem Owns_pure (l : List En) (hl : l.length ≤ 100000) (hl' : ∀ e ∈ l, e.l.length ≤ 1000000) : PL.Pure Try.prog 42 [ents l] (ents l) := by
  have hcl : ∀ l : List En, ∀ p ∈ l.map ent, p.ids = [] := fun l => ids_mapV ent_ids l
  cases l with
  | nil =>
    have hC := CloneEnts_nil
    simp only [ents, List.map_nil] at hC
    refine PL.Pure.of_v Try.func42 (by decide) rfl Try.ntmps42 Try.results42 (by simp) (ents_dids _) ?_
    simp only [go_sem, ents, List.map_nil]
    refine vCall_of (hC) ?_ ?_ ?_; (focus simp only [go_sem]); (focus simp only [go_sem])
    simp only [go_sem, ents, List.map_nil]
    refine vLoopM (ι := { x : Nat // x ≤ (([] : List En)).length }) 21 (fun x => [(0, .sl .no []), (7, .sl .no []), (8, .int .i64 0), (9, .int .i64 (x.1 : Int))]) (fun x => []) (fun x => []) (fun x => (([] : List En)).length - x.1) ⟨0, Nat.zero_le _⟩ ⟨rfl, (forall_cons rfl (forall_cons rfl (forall_cons rfl (forall_cons rfl forall_nil)))), forall_nil, forall_nil⟩ (fun x => ⟨(forall_cons rfl (forall_cons rfl (forall_cons rfl (forall_cons rfl forall_nil)))), forall_nil⟩) (fun x => ?_); obtain ⟨k, hk⟩ := x; simp only at hk ⊢
    have h0 : ¬ (k : Int) < 0 := by omega
    simp only [go_sem, h0]
    simp only [ents, List.map_nil]
  | cons x l0 =>
    have hC := CloneEnts_eff x l0 hl
    generalize hA : x :: l0 = A at *
    refine PL.Pure.of_p [] Try.func42 (by decide) rfl Try.ntmps42 Try.results42 (by simp) (ents_dids _) ?_
    simp only [go_sem, ents]
    refine vCall_vn 6 hC (hcl _) (by simp [PV.ids, ents]) rfl (by simp only [go_sem, ents]) ?_
    simp only [go_sem, PV.ren, id]
    refine vLoopX (ι := { k : Nat // k ≤ A.length }) 21 (fun x => [(0, .vsl 6 A.length 5), (7, .vsl 6 A.length 5), (8, .int .i64 (A.length : Int)), (9, .int .i64 (x.1 : Int))]) (fun _ => []) (fun _ => [(6, .vec A.length 5 27)]) (fun _ => []) (fun _ => []) (fun _ => [(6, A.map ent)]) (fun _ => []) [] [] [] (fun x => A.length - x.1) ⟨0, Nat.zero_le _⟩
      (hasX_v1 rfl (forall_cons rfl (forall_cons rfl (forall_cons rfl (forall_cons rfl (forall_nil))))) rfl rfl) (fun x => wholeX_v1 (by simp [PV.ids, PV.idsL, refInM]) (idsL_mapV ent_ids _)) (fun x => ?_)
    obtain ⟨k, hk⟩ := x
    simp only
    by_cases h : (k : Int) < (A.length : Int)
    · have hka : k < A.length := by omega
      have i0 : (0 : Int) ≤ (k : Int) := by omega
      have w1 : IntKind.i64.wrap ((k : Int) + 1) = ((k + 1 : Nat) : Int) := by rw [w64 (by omega)]; rfl
      have hO := DOwnE_pure (A.getD k default) (hl' _ (getD_mem' hka))
      have hset : (A.map ent).set k (ent (A.getD k default)) = A.map ent := by
        rw [set_mapV]
        congr 1
        rw [getD_lt hka]
        exact List.set_getElem_self hka
      simp only [ent] at hset
      simp only [go_sem, h, i0, List.length_map, getD_ent' hka, ent]
      refine vCall_of (hO) ?_ ?_ ?_; (focus simp only [go_sem, ent]); (focus simp only [go_sem, ent])
      simp only [go_sem, h, i0, List.length_map, getD_ent' hka, ent, hset, w1]
      exact ⟨⟨k + 1, by omega⟩, by show A.length - (k + 1) < A.length - k; omega, hasX_v1 rfl (forall_cons rfl (forall_cons rfl (forall_cons rfl (forall_cons rfl (forall_nil))))) rfl rfl⟩
    · simp only [go_sem, h]
      exact ⟨_, rfl, Pub.vec0 (by simp) rfl (List.length_map _) (hcl _)⟩
end Go.Proofs.Ytmnibpgmcgdfpaa

set_option linter.unusedSimpArgs false
set_option linter.unusedVariables false
set_option linter.unusedSimpArgs false
set_option linter.unusedVariables false
namespace Go.Proofs.Ytmnibpgmcgdfpaa
open Go.PL
/-- what is another, entry by entry -/
def othersL (it : Str) (a b : List En) : List Cg := ((List.range a.length).filter fun i => !decide (a.getD i default = b.getD i default)).map fun i => ⟨1, it, a.getD i default, b.getD i default, []⟩
def othersK (it : Str) (a b : List En) (k : Nat) : List Cg := ((List.range k).filter fun i => !decide (a.getD i default = b.getD i default)).map fun i => ⟨1, it, a.getD i default, b.getD i default, []⟩
theorem othersK_snoc (it : Str) (a b : List En) (k : Nat) : othersK it a b (k + 1) = othersK it a b k ++ (if a.getD k default = b.getD k default then [] else [⟨1, it, a.getD k default, b.getD k default, []⟩]) := by
  unfold othersK
  rw [List.range_succ, List.filter_append, List.map_append]
  congr 1
  by_cases h : a.getD k default = b.getD k default
  · rw [if_pos h, List.filter_cons_of_neg (by rw [decide_eq_true h]; simp)]; rfl
  · rw [if_neg h, List.filter_cons_of_pos (by rw [decide_eq_false h]; rfl)]; rfl
theorem othersK_len (it : Str) (a b : List En) (k : Nat) : (othersK it a b k).length ≤ k := by
  unfold othersK
  rw [List.length_map]
  exact Nat.le_trans (List.length_filter_le _ _) (by simp)
set_option maxRecDepth 20000 in
set_option maxHeartbeats 16000000 in
theorem others_pure (it : Str) (a b : List En) (hl : a.length ≤ 100000) (hlb : a.length ≤ b.length) (ha' : ∀ e ∈ a, e.l.length ≤ 1000000) (hb' : ∀ e ∈ b, e.l.length ≤ 1000000) : PL.Pure Try.prog 48 [.str it, ents a, ents b] (chgs (othersL it a b)) := by
  have hol : a.length ≤ maxLen := by rw [maxLen_eq]; omega
  have hK : othersL it a b = othersK it a b a.length := rfl
  rw [hK]
  refine PL.Pure.of_v Try.func48 (by decide) rfl Try.ntmps48 Try.results48 (by simp) (chgs_dids _) ?_
  simp only [go_sem, ents, List.length_map]
  refine awp_nilRow 7 35 13 30 rfl rfl ?_
  refine vLoopM (ι := { x : Nat // x ≤ (a).length }) 38 (fun x => [(0, .str it), (2, ents b), (7, .sl (.row 35) ((othersK it a b x.1).map chg)), (10, ents a), (11, .int .i64 (a.length : Int)), (12, .int .i64 (x.1 : Int))]) (fun x => []) (fun x => [(35, .live ((othersK it a b x.1).length) (13) (30))]) (fun x => (a).length - x.1) ⟨0, Nat.zero_le _⟩ ⟨rfl, (forall_cons rfl (forall_cons rfl (forall_cons rfl (forall_cons rfl (forall_cons rfl (forall_cons rfl forall_nil)))))), forall_nil, (forall_cons rfl forall_nil)⟩ (fun x => ⟨(forall_cons rfl (forall_cons rfl (forall_cons (by simp [PV.ids, refInM]) (forall_cons rfl (forall_cons rfl (forall_cons rfl forall_nil)))))), forall_nil⟩) (fun x => ?_); obtain ⟨k, hk⟩ := x; simp only at hk ⊢
  by_cases h : (k : Int) < (a.length : Int)
  · (have hka : k < (a).length := by omega); (have w1 := w64s hka (hol)); (have i1 : (0 : Int) ≤ (k : Int) := by omega)
    have hkb : k < b.length := by omega
    have h' : (k : Int) < (b.length : Int) := by omega
    have hsn := othersK_snoc it a b k
    have hkl := othersK_len it a b k
    have hE := DEqual_pure (a.getD k default) (b.getD k default) (by have := ha' _ (getD_mem' (d := default) hka); rw [maxLen_eq]; omega) (by have := hb' _ (getD_mem' (d := default) hkb); rw [maxLen_eq]; omega)
    have hO1 := DOwnE_pure (a.getD k default) (ha' _ (getD_mem' hka))
    have hO2 := DOwnE_pure (b.getD k default) (hb' _ (getD_mem' hkb))
    have hml : ((othersK it a b k).map chg).length = (othersK it a b k).length := List.length_map _
    have hsz := sized_chg (othersK it a b k)
    have hrm := room1 (show (othersK it a b k).length + 1 ≤ 1000000 by omega) (show 192 ≤ 1000 by omega)
    by_cases he : a.getD k default = b.getD k default
    · rw [decide_eq_true he] at hE
      rw [if_pos he, List.append_nil] at hsn
      simp only [go_sem, ents, h, List.length_map, getD_ent' hka, getD_ent' hkb, ent, i1, h']
      refine vDrawQ (by kernel_rfl) (by kernel_rfl) ?_
      simp only [go_sem, ents, h, List.length_map, getD_ent' hka, getD_ent' hkb, ent, i1, h']
      refine vCall_of (hE) ?_ ?_ ?_; (focus simp only [go_sem, ent]); (focus simp only [go_sem, ent])
      simp only [go_sem, w1]
      exact ⟨⟨k + 1, by omega⟩, by show a.length - (k + 1) < a.length - k; omega, ⟨rfl, by simp only; rw [hsn]; exact (forall_cons rfl (forall_cons rfl (forall_cons rfl (forall_cons rfl (forall_cons rfl (forall_cons rfl (forall_nil))))))), forall_nil, by simp only; rw [hsn]; exact forall_cons rfl forall_nil⟩⟩
    · rw [decide_eq_false he] at hE
      rw [if_neg he] at hsn
      simp only [go_sem, ents, h, List.length_map, getD_ent' hka, getD_ent' hkb, ent, i1, h']
      refine vDrawQ (by kernel_rfl) (by kernel_rfl) ?_
      simp only [go_sem, ents, h, List.length_map, getD_ent' hka, getD_ent' hkb, ent, i1, h']
      refine vCall_of (hE) ?_ ?_ ?_; (focus simp only [go_sem, ent]); (focus simp only [go_sem, ent])
      simp only [go_sem]
      refine vDrawQ (by kernel_rfl) (by kernel_rfl) ?_
      simp only [go_sem, ents, h, List.length_map, getD_ent' hka, getD_ent' hkb, ent, i1, h']
      refine vCall_of (hO1) ?_ ?_ ?_; (focus simp only [go_sem, ent]); (focus simp only [go_sem, ent])
      simp only [go_sem, ents, h, List.length_map, getD_ent' hka, getD_ent' hkb, ent, i1, h']
      refine vCall_of (hO2) ?_ ?_ ?_; (focus simp only [go_sem, ent]); (focus simp only [go_sem, ent])
      simp only [go_sem, ent, hml, hsz, hrm, sized_str, atoms_str, w1]
      exact ⟨⟨k + 1, by omega⟩, by show a.length - (k + 1) < a.length - k; omega, ⟨rfl, by simp only; rw [hsn, List.map_append]; exact (forall_cons rfl (forall_cons rfl (forall_cons rfl (forall_cons rfl (forall_cons rfl (forall_cons rfl (forall_nil))))))), forall_nil, by simp only; rw [hsn, List.length_append]; exact forall_cons rfl forall_nil⟩⟩
  · obtain rfl : k = a.length := by omega
    simp only [go_sem, chgs, h]
end Go.Proofs.Ytmnibpgmcgdfpaa

set_option linter.unusedSimpArgs false
set_option linter.unusedVariables false
set_option linter.unusedSimpArgs false
set_option linter.unusedVariables false
namespace Go.Proofs.Ytmnibpgmcgdfpaa
open Go.PL
set_option maxRecDepth 20000 in
set_option maxHeartbeats 16000000 in
theorem others_eff (it : Str) (a b : List En) (hl : a.length ≤ 100000) (hlb : a.length ≤ b.length) (ha' : ∀ e ∈ a, e.l.length ≤ 1000000) (hb' : ∀ e ∈ b, e.l.length ≤ 1000000) : Eff Try.prog 48 [.str it, ents a, ents b] noV (.sl (.row 35) ((othersL it a b).map chg)) (rowN 35 (othersL it a b).length 13 30) := by
  have hol : a.length ≤ maxLen := by rw [maxLen_eq]; omega
  have hK : othersL it a b = othersK it a b a.length := rfl
  rw [hK]
  refine Eff.rn [] Try.func48 (by decide) rfl Try.ntmps48 Try.results48 (by simp) (by simp [PV.ids, ents]) (by simp [PV.ids]) ?_
  simp only [go_sem, ents, List.length_map]
  refine awp_nilRow 7 35 13 30 rfl rfl ?_
  refine vLoopM (ι := { x : Nat // x ≤ (a).length }) 38 (fun x => [(0, .str it), (2, ents b), (7, .sl (.row 35) ((othersK it a b x.1).map chg)), (10, ents a), (11, .int .i64 (a.length : Int)), (12, .int .i64 (x.1 : Int))]) (fun x => []) (fun x => [(35, .live ((othersK it a b x.1).length) (13) (30))]) (fun x => (a).length - x.1) ⟨0, Nat.zero_le _⟩ ⟨rfl, (forall_cons rfl (forall_cons rfl (forall_cons rfl (forall_cons rfl (forall_cons rfl (forall_cons rfl forall_nil)))))), forall_nil, (forall_cons rfl forall_nil)⟩ (fun x => ⟨(forall_cons rfl (forall_cons rfl (forall_cons (by simp [PV.ids, refInM]) (forall_cons rfl (forall_cons rfl (forall_cons rfl forall_nil)))))), forall_nil⟩) (fun x => ?_); obtain ⟨k, hk⟩ := x; simp only at hk ⊢
  by_cases h : (k : Int) < (a.length : Int)
  · (have hka : k < (a).length := by omega); (have w1 := w64s hka (hol)); (have i1 : (0 : Int) ≤ (k : Int) := by omega)
    have hkb : k < b.length := by omega
    have h' : (k : Int) < (b.length : Int) := by omega
    have hsn := othersK_snoc it a b k
    have hkl := othersK_len it a b k
    have hE := DEqual_pure (a.getD k default) (b.getD k default) (by have := ha' _ (getD_mem' (d := default) hka); rw [maxLen_eq]; omega) (by have := hb' _ (getD_mem' (d := default) hkb); rw [maxLen_eq]; omega)
    have hO1 := DOwnE_pure (a.getD k default) (ha' _ (getD_mem' hka))
    have hO2 := DOwnE_pure (b.getD k default) (hb' _ (getD_mem' hkb))
    have hml : ((othersK it a b k).map chg).length = (othersK it a b k).length := List.length_map _
    have hsz := sized_chg (othersK it a b k)
    have hrm := room1 (show (othersK it a b k).length + 1 ≤ 1000000 by omega) (show 192 ≤ 1000 by omega)
    by_cases he : a.getD k default = b.getD k default
    · rw [decide_eq_true he] at hE
      rw [if_pos he, List.append_nil] at hsn
      simp only [go_sem, ents, h, List.length_map, getD_ent' hka, getD_ent' hkb, ent, i1, h']
      refine vDrawQ (by kernel_rfl) (by kernel_rfl) ?_
      simp only [go_sem, ents, h, List.length_map, getD_ent' hka, getD_ent' hkb, ent, i1, h']
      refine vCall_of (hE) ?_ ?_ ?_; (focus simp only [go_sem, ent]); (focus simp only [go_sem, ent])
      simp only [go_sem, w1]
      exact ⟨⟨k + 1, by omega⟩, by show a.length - (k + 1) < a.length - k; omega, ⟨rfl, by simp only; rw [hsn]; exact (forall_cons rfl (forall_cons rfl (forall_cons rfl (forall_cons rfl (forall_cons rfl (forall_cons rfl (forall_nil))))))), forall_nil, by simp only; rw [hsn]; exact forall_cons rfl forall_nil⟩⟩
    · rw [decide_eq_false he] at hE
      rw [if_neg he] at hsn
      simp only [go_sem, ents, h, List.length_map, getD_ent' hka, getD_ent' hkb, ent, i1, h']
      refine vDrawQ (by kernel_rfl) (by kernel_rfl) ?_
      simp only [go_sem, ents, h, List.length_map, getD_ent' hka, getD_ent' hkb, ent, i1, h']
      refine vCall_of (hE) ?_ ?_ ?_; (focus simp only [go_sem, ent]); (focus simp only [go_sem, ent])
      simp only [go_sem]
      refine vDrawQ (by kernel_rfl) (by kernel_rfl) ?_
      simp only [go_sem, ents, h, List.length_map, getD_ent' hka, getD_ent' hkb, ent, i1, h']
      refine vCall_of (hO1) ?_ ?_ ?_; (focus simp only [go_sem, ent]); (focus simp only [go_sem, ent])
      simp only [go_sem, ents, h, List.length_map, getD_ent' hka, getD_ent' hkb, ent, i1, h']
      refine vCall_of (hO2) ?_ ?_ ?_; (focus simp only [go_sem, ent]); (focus simp only [go_sem, ent])
      simp only [go_sem, ent, hml, hsz, hrm, sized_str, atoms_str, w1]
      exact ⟨⟨k + 1, by omega⟩, by show a.length - (k + 1) < a.length - k; omega, ⟨rfl, by simp only; rw [hsn, List.map_append]; exact (forall_cons rfl (forall_cons rfl (forall_cons rfl (forall_cons rfl (forall_cons rfl (forall_cons rfl (forall_nil))))))), forall_nil, by simp only; rw [hsn, List.length_append]; exact forall_cons rfl forall_nil⟩⟩
  · obtain rfl : k = a.length := by omega
    simp only [go_sem, chgs, h]
    exact eret_rn (r0 := .sl (.row 35) _) rfl (.keep _ (by intro i hi; simp [PV.ids] at hi; subst hi; exact ⟨_, List.mem_singleton.2 rfl, rfl⟩)) rfl
end Go.Proofs.Ytmnibpgmcgdfpaa

set_option linter.unusedSimpArgs false
set_option linter.unusedVariables false
set_option linter.unusedSimpArgs false
set_option linter.unusedVariables false
namespace Go.Proofs.Ytmnibpgmcgdfpaa
open Go.PL
set_option maxHeartbeats 4000000 in
theorem RValue23_pure (f : Fd) : PL.Pure Try.prog 103 [fld f] (ent (valueM f)) := by
  by_cases h1 : f.kind = 1
  · have k1 : (f.kind == 1) = true := by rw [h1]; rfl
    refine PL.Pure.of_v Try.func103 (by decide) rfl Try.ntmps103 Try.results103 (by simp) (ent_dids _) ?_
    simp only [go_sem, fld, k1, valueM, ent, h1, true_or, if_true, List.map_nil]
  · have k1 : (f.kind == 1) = false := beq_eq_false_iff_ne.2 h1
    by_cases h4 : f.kind = 4
    · have k4 : (f.kind == 4) = true := by rw [h4]; rfl
      refine PL.Pure.of_v Try.func103 (by decide) rfl Try.ntmps103 Try.results103 (by simp) (ent_dids _) ?_
      simp only [go_sem, fld, k1, k4, valueM, ent, h4, or_true, if_true, List.map_nil]
    · have k4 : (f.kind == 4) = false := beq_eq_false_iff_ne.2 h4
      refine PL.Pure.of_v Try.func103 (by decide) rfl Try.ntmps103 Try.results103 (by simp) (ent_dids _) ?_
      simp only [go_sem, fld, k1, k4, valueM, ent, h1, h4, or_self, if_false, List.map_cons, List.map_nil]
set_option maxRecDepth 20000 in
set_option maxHeartbeats 8000000 in
theorem Rblank_pure (l : List Fd) (hl : l.length ≤ 100000) : PL.Pure Try.prog 70 [flds l] (ents (l.map valueM)) := by
  have hm : l.length ≤ maxLen := by rw [maxLen_eq]; omega
  refine PL.Pure.of_v Try.func70 (by decide) rfl Try.ntmps70 Try.results70 (by simp) (ents_dids _) ?_
  simp only [go_sem, flds]
  refine awp_moveRow 3 5 19 0 5 27 [] rfl rfl rfl ?_
  refine vLoopM (ι := { x : Nat // x ≤ (l).length }) 21 (fun x => [(0, flds l), (3, .sl (.row 19) (((l.take x.1).map valueM).map ent)), (4, .int .i64 (x.1 : Int))]) (fun x => []) (fun x => [(19, .live ((l.take x.1).length) (5) (27))]) (fun x => (l).length - x.1) ⟨0, Nat.zero_le _⟩ ⟨rfl, (forall_cons rfl (forall_cons rfl (forall_cons rfl forall_nil))), forall_nil, (forall_cons rfl forall_nil)⟩ (fun x => ⟨(forall_cons rfl (forall_cons (by simp [PV.ids, refInM]) (forall_cons rfl forall_nil))), forall_nil⟩) (fun x => ?_); obtain ⟨k, hk⟩ := x; simp only at hk ⊢
  by_cases h : (k : Int) < (l.length : Int)
  · (have hka : k < (l).length := by omega); (have w1 := w64s hka (hm)); (have i1 : (0 : Int) ≤ (k : Int) := by omega)
    have hV := RValue23_pure (l.getD k default)
    have hml : (((l.take k).map valueM).map ent).length = (l.take k).length := by simp
    have hkl : (l.take k).length ≤ k := List.length_take_le _ _
    have hrm := room1 (show (l.take k).length + 1 ≤ 1000000 by omega) (show 72 ≤ 1000 by omega)
    have htl : (l.take (k + 1)).length = (l.take k).length + 1 := by simp; omega
    have hsz : Sized 5 (((l.take k).map valueM).map ent) := sized_ent _
    have hsn : (l.take (k + 1)).map valueM = (l.take k).map valueM ++ [valueM (l.getD k default)] := by rw [take_snoc (d := default) hka, List.map_append]; rfl
    generalize hx : l.getD k default = x at *
    generalize hv : valueM x = v at *
    simp only [go_sem, flds, h, List.length_map, getD_fld hka, hx, fld, i1]
    refine vCall_of (hV) ?_ ?_ ?_; (focus simp only [go_sem, fld]); (focus simp only [go_sem, fld])
    simp only [go_sem, ent, sized_ent, sized_ent1, atoms_ent1, hml, hrm, w1]
    exact ⟨⟨k + 1, by omega⟩, by show l.length - (k + 1) < l.length - k; omega, ⟨rfl, by simp only; rw [hsn, List.map_append]; exact (forall_cons rfl (forall_cons rfl (forall_cons rfl (forall_nil)))), forall_nil, by simp only; rw [htl]; exact forall_cons rfl forall_nil⟩⟩
  · have htk : l.take k = l := List.take_of_length_le (by omega)
    simp only [go_sem, flds, h, htk, List.length_map, ents]
theorem RBlank_pure (l : List Fd) (hl : l.length ≤ 100000) : PL.Pure Try.prog 38 [flds l] (doc ⟨(scopeM l 0).map valueM, []⟩) := by
  have hS := RScope_pure l 0 (by omega)
  have hB := Rblank_pure (scopeM l 0) (Nat.le_trans (List.length_filter_le _ _) hl)
  refine PL.Pure.of_v Try.func38 (by decide) rfl Try.ntmps38 Try.results38 (by simp) (doc_dids _) ?_
  simp only [go_sem, flds]
  refine vCall_of (hS) ?_ ?_ ?_; (focus simp only [go_sem, flds]); (focus simp only [go_sem, flds])
  simp only [go_sem]
  refine vCall_of (hB) ?_ ?_ ?_; (focus simp only [go_sem, flds]); (focus simp only [go_sem, flds])
  simp only [go_sem, ents, doc, List.map_nil]
end Go.Proofs.Ytmnibpgmcgdfpaa

set_option linter.unusedSimpArgs false
set_option linter.unusedVariables false
set_option linter.unusedSimpArgs false
set_option linter.unusedVariables false
namespace Go.Proofs.Ytmnibpgmcgdfpaa
open Go.PL
theorem docI_dids (d : Dc) (n : Int) : (PV.tup [doc d, .int .i64 n]).dids = [] := by simp only [PV.dids, PV.didsL, doc_dids, List.append_nil]
set_option maxRecDepth 20000 in
set_option maxHeartbeats 16000000 in
/-- a row into a document that has none -/
theorem RRow0_pure (l : List Fd) (hd : List En) (it : Str) (hl : l.length ≤ 100000) (hl' : ∀ f ∈ l, f.cases'.length ≤ maxLen) (hf : Fine ⟨hd, []⟩) (hr : rightD l ⟨hd, []⟩ = true) (hn : nameB it = true) :
    PL.Pure Try.prog 30 [flds l, doc ⟨hd, []⟩, .str it] (.tup [doc ⟨hd, [⟨it, (scopeM l 1).map valueM⟩]⟩, .int .i64 0]) := by
  have hR := RRightD_pure l ⟨hd, []⟩ (by rw [maxLen_eq]; omega) hl' hf
  rw [hr] at hR
  have hN := RName_pure it
  rw [hn] at hN
  have hA := RowAt_pure ⟨hd, []⟩ it (Nat.zero_le _)
  have hA0 : idx (fun r : Rw => r.item == it) [] = -1 := rfl
  simp only [hA0] at hA
  have hS := RScope_pure l 1 (by omega)
  have hB := Rblank_pure (scopeM l 1) (Nat.le_trans (List.length_filter_le _ _) hl)
  generalize (scopeM l 1).map valueM = es at *
  have hsr : Sized 2 [row ⟨it, es⟩] := sized_row [⟨it, es⟩]
  have har : Atoms [row ⟨it, es⟩] := atoms_row [⟨it, es⟩]
  have hrm := room1 (show 0 + 1 ≤ 1000000 by omega) (show 40 ≤ 1000 by omega)
  refine PL.Pure.of_v Try.func30 (by decide) rfl Try.ntmps30 Try.results30 (by simp) (docI_dids _ _) ?_
  simp only [go_sem, flds, doc, List.map_nil]
  refine vCall_of (hR) ?_ ?_ ?_; (focus simp only [go_sem, flds, doc, List.map_nil]); (focus simp only [go_sem, flds, doc, List.map_nil])
  simp only [go_sem]
  refine vCall_of (hN) ?_ ?_ ?_; (focus simp only [go_sem]); (focus simp only [go_sem])
  simp only [go_sem]
  refine vCall_of (hA) ?_ ?_ ?_; (focus simp only [go_sem, doc, List.map_nil]); (focus simp only [go_sem, doc, List.map_nil])
  simp only [go_sem, flds, doc, List.map_nil]
  refine vLoopM (ι := { x : Nat // x ≤ (([] : List En)).length }) 81 (fun x => [(0, flds l), (2, .str it), (4, .ptr 4 0), (6, .ptr 6 0), (8, .sl (.row 31) []), (9, .bool false), (10, .int .i64 (x.1 : Int))]) (fun x => [(4, [.sl .no (hd.map ent), .sl .no []], false), (6, [.sl .nil [], .sl .nil []], false)]) (fun x => [(31, .live (0) (2) (53))]) (fun x => (([] : List En)).length - x.1) ⟨0, Nat.zero_le _⟩ ⟨rfl, (forall_cons rfl (forall_cons rfl (forall_cons rfl (forall_cons rfl (forall_cons rfl (forall_cons rfl (forall_cons rfl forall_nil))))))), (forall_cons ⟨rfl, rfl⟩ (forall_cons ⟨rfl, rfl⟩ forall_nil)), (forall_cons rfl forall_nil)⟩ (fun x => ⟨(forall_cons rfl (forall_cons rfl (forall_cons rfl (forall_cons rfl (forall_cons (by simp [PV.ids, refInM]) (forall_cons rfl (forall_cons rfl forall_nil))))))), (forall_cons rfl (forall_cons rfl forall_nil))⟩) (fun x => ?_); obtain ⟨k, hk⟩ := x; simp only at hk ⊢
  have h0 : ¬ (k : Int) < 0 := by omega
  simp only [go_sem, h0, flds]
  refine vCall_of (hS) ?_ ?_ ?_; (focus simp only [go_sem, flds]); (focus simp only [go_sem, flds])
  simp only [go_sem]
  refine vCall_of (hB) ?_ ?_ ?_; (focus simp only [go_sem, flds]); (focus simp only [go_sem, flds])
  simp only [row] at hsr har
  simp only [go_sem, ents, hsr, har, hrm, List.length_nil]
  simp only [doc, row, List.map_cons, List.map_nil]
end Go.Proofs.Ytmnibpgmcgdfpaa

set_option linter.unusedSimpArgs false
set_option linter.unusedVariables false
set_option linter.unusedSimpArgs false
set_option linter.unusedVariables false
namespace Go.Proofs.Ytmnibpgmcgdfpaa
open Go.PL
def wentC (r : Rw) : Cg := ⟨3, r.item, default, default, r.l⟩
def cameC (r : Rw) : Cg := ⟨2, r.item, default, default, r.l⟩
/-- rows held against rows, item by item -/
def diffR : List Rw → List Rw → List Cg
  | [], [] => []
  | p :: ps, [] => wentC p :: diffR ps []
  | [], q :: qs => cameC q :: diffR [] qs
  | p :: ps, q :: qs => if bytesLt p.item q.item = true then wentC p :: diffR ps (q :: qs) else if bytesLt q.item p.item = true then cameC q :: diffR (p :: ps) qs else othersL q.item p.l q.l ++ diffR ps qs
termination_by a b => a.length + b.length
def diffM (l : List Fd) (a b : Dc) : List Cg × Int := if rightD l a = false ∨ rightD l b = false then ([], 5) else (othersL [] a.head b.head ++ diffR a.rows b.rows, 0)
/-- how far the merging has come, and what has been told -/
structure DiS (p q : List Rw) (h0 : List Cg) where
  i : Nat
  j : Nat
  acc : List Cg
  row : Nat
  hi : i ≤ p.length
  hj : j ≤ q.length
  hl : acc.length ≤ h0.length + 16 * (i + j)
  h : acc ++ diffR (p.drop i) (q.drop j) = h0 ++ diffR p q
end Go.Proofs.Ytmnibpgmcgdfpaa
