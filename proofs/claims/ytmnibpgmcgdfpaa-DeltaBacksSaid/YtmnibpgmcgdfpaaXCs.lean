/- Contracts of functions and laws of this seat, each for every input that it names: lemmas of the proof. -/
import Derived.Test.YtmnibpgmcgdfpaaXCj
import Derived.Test.YtmnibpgmcgdfpaaPlJ
import Derived.Test.YtmnibpgmcgdfpaaXAm
import Derived.Test.YtmnibpgmcgdfpaaRows
import Derived.ProofKit
import Derived.Test.YtmnibpgmcgdfpaaXAa
import Derived.Test.YtmnibpgmcgdfpaaXCd
set_option linter.unusedSimpArgs false
set_option linter.unusedVariables false
set_option linter.unusedSimpArgs false
set_option linter.unusedVariables false
namespace Go.Proofs.Ytmnibpgmcgdfpaa
open Go.PL
set_option maxHeartbeats 4000000 in
theorem DBackw_pure (cs : List Cg) : PL.Pure Try.prog 40 [chgs cs] (.fn 83 [.rptr [chgs cs]]) := by
  have hd : (PV.fn 83 [.rptr [chgs cs]]).dids = [] := by simp only [PV.dids, PV.didsL, chgs, didsL_chg, List.append_nil]
  refine PL.Pure.of_v Try.func40 (by decide) rfl Try.ntmps40 Try.results40 (by simp) (hd) ?_
  simp only [go_sem, chgs]
theorem chg_ids (c : Cg) : (chg c).ids = [] := List.eq_nil_iff_forall_not_mem.2 fun i hi => by have := ids_dids _ hi; rw [chg_dids] at this; cases this
/-- what has been gathered -/
def mB : List Cg → MemT
  | [] => ⟨[(3, [.sl .nil []], false)], [], []⟩
  | x :: l => ⟨[(3, [.sl (.row 39) (((x :: l).map flipC).map chg)], false)], [(39, .live (x :: l).length 13 30)], []⟩
theorem whole_mB (pre : List Cg) (φ : Nat → Nat) : WholeT [(3, .ptr 3 0)] (mB pre) (pinL [3] φ) := by
  cases pre with
  | nil => exact ⟨⟨forall_cons rfl forall_nil, forall_cons rfl forall_nil⟩, forall_nil, forall_nil, forall_nil, forall_cons rfl forall_nil, forall_nil⟩
  | cons x l =>
    exact ⟨⟨forall_cons rfl forall_nil, forall_cons (by simp [mB, PV.ids, PV.idsL, refInM]) forall_nil⟩, forall_nil, forall_nil, forall_nil, forall_cons rfl forall_nil, forall_nil⟩
structure FineB (c : Cg) : Prop where
  w : c.was.l.length ≤ 1000000
  n : c.now.l.length ≤ 1000000
  l : c.l.length ≤ 100000
  e : ∀ e ∈ c.l, e.l.length ≤ 1000000
theorem flip_cases (x : Cg) : ((x.kind == 1) = true ∧ flipC x = ⟨x.kind, x.item, x.now, x.was, x.l⟩) ∨ ((x.kind == 1) = false ∧ (x.kind == 2) = true ∧ flipC x = ⟨3, x.item, x.was, x.now, x.l⟩) ∨
    ((x.kind == 1) = false ∧ (x.kind == 2) = false ∧ (x.kind == 3) = true ∧ flipC x = ⟨2, x.item, x.was, x.now, x.l⟩) ∨ ((x.kind == 1) = false ∧ (x.kind == 2) = false ∧ (x.kind == 3) = false ∧ flipC x = x) := by
  simp only [beq_iff_eq, beq_eq_false_iff_ne]
  unfold flipC
  by_cases h1 : x.kind = 1
  · exact .inl ⟨h1, by rw [if_pos h1]⟩
  · by_cases h2 : x.kind = 2
    · exact .inr (.inl ⟨h1, h2, by rw [if_neg h1, if_pos (.inl h2), h2]; rfl⟩)
    · by_cases h3 : x.kind = 3
      · exact .inr (.inr (.inl ⟨h1, h2, h3, by rw [if_neg h1, if_pos (.inr h3), h3]; rfl⟩))
      · exact .inr (.inr (.inr ⟨h1, h2, h3, by rw [if_neg h1, if_neg (fun h => h.elim h2 h3)]⟩))
set_option maxRecDepth 20000 in
set_option maxHeartbeats 16000000 in
theorem DBack_pure (cs : List Cg) (hl : cs.length ≤ 1000) (hx : ∀ c ∈ cs, FineB c) : PL.Pure Try.prog 11 [chgs cs] (chgs (backC cs)) := by
  have hbw := DBackw_pure cs
  refine Pure.range (A := Cg) 2 (Q1 := fun s => s.eval (.tmp 6) = .fn 83 [.rptr [chgs cs]] ∧ HasT 41 [(3, .ptr 3 0)] (mB []) [] s) (pin := [3]) (mt := mB) (mx := mB) (Y := fun _ => True) (X := fun _ => False)
    Try.func11 (by decide) rfl Try.ntmps11 Try.results11 (by simp) (chgs_dids _) ?_ rfl (fun s hs => ⟨hs.1, hs.2, fun i hi => ?_⟩) (by simp [PV.ids, PV.idsL, chgs]) (back1_gives cs hl) ?_ ?_ ?_ trivial whole_mB whole_mB ?_ ?_ ?_
  · refine tawp_seq ?_
    simp only [go_sem]
    refine tawp_seq ?_
    simp only [go_sem]
    refine tawp_end (vc_sound _ _ _ (show @vC _ ⟨_⟩ ⟨_⟩ _ from ?_))
    simp only [go_sem, chgs]
    refine vCall_of (hbw) ?_ ?_ ?_; (focus simp only [go_sem, chgs]); (focus simp only [go_sem, chgs])
    simp only [go_sem]
    exact ⟨rfl, ⟨⟨rfl, forall_cons rfl forall_nil, forall_cons ⟨rfl, rfl⟩ forall_nil, forall_nil⟩, forall_nil, forall_nil, forall_nil, forall_nil, forall_nil, forall_nil⟩⟩
  · obtain rfl : i = 3 := by simpa using hi
    have h := hs.2.b.h (3, [.sl .nil []], false) (by simp [mB])
    rw [h.1]; simp
  · intro x hxx p hp
    rw [List.mem_singleton.1 hp]; exact chg_ids x
  · intro t ht
    have : t = 7 := by simpa using ht
    subst this; decide
  · intro x hxx r hr
    rw [List.mem_singleton.1 hxx] at hr
    exact ⟨3, by simp, by simpa [PV.ids] using hr⟩
  · intro l φ pre x hxc hpl _
    have hfx := hx x (List.mem_reverse.1 hxc)
    have hpl : pre.length < 1000 := by simp at hpl; omega
    refine awpR_of_v ?_
    change @vR l 0 Try.prog ⟨_⟩ ⟨_⟩ ((mkT 41 [(3, .ptr 3 0)] (mB pre) (pinL [3] φ)).put (some 7) (chg x))
    have hO1 := DOwnE_pure x.was hfx.w
    have hO2 := DOwnE_pure x.now hfx.n
    have hO3 := Owns_pure x.l hfx.l hfx.e
    have hk := flip_cases x
    have hr0 := room1 (show 1 ≤ 1000000 by omega) (show 192 ≤ 1000 by omega)
    have hsx : Sized 13 [chg (flipC x)] := sized_chg [flipC x]
    have hax : Atoms [chg (flipC x)] := atoms_chg [flipC x]
    cases pre with
    | nil =>
      rcases hk with ⟨e1, hf⟩ | ⟨e1, e2, hf⟩ | ⟨e1, e2, e3, hf⟩ | ⟨e1, e2, e3, hf⟩
      all_goals
        simp only [go_sem, mB, chg]
        refine awpR_of_v ?_
        simp only [go_sem]
        refine vDrawRT (by kernel_rfl) (by kernel_rfl) ?_
        simp only [go_sem]
        refine vCall_of (hO1) ?_ ?_ ?_; (focus simp only [go_sem, ent]); (focus simp only [go_sem, ent])
        simp only [go_sem, ent]
        refine vCall_of (hO2) ?_ ?_ ?_; (focus simp only [go_sem, ent]); (focus simp only [go_sem, ent])
        simp only [go_sem, ent]
        refine vCall_of (hO3) ?_ ?_ ?_; (focus simp only [go_sem, ents]); (focus simp only [go_sem, ents])
        simp only [go_sem, ents, e1]
        try simp only [go_sem, e2]
        try simp only [go_sem, e3]
      all_goals
        refine ⟨hr0, trivial, ⟨⟨rfl, forall_nil, forall_cons ⟨?_, rfl⟩ forall_nil, forall_cons rfl forall_nil⟩, forall_nil, forall_nil, forall_nil, forall_nil, forall_cons rfl forall_nil, forall_nil⟩⟩
        show some [PV.sl (.row 39) _] = some [PV.sl (.row 39) [chg (flipC x)]]
        rw [hf]; rfl
    | cons y q =>
      have hlq : (y :: q).length < 1000 := hpl
      have hml : (((y :: q).map flipC).map chg).length = (y :: q).length := by simp
      have hsz := sized_chg ((y :: q).map flipC)
      have hrm := room1 (show (y :: q).length + 1 ≤ 1000000 by omega) (show 192 ≤ 1000 by omega)
      have hsn : (((y :: (q ++ [x])).map flipC).map chg) = ((y :: q).map flipC).map chg ++ [chg (flipC x)] := by simp
      rcases hk with ⟨e1, hf⟩ | ⟨e1, e2, hf⟩ | ⟨e1, e2, e3, hf⟩ | ⟨e1, e2, e3, hf⟩
      all_goals
        simp only [go_sem, mB, chg]
        refine awpR_of_v ?_
        simp only [go_sem]
        refine vDrawRT (by kernel_rfl) (by kernel_rfl) ?_
        simp only [go_sem]
        refine vCall_of (hO1) ?_ ?_ ?_; (focus simp only [go_sem, ent]); (focus simp only [go_sem, ent])
        simp only [go_sem, ent]
        refine vCall_of (hO2) ?_ ?_ ?_; (focus simp only [go_sem, ent]); (focus simp only [go_sem, ent])
        simp only [go_sem, ent]
        refine vCall_of (hO3) ?_ ?_ ?_; (focus simp only [go_sem, ents]); (focus simp only [go_sem, ents])
        simp only [go_sem, ents, e1]
        try simp only [go_sem, e2]
        try simp only [go_sem, e3]
      all_goals
        refine ⟨⟨sized_chg (q.map flipC), hrm⟩, trivial, ⟨⟨rfl, forall_nil, forall_cons ⟨?_, rfl⟩ forall_nil, forall_cons ?_ forall_nil⟩, forall_nil, forall_nil, forall_nil, forall_nil, forall_cons rfl forall_nil, forall_nil⟩⟩
        · show some [PV.sl (.row 39) _] = some [PV.sl (.row 39) (((y :: (q ++ [x])).map flipC).map chg)]
          rw [hsn, hf]; rfl
        · show some (Row.live _ 13 _) = some (Row.live (y :: (q ++ [x])).length 13 _)
          rw [show (y :: (q ++ [x])).length = q.length + 1 + 1 by simp]
  · intro _ φ
    refine vcD_of_v ?_
    unfold chgs backC
    generalize cs.reverse = q
    cases q with
    | nil => 
      simp only [go_sem, mB]
    | cons y q =>
      simp only [go_sem, mB]
  · intro pre _ h; exact h.elim
end Go.Proofs.Ytmnibpgmcgdfpaa

set_option linter.unusedSimpArgs false
set_option linter.unusedVariables false
set_option linter.unusedSimpArgs false
set_option linter.unusedVariables false
namespace Go.Proofs.Ytmnibpgmcgdfpaa
open Go.PL
structure OkDd (d : Dc) : Prop where
  h : d.head.length ≤ 100000
  r : d.rows.length ≤ 100000
  e : ∀ e ∈ d.head, e.l.length ≤ 1000000
  s : ∀ r ∈ d.rows, r.l.length ≤ 100000 ∧ ∀ e ∈ r.l, e.l.length ≤ 1000000
theorem OkDd.fine {d : Dc} (h : OkDd d) : Fine d := by
  have e := maxLen_eq
  refine ⟨by have := h.h; omega, by have := h.r; omega, fun x hx => by have := h.e x hx; omega, fun r hr => ⟨by have := (h.s r hr).1; omega, fun x hx => by have := (h.s r hr).2 x hx; omega⟩⟩
theorem entB_len {L : List Fd} {es : List En} (h : entriesB L es = true) : es.length = L.length := by
  simp only [entriesB, Bool.and_eq_true, decide_eq_true_eq] at h
  exact h.1.symm
theorem rightD_len {m : List Fd} {d : Dc} (h : rightD m d = true) : d.head.length = (scopeM m 0).length ∧ d.rows.length ≤ 400 ∧ (∀ r ∈ d.rows, r.l.length = (scopeM m 1).length) ∧ (scopeM m 0).length ≤ 16 ∧ (scopeM m 1).length ≤ 16 := by
  simp only [rightD, headOk, Bool.and_eq_true, Bool.not_eq_true', decide_eq_false_iff_not, List.all_eq_true, List.mem_range] at h
  obtain ⟨⟨h1, h2, h3⟩, h4⟩ := h
  have h16 := rightL_len h1
  have hs : ∀ sc, (scopeM m sc).length ≤ 16 := fun sc => Nat.le_trans (List.length_filter_le _ _) h16
  refine ⟨entB_len h3, by omega, fun r hr => ?_, hs 0, hs 1⟩
  obtain ⟨i, hi, rfl⟩ := List.getElem_of_mem hr
  have := h4 i hi
  simp only [rowOk, Bool.and_eq_true] at this
  have e1 := entB_len this.2
  rw [getD_lt hi] at e1
  exact e1
theorem othersL_len (it : Str) (a b : List En) : (othersL it a b).length ≤ a.length := othersK_len it a b a.length
theorem cut1_row (x : PV) (l : List Rw) : PL.cut (x :: l.map row) 1 ((l.length + 1 : Nat) : Int) = l.map row := by
  have e : ((l.length + 1 : Nat) : Int).toNat = l.length + 1 := by omega
  simp [PL.cut, e, List.take_of_length_le]
/-- how far the merging has come, and what has been told -/
structure DiX (p q : List Rw) (h0 : List Cg) where
  P : List Rw
  Q : List Rw
  acc : List Cg
  id : Nat
  hP : ∀ r ∈ P, r ∈ p
  hQ : ∀ r ∈ Q, r ∈ q
  hl : acc.length + 16 * (P.length + Q.length) ≤ 16 + 16 * (p.length + q.length)
  h : acc ++ diffR P Q = h0 ++ diffR p q
  hid : id = 25 ∨ id = 91 ∨ id = 121 ∨ id = 44
def chgsc (x : List Cg) (c : Int) : PV := .tup [chgs x, .int .i64 c]
theorem chgsc_dids (x : List Cg) (c : Int) : (chgsc x c).dids = [] := by simp only [chgsc, PV.dids, PV.didsL, chgs_dids, List.append_nil]
set_option maxRecDepth 20000 in
set_option maxHeartbeats 64000000 in
theorem DDiff_pure (l : List Fd) (a b : Dc) (hl : l.length ≤ maxLen) (hl' : ∀ f ∈ l, f.cases'.length ≤ 1000000) (ha : OkDd a) (hb : OkDd b) :
    PL.Pure Try.prog 19 [flds l, doc a, doc b] (chgsc (diffM l a b).1 (diffM l a b).2) := by
  have hRa := DRight_pure l a hl hl' ha.fine
  have hRb := DRight_pure l b hl hl' hb.fine
  unfold diffM
  cases hra : rightD l a
  · rw [hra] at hRa
    rw [if_pos (.inl rfl)]
    refine PL.Pure.of_v Try.func19 (by decide) rfl Try.ntmps19 Try.results19 (by simp) (chgsc_dids _ _) ?_
    simp only [go_sem, flds, doc]
    refine vScope0 ?_
    simp only [go_sem]
    refine vCall_of (hRa) ?_ ?_ ?_; (focus simp only [go_sem, flds, doc]); (focus simp only [go_sem, flds, doc])
    simp only [go_sem, chgsc, chgs]
  · cases hrb : rightD l b
    · rw [hra] at hRa; rw [hrb] at hRb
      rw [if_pos (.inr rfl)]
      refine PL.Pure.of_v Try.func19 (by decide) rfl Try.ntmps19 Try.results19 (by simp) (chgsc_dids _ _) ?_
      simp only [go_sem, flds, doc]
      refine vScope0 ?_
      simp only [go_sem]
      refine vCall_of (hRa) ?_ ?_ ?_; (focus simp only [go_sem, flds, doc]); (focus simp only [go_sem, flds, doc])
      simp only [go_sem, chgsc, chgs]
      refine vCall_of (hRb) ?_ ?_ ?_; (focus simp only [go_sem, flds, doc]); (focus simp only [go_sem, flds, doc])
      simp only [go_sem, chgsc, chgs]
    · rw [hra] at hRa; rw [hrb] at hRb
      rw [if_neg (by simp)]
      obtain ⟨a1, a2, a3, a4, a5⟩ := rightD_len hra
      obtain ⟨b1, b2, b3, _, _⟩ := rightD_len hrb
      have hO := others_eff [] a.head b.head ha.h (by omega) ha.e hb.e
      refine PL.Pure.of_v Try.func19 (by decide) rfl Try.ntmps19 Try.results19 (by simp) (chgsc_dids _ _) ?_
      simp only [go_sem, flds, doc]
      refine vScopeM (ι := DiX a.rows b.rows (othersL [] a.head b.head)) 124 (fun x => [(8, .sl (.row x.id) (x.acc.map chg)), (9, .sl .no (x.P.map row)), (10, .sl .no (x.Q.map row))]) (fun x => []) (fun x => [(x.id, .live x.acc.length 13 30)]) (fun x => x.P.length + x.Q.length) 0 _ (by exact rfl) (fun x => ⟨forall_cons (by simp [PV.ids, refInM]) (forall_cons rfl (forall_cons rfl forall_nil)), forall_nil⟩) (fun x => ?_) (fun cut => ?_)
      · obtain ⟨P, Q, acc, id, hP, hQ, hl, h, hid⟩ := x
        simp only
        cases P with
        | nil =>
          cases Q with
          | nil =>
            rw [diffR, List.append_nil] at h
            rw [← h]
            simp only [go_sem, List.map_nil, List.length_nil, chgsc, chgs]
          | cons q qs =>
            have r0 : (0 : Int) ≤ 0 := by omega
            have hml : (acc.map chg).length = acc.length := List.length_map _
            have hsz := sized_chg acc
            have hrm := room1 (show acc.length + 1 ≤ 1000000 by have := Nat.zero_le; simp only [List.length_cons, List.length_nil] at hl; omega) (show 192 ≤ 1000 by omega)
            have hl0 : True := trivial
            have hg0 : True := trivial
            have kl0 : (((qs.length + 1 : Nat) : Int) == 0) = false := by simp; omega
            have kg0 : (0 : Int) < ((qs.length + 1 : Nat) : Int) := by omega
            have ks1 : (1 : Int) ≤ ((qs.length + 1 : Nat) : Int) := by omega
            have ksr := sized_row qs
            have hO2 := Owns_pure q.l (hb.s q (hQ q (by simp))).1 (hb.s q (hQ q (by simp))).2
            simp only [go_sem, List.map_nil, List.length_nil, List.map_cons, List.length_cons, List.length_map, row, hl0, hg0, kl0, kg0, r0]
            refine vDrawQ (by kernel_rfl) (by kernel_rfl) ?_
            simp only [go_sem, List.map_nil, List.length_nil, List.map_cons, List.length_cons, List.length_map, row, hl0, hg0, kl0, kg0, r0]
            refine vDrawQ (by kernel_rfl) (by kernel_rfl) ?_
            simp only [go_sem, List.map_nil, List.length_nil, List.map_cons, List.length_cons, List.length_map, row, hl0, hg0, kl0, kg0, r0]
            refine vDrawQ (by kernel_rfl) (by kernel_rfl) ?_
            simp only [go_sem, List.map_nil, List.length_nil, List.map_cons, List.length_cons, List.length_map, row, hl0, hg0, kl0, kg0, r0]
            refine vCall_of (hO2) ?_ ?_ ?_; (focus simp only [go_sem, ents]); (focus simp only [go_sem, ents])
            rcases hid with rfl | rfl | rfl | rfl
            all_goals
              simp only [go_sem, List.map_nil, List.length_nil, List.map_cons, List.length_cons, List.length_map, row, hl0, hg0, kl0, kg0, r0, ents, hml, hsz, hrm, sized_str, atoms_str, Int.le_refl, cut1_row, ks1, ksr]
              exact ⟨⟨[], qs, acc ++ [cameC q], 121, hP, fun x hx => hQ x (by simp [hx]), by simp only [List.length_append, List.length_cons, List.length_nil] at hl ⊢; omega, by rw [← h, diffR, List.append_assoc]; rfl, .inr (.inr (.inl rfl))⟩, by show _ + qs.length < _ + (q :: qs).length; simp only [List.length_cons]; omega, ⟨rfl, forall_cons (by show PV.sl _ _ = PV.sl _ _; rw [List.map_append]; rfl) (forall_cons rfl (forall_cons rfl forall_nil)), forall_nil, forall_cons (by show some (Row.live _ 13 _) = some (Row.live _ 13 _); rw [List.length_append]; rfl) forall_nil⟩⟩
        | cons r ps =>
          cases Q with
          | nil =>
            have r0 : (0 : Int) ≤ 0 := by omega
            have hml : (acc.map chg).length = acc.length := List.length_map _
            have hsz := sized_chg acc
            have hrm := room1 (show acc.length + 1 ≤ 1000000 by have := Nat.zero_le; simp only [List.length_cons, List.length_nil] at hl; omega) (show 192 ≤ 1000 by omega)
            have hl0 : (((ps.length + 1 : Nat) : Int) == 0) = false := by simp; omega
            have hg0 : (0 : Int) < ((ps.length + 1 : Nat) : Int) := by omega
            have hs1 : (1 : Int) ≤ ((ps.length + 1 : Nat) : Int) := by omega
            have hsr := sized_row ps
            have kl0 : True := trivial
            have kg0 : True := trivial
            have hO1 := Owns_pure r.l (ha.s r (hP r (by simp))).1 (ha.s r (hP r (by simp))).2
            simp only [go_sem, List.map_nil, List.length_nil, List.map_cons, List.length_cons, List.length_map, row, hl0, hg0, kl0, kg0, r0]
            refine vDrawQ (by kernel_rfl) (by kernel_rfl) ?_
            simp only [go_sem, List.map_nil, List.length_nil, List.map_cons, List.length_cons, List.length_map, row, hl0, hg0, kl0, kg0, r0]
            refine vDrawQ (by kernel_rfl) (by kernel_rfl) ?_
            simp only [go_sem, List.map_nil, List.length_nil, List.map_cons, List.length_cons, List.length_map, row, hl0, hg0, kl0, kg0, r0]
            refine vCall_of (hO1) ?_ ?_ ?_; (focus simp only [go_sem, ents]); (focus simp only [go_sem, ents])
            rcases hid with rfl | rfl | rfl | rfl
            all_goals
              simp only [go_sem, List.map_nil, List.length_nil, List.map_cons, List.length_cons, List.length_map, row, hl0, hg0, kl0, kg0, r0, ents, hml, hsz, hrm, sized_str, atoms_str, Int.le_refl, cut1_row, hs1, hsr]
              exact ⟨⟨ps, [], acc ++ [wentC r], 91, fun x hx => hP x (by simp [hx]), hQ, by simp only [List.length_append, List.length_cons, List.length_nil] at hl ⊢; omega, by rw [← h, diffR, List.append_assoc]; rfl, .inr (.inl rfl)⟩, by show ps.length + _ < (r :: ps).length + _; simp only [List.length_cons]; omega, ⟨rfl, forall_cons (by show PV.sl _ _ = PV.sl _ _; rw [List.map_append]; rfl) (forall_cons rfl (forall_cons rfl forall_nil)), forall_nil, forall_cons (by show some (Row.live _ 13 _) = some (Row.live _ 13 _); rw [List.length_append]; rfl) forall_nil⟩⟩
          | cons q qs =>
            have r0 : (0 : Int) ≤ 0 := by omega
            have hml : (acc.map chg).length = acc.length := List.length_map _
            have hsz := sized_chg acc
            have hrm := room1 (show acc.length + 1 ≤ 1000000 by have := Nat.zero_le; simp only [List.length_cons, List.length_nil] at hl; omega) (show 192 ≤ 1000 by omega)
            have hl0 : (((ps.length + 1 : Nat) : Int) == 0) = false := by simp; omega
            have hg0 : (0 : Int) < ((ps.length + 1 : Nat) : Int) := by omega
            have hs1 : (1 : Int) ≤ ((ps.length + 1 : Nat) : Int) := by omega
            have hsr := sized_row ps
            have kl0 : (((qs.length + 1 : Nat) : Int) == 0) = false := by simp; omega
            have kg0 : (0 : Int) < ((qs.length + 1 : Nat) : Int) := by omega
            have ks1 : (1 : Int) ≤ ((qs.length + 1 : Nat) : Int) := by omega
            have ksr := sized_row qs
            have hO1 := Owns_pure r.l (ha.s r (hP r (by simp))).1 (ha.s r (hP r (by simp))).2
            have hO2 := Owns_pure q.l (hb.s q (hQ q (by simp))).1 (hb.s q (hQ q (by simp))).2
            cases c1 : bytesLt r.item q.item
            · cases c2 : bytesLt q.item r.item
              · have hO3 := others_pure q.item r.l q.l (ha.s r (hP r (by simp))).1 (by rw [a3 r (hP r (by simp)), b3 q (hQ q (by simp))]; exact Nat.le_refl _) (ha.s r (hP r (by simp))).2 (hb.s q (hQ q (by simp))).2
                have hol := othersL_len q.item r.l q.l
                have ha3 := a3 r (hP r (by simp))
                rw [diffR, if_neg (by rw [c1]; simp), if_neg (by rw [c2]; simp)] at h
                have hos := sized_chg (othersL q.item r.l q.l)
                have hoa := atoms_chg (othersL q.item r.l q.l)
                have hom : ((othersL q.item r.l q.l).map chg).length = (othersL q.item r.l q.l).length := List.length_map _
                have hro := room1 (show acc.length + (othersL q.item r.l q.l).length ≤ 1000000 by simp only [List.length_cons, List.length_nil] at hl; omega) (show 192 ≤ 1000 by omega)
                simp only [go_sem, List.map_nil, List.length_nil, List.map_cons, List.length_cons, List.length_map, row, hl0, hg0, kl0, kg0, r0, c1, c2]
                refine vDrawQ (by kernel_rfl) (by kernel_rfl) ?_
                simp only [go_sem, List.map_nil, List.length_nil, List.map_cons, List.length_cons, List.length_map, row, hl0, hg0, kl0, kg0, r0, c1, c2]
                refine vDrawQ (by kernel_rfl) (by kernel_rfl) ?_
                simp only [go_sem, List.map_nil, List.length_nil, List.map_cons, List.length_cons, List.length_map, row, hl0, hg0, kl0, kg0, r0, c1, c2]
                refine vDrawQ (by kernel_rfl) (by kernel_rfl) ?_
                simp only [go_sem, List.map_nil, List.length_nil, List.map_cons, List.length_cons, List.length_map, row, hl0, hg0, kl0, kg0, r0, c1, c2]
                refine vCall_of (hO3) ?_ ?_ ?_; (focus simp only [go_sem, ents]); (focus simp only [go_sem, ents])
                rcases hid with rfl | rfl | rfl | rfl
                all_goals
                  simp only [go_sem, List.map_nil, List.length_nil, List.map_cons, List.length_cons, List.length_map, row, hl0, hg0, kl0, kg0, r0, c1, c2, chgs, hml, hsz, hos, hoa, hom, hro, sized_str, atoms_str]
                  refine vDrawQ (by kernel_rfl) (by kernel_rfl) ?_
                  simp only [go_sem, List.map_nil, List.length_nil, List.map_cons, List.length_cons, List.length_map, row, hl0, hg0, kl0, kg0, r0, c1, c2, Int.le_refl, cut1_row, hs1, hsr, ks1, ksr]
                  exact ⟨⟨ps, qs, acc ++ othersL q.item r.l q.l, 44, fun x hx => hP x (by simp [hx]), fun x hx => hQ x (by simp [hx]), by simp only [List.length_append, List.length_cons, List.length_nil] at hl ⊢; omega, by rw [← h, List.append_assoc], .inr (.inr (.inr rfl))⟩, by show ps.length + qs.length < (r :: ps).length + (q :: qs).length; simp only [List.length_cons]; omega, ⟨rfl, forall_cons (by show PV.sl _ _ = PV.sl _ _; rw [List.map_append]) (forall_cons rfl (forall_cons rfl forall_nil)), forall_nil, forall_cons (by show some (Row.live _ 13 _) = some (Row.live _ 13 _); rw [List.length_append]) forall_nil⟩⟩
              · rw [diffR, if_neg (by rw [c1]; simp), if_pos c2] at h
                simp only [go_sem, List.map_nil, List.length_nil, List.map_cons, List.length_cons, List.length_map, row, hl0, hg0, kl0, kg0, r0, c1, c2]
                refine vDrawQ (by kernel_rfl) (by kernel_rfl) ?_
                simp only [go_sem, List.map_nil, List.length_nil, List.map_cons, List.length_cons, List.length_map, row, hl0, hg0, kl0, kg0, r0, c1, c2]
                refine vDrawQ (by kernel_rfl) (by kernel_rfl) ?_
                simp only [go_sem, List.map_nil, List.length_nil, List.map_cons, List.length_cons, List.length_map, row, hl0, hg0, kl0, kg0, r0, c1, c2]
                refine vDrawQ (by kernel_rfl) (by kernel_rfl) ?_
                simp only [go_sem, List.map_nil, List.length_nil, List.map_cons, List.length_cons, List.length_map, row, hl0, hg0, kl0, kg0, r0, c1, c2]
                refine vCall_of (hO2) ?_ ?_ ?_; (focus simp only [go_sem, ents]); (focus simp only [go_sem, ents])
                rcases hid with rfl | rfl | rfl | rfl
                all_goals
                  simp only [go_sem, List.map_nil, List.length_nil, List.map_cons, List.length_cons, List.length_map, row, hl0, hg0, kl0, kg0, r0, c1, c2, ents, hml, hsz, hrm, sized_str, atoms_str, Int.le_refl, cut1_row, hs1, hsr, ks1, ksr]
                  exact ⟨⟨r :: ps, qs, acc ++ [cameC q], 121, hP, fun x hx => hQ x (by simp [hx]), by simp only [List.length_append, List.length_cons, List.length_nil] at hl ⊢; omega, by rw [← h, List.append_assoc]; rfl, .inr (.inr (.inl rfl))⟩, by show _ + qs.length < _ + (q :: qs).length; simp only [List.length_cons]; omega, ⟨rfl, forall_cons (by show PV.sl _ _ = PV.sl _ _; rw [List.map_append]; rfl) (forall_cons rfl (forall_cons rfl forall_nil)), forall_nil, forall_cons (by show some (Row.live _ 13 _) = some (Row.live _ 13 _); rw [List.length_append]; rfl) forall_nil⟩⟩
            · rw [diffR, if_pos c1] at h
              simp only [go_sem, List.map_nil, List.length_nil, List.map_cons, List.length_cons, List.length_map, row, hl0, hg0, kl0, kg0, r0, c1]
              refine vDrawQ (by kernel_rfl) (by kernel_rfl) ?_
              simp only [go_sem, List.map_nil, List.length_nil, List.map_cons, List.length_cons, List.length_map, row, hl0, hg0, kl0, kg0, r0, c1]
              refine vDrawQ (by kernel_rfl) (by kernel_rfl) ?_
              simp only [go_sem, List.map_nil, List.length_nil, List.map_cons, List.length_cons, List.length_map, row, hl0, hg0, kl0, kg0, r0, c1]
              refine vCall_of (hO1) ?_ ?_ ?_; (focus simp only [go_sem, ents]); (focus simp only [go_sem, ents])
              rcases hid with rfl | rfl | rfl | rfl
              all_goals
                simp only [go_sem, List.map_nil, List.length_nil, List.map_cons, List.length_cons, List.length_map, row, hl0, hg0, kl0, kg0, r0, c1, ents, hml, hsz, hrm, sized_str, atoms_str, Int.le_refl, cut1_row, hs1, hsr, ks1, ksr]
                exact ⟨⟨ps, q :: qs, acc ++ [wentC r], 91, fun x hx => hP x (by simp [hx]), hQ, by simp only [List.length_append, List.length_cons, List.length_nil] at hl ⊢; omega, by rw [← h, List.append_assoc]; rfl, .inr (.inl rfl)⟩, by show ps.length + _ < (r :: ps).length + _; simp only [List.length_cons]; omega, ⟨rfl, forall_cons (by show PV.sl _ _ = PV.sl _ _; rw [List.map_append]; rfl) (forall_cons rfl (forall_cons rfl forall_nil)), forall_nil, forall_cons (by show some (Row.live _ 13 _) = some (Row.live _ 13 _); rw [List.length_append]; rfl) forall_nil⟩⟩
      · simp only [go_sem]
        refine vCall_of (hRa) ?_ ?_ ?_; (focus simp only [go_sem, flds, doc]); (focus simp only [go_sem, flds, doc])
        simp only [go_sem]
        refine vCall_of (hRb) ?_ ?_ ?_; (focus simp only [go_sem, flds, doc]); (focus simp only [go_sem, flds, doc])
        simp only [go_sem]
        refine vCall_rn 25 hO (by simp [PV.ids, ents]) rfl ?_ ?_
        · simp only [go_sem, ents]
        · simp only [go_sem]
          refine vDrawQ (by kernel_rfl) (by kernel_rfl) ?_
          simp only [go_sem]
          refine awp_label_seq (cut ⟨a.rows, b.rows, othersL [] a.head b.head, 25, fun _ h => h, fun _ h => h, ?_, rfl, .inl rfl⟩ _ ⟨rfl, forall_cons rfl (forall_cons rfl (forall_cons rfl forall_nil)), forall_nil, forall_cons rfl forall_nil⟩)
          have := othersL_len [] a.head b.head
          omega
end Go.Proofs.Ytmnibpgmcgdfpaa

set_option linter.unusedSimpArgs false
set_option linter.unusedVariables false
set_option linter.unusedSimpArgs false
set_option linter.unusedVariables false
namespace Go.Proofs.Ytmnibpgmcgdfpaa
open Go.PL
theorem heavyEs_len37 {l : List En} (h : heavyEs l = false) : l.length ≤ 40 ∧ ∀ e ∈ l, e.l.length ≤ 410 := by
  simp only [heavyEs, Bool.or_eq_false_iff, decide_eq_false_iff_not, List.any_eq_false] at h
  refine ⟨by omega, fun e he => ?_⟩
  have := h.2 e he
  simp [entH] at this
  omega
theorem fineB_of {c : Cg} (h : heavyC c = false) : FineB c := by
  simp only [heavyC, docOfC, heavyD, Bool.or_eq_false_iff, List.any_cons, List.any_nil, rowH] at h
  obtain ⟨_, _, h1, ⟨_, h2⟩, ⟨_, h3⟩, _⟩ := h
  have h1 := (heavyEs_len37 h1).2 _ (List.mem_singleton.2 rfl)
  have h2 := (heavyEs_len37 h2).2 _ (List.mem_singleton.2 rfl)
  have h3 := heavyEs_len37 h3
  exact ⟨by omega, by omega, by omega, fun e he => by have := h3.2 e he; omega⟩
theorem FineB.fine {c : Cg} (h : FineB c) : FineC c := by
  have e := maxLen_eq
  exact ⟨by have := h.w; omega, by have := h.n; omega, by have := h.l; omega, fun e he => by have := h.e e he; omega⟩
theorem FineB.flip {c : Cg} (h : FineB c) : FineB (flipC c) := by
  unfold flipC
  split
  · exact ⟨h.n, h.w, h.l, h.e⟩
  · split
    · exact ⟨h.w, h.n, h.l, h.e⟩
    · exact h
theorem flip_flip (c : Cg) : flipC (flipC c) = c := by
  obtain ⟨k, i, w, n, l⟩ := c
  unfold flipC
  by_cases h1 : k = 1
  · simp [h1]
  · by_cases h2 : k = 2
    · simp [h2]
    · by_cases h3 : k = 3
      · simp [h3]
      · simp [h1, h2, h3]
theorem back_back (l : List Cg) : backC (backC l) = l := by
  unfold backC
  rw [← List.map_reverse, List.reverse_reverse, List.map_map]
  rw [show (flipC ∘ flipC) = id from funext flip_flip]
  exact List.map_id l
theorem fineB_back {l : List Cg} (h : ∀ c ∈ l, FineB c) : ∀ c ∈ backC l, FineB c := fun c hc => by
  obtain ⟨x, hx, rfl⟩ := List.mem_map.1 hc
  exact (h x (List.mem_reverse.1 hx)).flip
set_option maxRecDepth 100000 in
set_option maxHeartbeats 16000000 in
theorem awake37_pure : PL.Pure Try.prog 9 [] (.bool true) := by
  have e := maxLen_eq
  have hl : rootL.length ≤ 16 := by decide
  have hc : ∀ f ∈ rootL, f.cases'.length ≤ 1000 := by decide
  have hR := Root_pure
  have hB := RBlank_pure rootL (by omega)
  have k1 : rightD rootL ⟨(scopeM rootL 0).map valueM, []⟩ = true := by decide +kernel
  have k2 : rightD rootL ⟨(scopeM rootL 0).map valueM, [⟨[112, 101, 97, 114], (scopeM rootL 1).map valueM⟩]⟩ = true := by decide +kernel
  have k3 : othersL [] ((scopeM rootL 0).map valueM) ((scopeM rootL 0).map valueM) = [] := by decide +kernel
  have k4 : ((scopeM rootL 1).map valueM).length = 4 := by decide +kernel
  have k5 : ((scopeM rootL 0).map valueM).length ≤ 100 ∧ (∀ e ∈ (scopeM rootL 0).map valueM, e.l.length ≤ 100) ∧ ∀ e ∈ (scopeM rootL 1).map valueM, e.l.length ≤ 100 := by decide +kernel
  generalize hA : (scopeM rootL 0).map valueM = A at *
  have hW := RRow0_pure rootL A [112, 101, 97, 114] (by omega) (fun f hf => by have := hc f hf; omega) ⟨by simp; omega, by simp, fun x hx => by have := k5.2.1 x hx; omega, fun r hr => by cases hr⟩ k1 (by decide)
  generalize hL : (scopeM rootL 1).map valueM = L at *
  have hD := DDiff_pure rootL ⟨A, []⟩ ⟨A, [⟨[112, 101, 97, 114], L⟩]⟩ (by omega) (fun f hf => by have := hc f hf; omega)
    ⟨by simp; omega, by simp, fun x hx => by have := k5.2.1 x hx; omega, fun r hr => by cases hr⟩
    ⟨by simp; omega, by simp, fun x hx => by have := k5.2.1 x hx; omega, fun r hr => by
      rw [List.mem_singleton.1 hr]
      exact ⟨by simp; omega, fun x hx => by have := k5.2.2 x hx; omega⟩⟩
  have hM : diffM rootL ⟨A, []⟩ ⟨A, [⟨[112, 101, 97, 114], L⟩]⟩ = ([cameC ⟨[112, 101, 97, 114], L⟩], 0) := by
    unfold diffM
    rw [k1, k2, if_neg (by simp)]
    simp only [k3, List.nil_append]
    rw [diffR, diffR]
  rw [hM] at hD
  clear k1 k2 k3 hM hA hL
  refine PL.Pure.of_v Try.func9 (by decide) rfl Try.ntmps9 Try.results9 (by simp) rfl ?_
  simp only [go_sem]
  refine vCall_of (hR) ?_ ?_ ?_; (focus simp only [go_sem]); (focus simp only [go_sem])
  simp only [go_sem, flds]
  refine vCall_of (hB) ?_ ?_ ?_; (focus simp only [go_sem, flds]); (focus simp only [go_sem, flds])
  simp only [go_sem, doc]
  refine vCall_of (hW) ?_ ?_ ?_; (focus simp only [go_sem, flds, doc]); (focus simp only [go_sem, flds, doc])
  simp only [go_sem, doc]
  refine vCall_of (hD) ?_ ?_ ?_; (focus simp only [go_sem, flds, doc, row, List.map_cons, List.map_nil]); (focus simp only [go_sem, flds, doc, row, List.map_cons, List.map_nil])
  simp only [go_sem, chgsc, chgs, List.map_cons, List.map_nil, List.length_cons, List.length_nil, chg, cameC, List.length_map, k4]
set_option maxRecDepth 20000 in
set_option maxHeartbeats 16000000 in
theorem DeltaBacks_pure (cs : List Cg) (a b : Cg) (hl : cs.length ≤ maxLen) (hc : ∀ c ∈ cs, FineC c) (ha : FineC a) (hb : FineC b) : PL.Pure Try.prog 3 [chgs cs, chg a, chg b] (.bool true) := by
  have e := maxLen_eq
  have hW := awake37_pure
  have hH1 := RHeavyC_pure cs hl hc
  have hH2 := RHeavyC_pure [a, b] (by simp; omega) (fun c hm => by
    simp only [List.mem_cons, List.mem_nil_iff, or_false] at hm
    rcases hm with rfl | rfl
    · exact ha
    · exact hb)
  have hr2 := room1 (show 2 ≤ 1000000 by omega) (show 192 ≤ 1000 by omega)
  cases g1 : heavyCs cs
  · rw [g1] at hH1
    cases g2 : heavyCs [a, b]
    · rw [g2] at hH2
      simp only [heavyCs, Bool.or_eq_false_iff, decide_eq_false_iff_not, List.any_eq_false] at g1
      have hlen : cs.length ≤ 1000 := by omega
      have hf : ∀ c ∈ cs, FineB c := fun c hm => fineB_of (by have := g1.2 c hm; simpa using this)
      have hf2 := fineB_back hf
      have hbl : (backC cs).length ≤ 1000 := by rw [backC_len]; exact hlen
      have h1 := DBack_pure cs hlen hf
      have h2 := RBackC_pure cs hlen
      have h3 := DBack_pure (backC cs) hbl hf2
      rw [back_back] at h3
      have h4 := RSameAllC_pure (backC cs) (backC cs) (by omega) (by omega) (fun c hm => (hf2 c hm).fine) (fun c hm => (hf2 c hm).fine)
      have h5 := RSameAllC_pure cs cs hl hl hc hc
      rw [decide_eq_true rfl] at h4 h5
      have h6 := DSameC_pure a b ha hb
      have h7 := RSameC_pure a b ha hb
      have h8 := DSameC_pure a a ha ha
      rw [decide_eq_true rfl] at h8
      generalize decide (a = b) = z at h6 h7
      generalize backC cs = B at *
      refine PL.Pure.of_v Try.func3 (by decide) rfl Try.ntmps3 Try.results3 (by simp) rfl ?_
      simp only [go_sem, chgs, chg]
      refine vCall_of (hW) ?_ ?_ ?_; (focus simp only [go_sem]); (focus simp only [go_sem])
      simp only [go_sem]
      refine vCall_of (hH1) ?_ ?_ ?_; (focus simp only [go_sem, chgs]); (focus simp only [go_sem, chgs])
      simp only [go_sem, chg, hr2]
      refine vCall_of (hH2) ?_ ?_ ?_; (focus simp only [go_sem, chgs, chg, List.map_cons, List.map_nil]); (focus simp only [go_sem, chgs, chg, List.map_cons, List.map_nil])
      simp only [go_sem]
      refine vCall_of (h1) ?_ ?_ ?_; (focus simp only [go_sem, chgs]); (focus simp only [go_sem, chgs])
      simp only [go_sem]
      refine vDrawQ (by kernel_rfl) (by kernel_rfl) ?_
      simp only [go_sem]
      refine vCall_of (h2) ?_ ?_ ?_; (focus simp only [go_sem, chgs]); (focus simp only [go_sem, chgs])
      simp only [go_sem, chgs]
      refine vCall_of (h4) ?_ ?_ ?_; (focus simp only [go_sem, chgs]); (focus simp only [go_sem, chgs])
      simp only [go_sem, chgs]
      refine vCall_of (h3) ?_ ?_ ?_; (focus simp only [go_sem, chgs]); (focus simp only [go_sem, chgs])
      simp only [go_sem, chgs]
      refine vCall_of (h5) ?_ ?_ ?_; (focus simp only [go_sem, chgs]); (focus simp only [go_sem, chgs])
      simp only [go_sem, chgs]
      refine vCall_of (h6) ?_ ?_ ?_; (focus simp only [go_sem, chg]); (focus simp only [go_sem, chg])
      simp only [go_sem, chg]
      refine vCall_of (h7) ?_ ?_ ?_; (focus simp only [go_sem, chg]); (focus simp only [go_sem, chg])
      simp only [go_sem, chg]
      refine vCall_of (h8) ?_ ?_ ?_; (focus simp only [go_sem, chg]); (focus simp only [go_sem, chg])
      simp only [go_sem, chg]
      trace_state
    · rw [g2] at hH2
      refine PL.Pure.of_v Try.func3 (by decide) rfl Try.ntmps3 Try.results3 (by simp) rfl ?_
      simp only [go_sem, chgs, chg]
      refine vCall_of (hW) ?_ ?_ ?_; (focus simp only [go_sem]); (focus simp only [go_sem])
      simp only [go_sem]
      refine vCall_of (hH1) ?_ ?_ ?_; (focus simp only [go_sem, chgs]); (focus simp only [go_sem, chgs])
      simp only [go_sem, chg, hr2]
      refine vCall_of (hH2) ?_ ?_ ?_; (focus simp only [go_sem, chgs, chg, List.map_cons, List.map_nil]); (focus simp only [go_sem, chgs, chg, List.map_cons, List.map_nil])
      simp only [go_sem]
  · rw [g1] at hH1
    refine PL.Pure.of_v Try.func3 (by decide) rfl Try.ntmps3 Try.results3 (by simp) rfl ?_
    simp only [go_sem, chgs, chg]
    refine vCall_of (hW) ?_ ?_ ?_; (focus simp only [go_sem]); (focus simp only [go_sem])
    simp only [go_sem]
    refine vCall_of (hH1) ?_ ?_ ?_; (focus simp only [go_sem, chgs]); (focus simp only [go_sem, chgs])
    simp only [go_sem]
end Go.Proofs.Ytmnibpgmcgdfpaa

set_option linter.unusedSimpArgs false
set_option linter.unusedVariables false
set_option linter.unusedSimpArgs false
set_option linter.unusedVariables false
namespace Go.Proofs.Ytmnibpgmcgdfpaa
open Go.PL
open Go.ChangeShapes Go.WideShapes Go.ChangeAt Go.RowKit
theorem Try.own : ownKnob Try.prog.godebug = Option.none := by kernel_rfl
theorem Try.laidOut : laidOutB Try.prog = true := by kernel_rfl
theorem Try.lays : layAll Try.prog = true := by kernel_rfl
theorem oddStrs : oddB Try.prog 25 = false := by kernel_rfl
structure LenLn' (x : Ln) : Prop where
  c : x.fd.cases'.length ≤ maxLen
  f : x.fo.length ≤ maxLen
  b : x.ba.length ≤ maxLen
theorem pt_strs {cs : List PV} (h : PT Try.prog 25 cs) : ∃ l : List Str, cs = [.sl .no (l.map .str)] ∧ l.length ≤ maxLen := by
  obtain ⟨l, rfl, h1, h2⟩ := h.slice_inv oddStrs Try.underlying25
  obtain ⟨xs, rfl, _⟩ := all_told (enc := PV.str) (Q := fun _ => True) (fun p hp => by
    obtain ⟨s, rfl, _⟩ := (h2 p hp).string Try.underlying9
    exact ⟨s, rfl, trivial⟩)
  exact ⟨xs, rfl, by simpa using h1⟩
theorem pt_ref {cs : List PV} (h : PT Try.prog 24 cs) : ∃ r : Rf, cs = [.int .i64 r.sc, .str r.gr, .str r.nm] := by
  have h1 : PTs Try.prog [3, 9, 9] cs := h.struct_inv Try.underlying24
  obtain ⟨a, b, rfl, h2, h3⟩ := h1.cons_inv
  obtain ⟨c, d, rfl, h4, h5⟩ := h3.cons_inv
  obtain ⟨e, f, rfl, h6, h7⟩ := h5.cons_inv
  obtain ⟨x, rfl, _⟩ := h2.int_inv Try.underlying3
  obtain ⟨y, rfl, _⟩ := h4.string_inv Try.underlying9
  obtain ⟨z, rfl, _⟩ := h6.string_inv Try.underlying9
  rw [h7.nil_inv]
  exact ⟨⟨x, y, z⟩, rfl⟩
end Go.Proofs.Ytmnibpgmcgdfpaa

set_option linter.unusedSimpArgs false
set_option linter.unusedVariables false
set_option linter.unusedSimpArgs false
set_option linter.unusedVariables false
namespace Go.Proofs.Ytmnibpgmcgdfpaa
open Go.PL
open Go.ChangeShapes Go.WideShapes Go.ChangeAt Go.RowKit
theorem oddEnts : oddB Try.prog 28 = false := by kernel_rfl
theorem pa_ent {p : PV} (h : PA Try.prog 27 p) : ∃ e : En, p = ent e ∧ e.l.length ≤ maxLen := by
  obtain ⟨cs, rfl, h1⟩ := PA.agg tagg_27 h
  have h1 : PTs Try.prog [24, 2, 25] cs := h1.struct_inv Try.underlying27
  obtain ⟨a, b, rfl, h2, h3⟩ := h1.cons_inv
  obtain ⟨c, d, rfl, h4, h5⟩ := h3.cons_inv
  obtain ⟨e, f, rfl, h6, h7⟩ := h5.cons_inv
  obtain ⟨r, rfl⟩ := pt_ref h2
  obtain ⟨n, rfl, _⟩ := h4.int_inv Try.underlying2
  obtain ⟨l, rfl, hl⟩ := pt_strs h6
  rw [h7.nil_inv]
  exact ⟨⟨r, n, l⟩, rfl, hl⟩
theorem pt_ents {cs : List PV} (h : PT Try.prog 28 cs) : ∃ l : List En, cs = [.sl .no (l.map ent)] ∧ l.length ≤ maxLen ∧ ∀ e ∈ l, e.l.length ≤ maxLen := by
  obtain ⟨l, rfl, h1, h2⟩ := h.slice_inv oddEnts Try.underlying28
  obtain ⟨xs, rfl, h3⟩ := all_told (fun p hp => pa_ent (h2 p hp))
  exact ⟨xs, rfl, by simpa using h1, h3⟩
end Go.Proofs.Ytmnibpgmcgdfpaa

set_option linter.unusedSimpArgs false
set_option linter.unusedVariables false
set_option linter.unusedSimpArgs false
set_option linter.unusedVariables false
namespace Go.Proofs.Ytmnibpgmcgdfpaa
open Go.PL
open Go.ChangeShapes Go.WideShapes Go.ChangeAt Go.RowKit
theorem oddChgs : oddB Try.prog 22 = false := by kernel_rfl
theorem pt_ent {cs : List PV} (h : PT Try.prog 27 cs) : ∃ e : En, cs = [.int .i64 e.at'.sc, .str e.at'.gr, .str e.at'.nm, .int .i64 e.n, .sl .no (e.l.map .str)] ∧ e.l.length ≤ maxLen := by
  have h1 : PTs Try.prog [24, 2, 25] cs := h.struct_inv Try.underlying27
  obtain ⟨a, b, rfl, h2, h3⟩ := h1.cons_inv
  obtain ⟨c, d, rfl, h4, h5⟩ := h3.cons_inv
  obtain ⟨e, f, rfl, h6, h7⟩ := h5.cons_inv
  obtain ⟨r, rfl⟩ := pt_ref h2
  obtain ⟨n, rfl, _⟩ := h4.int_inv Try.underlying2
  obtain ⟨l, rfl, hl⟩ := pt_strs h6
  rw [h7.nil_inv]
  exact ⟨⟨r, n, l⟩, rfl, hl⟩
theorem pa_chg {p : PV} (h : PA Try.prog 30 p) : ∃ c : Cg, p = chg c ∧ FineC c := by
  obtain ⟨cs, rfl, h1⟩ := PA.agg tagg_30 h
  have h1 : PTs Try.prog [3, 9, 27, 27, 28] cs := h1.struct_inv Try.underlying30
  obtain ⟨a1, b1, rfl, h2, h3⟩ := h1.cons_inv
  obtain ⟨a2, b2, rfl, h4, h5⟩ := h3.cons_inv
  obtain ⟨a3, b3, rfl, h6, h7⟩ := h5.cons_inv
  obtain ⟨a4, b4, rfl, h8, h9⟩ := h7.cons_inv
  obtain ⟨a5, b5, rfl, h10, h11⟩ := h9.cons_inv
  obtain ⟨x1, rfl, _⟩ := h2.int_inv Try.underlying3
  obtain ⟨x2, rfl, _⟩ := h4.string_inv Try.underlying9
  obtain ⟨x3, rfl, k3⟩ := pt_ent h6
  obtain ⟨x4, rfl, k4⟩ := pt_ent h8
  obtain ⟨x5, rfl, k5, q5⟩ := pt_ents h10
  rw [h11.nil_inv]
  exact ⟨⟨x1, x2, x3, x4, x5⟩, rfl, ⟨k3, k4, k5, q5⟩⟩
theorem pa_chgs {p : PV} (h : PA Try.prog 22 p) : ∃ l : List Cg, p = chgs l ∧ l.length ≤ maxLen ∧ ∀ c ∈ l, FineC c := by
  obtain ⟨l, rfl, h1, h2⟩ := h.slice oddChgs Try.underlying22
  obtain ⟨xs, rfl, h3⟩ := all_told (fun p hp => pa_chg (h2 p hp))
  exact ⟨xs, rfl, by simpa using h1, h3⟩
end Go.Proofs.Ytmnibpgmcgdfpaa
