/- Contracts of functions and laws of this seat, each for every input that it names: lemmas of the proof. -/
import Derived.Test.YtnadlkjmdimjkaaGreatXBk
import Derived.Test.YtnadlkjmdimjkaaGreatXAw
set_option linter.unusedSimpArgs false
set_option linter.unusedVariables false
set_option linter.unusedSimpArgs false
set_option linter.unusedVariables false
namespace Go.Proofs.YtnadlkjmdimjkaaGreat
open Go.PL
theorem rightLn_kind {x : Ln} (h : rightLn x = true) : (x.kind = 1 ∨ x.kind = 2 ∨ x.kind = 3 ∨ x.kind = 4 ∨ x.kind = 5 ∨ x.kind = 6 ∨ x.kind = 7 ∨ x.kind = 8 ∨ x.kind = 9 ∨ x.kind = 10) ∧ (x.kind ≠ 8 → x.fo = [] ∧ x.ba = []) := by
  unfold rightLn at h
  split at h
  · rename_i hk
    simp only [Bool.and_eq_true, Bool.not_eq_true'] at h
    exact ⟨by omega, fun _ => tablesB_false.1 h.2.2.2.2.1⟩
  · simp only [Bool.and_eq_true] at h
    obtain ⟨_, h⟩ := h
    split at h
    · rename_i hk; exact ⟨by omega, fun hn => absurd hk hn⟩
    · simp only [Bool.and_eq_true, Bool.not_eq_true'] at h
      refine ⟨?_, fun _ => tablesB_false.1 h.1⟩
      have h := h.2
      split at h
      · omega
      · simp only [Bool.and_eq_true] at h
        have h := h.2
        split at h
        · omega
        · simp only [Bool.and_eq_true] at h
          have h := h.2
          split at h
          · omega
          · split at h
            · omega
            · simp only [Bool.and_eq_true, decide_eq_true_eq] at h
              omega
def otherM (k : Int) : Int := if k = 2 ∨ k = 3 then 5 - k else if k = 4 ∨ k = 5 then 9 - k else if k = 6 ∨ k = 9 then 15 - k else if k = 7 ∨ k = 10 then 17 - k else k
set_option maxRecDepth 20000 in
set_option maxHeartbeats 8000000 in
theorem other_pure (k : Int) (h : k = 1 ∨ k = 2 ∨ k = 3 ∨ k = 4 ∨ k = 5 ∨ k = 6 ∨ k = 7 ∨ k = 8 ∨ k = 9 ∨ k = 10) : PL.Pure Tryz.prog 222 [.int .i64 k] (.int .i64 (otherM k)) := by
  rcases h with rfl | rfl | rfl | rfl | rfl | rfl | rfl | rfl | rfl | rfl
  all_goals
    refine PL.Pure.of_v Tryz.func222 (by decide) rfl Tryz.ntmps222 Tryz.results222 (by simp) rfl ?_
    simp only [go_sem]
    rfl
set_option maxRecDepth 20000 in
set_option maxHeartbeats 16000000 in
theorem RInverse_pure (x : Ln) (hx : OkLn x) : PL.Pure Tryz.prog 179 [lns x] (lnc (invM x)) := by
  have hR := RLRight_pure x hx
  unfold invM
  cases hlr : rightLn x
  · rw [hlr] at hR
    refine PL.Pure.of_v Tryz.func179 (by decide) rfl Tryz.ntmps179 Tryz.results179 (by simp) (lnc_dids _) ?_
    simp only [go_sem, lns]
    refine vCall_of (hR) ?_ ?_ ?_; (focus simp only [go_sem, lns]); (focus simp only [go_sem, lns])
    simp only [go_sem, if_true, lnc, lns_default]
  rw [hlr] at hR
  obtain ⟨hk, ht⟩ := rightLn_kind hlr
  have hO := other_pure x.kind hk
  simp only [Bool.true_eq_false, if_false]
  obtain ⟨kind, at', nm, ot, fac, fd, fo, ba⟩ := x
  simp only at hk ht hO
  clear hx hlr
  by_cases h8 : kind = 8
  · subst h8
    refine PL.Pure.of_v Tryz.func179 (by decide) rfl Tryz.ntmps179 Tryz.results179 (by simp) (lnc_dids _) ?_
    simp only [go_sem, lns]
    refine vCall_of (hR) ?_ ?_ ?_; (focus simp only [go_sem, lns]); (focus simp only [go_sem, lns])
    simp only [go_sem, lns]
    refine vDrawQ (by kernel_rfl) (by kernel_rfl) ?_
    simp only [go_sem]
    refine vCall_of (hO) ?_ ?_ ?_; (focus simp only [go_sem, lns]); (focus simp only [go_sem, lns])
    simp only [go_sem, lnc, lns, invR]
    rfl
  obtain ⟨rfl, rfl⟩ := ht h8
  rcases hk with rfl | rfl | rfl | rfl | rfl | rfl | rfl | rfl | rfl | rfl
  all_goals first
    | (exact absurd rfl h8)
    | (refine PL.Pure.of_v Tryz.func179 (by decide) rfl Tryz.ntmps179 Tryz.results179 (by simp) (lnc_dids _) ?_
       simp only [go_sem, lns]
       refine vCall_of (hR) ?_ ?_ ?_; (focus simp only [go_sem, lns]); (focus simp only [go_sem, lns])
       simp only [go_sem, lns]
       refine vDrawQ (by kernel_rfl) (by kernel_rfl) ?_
       simp only [go_sem]
       refine vCall_of (hO) ?_ ?_ ?_; (focus simp only [go_sem, lns]); (focus simp only [go_sem, lns])
       simp only [go_sem, lnc, lns, invR]
       rfl)
def lensM (m : List Eg) (x : Lg) : Ln × Int := match findE m x.id with | none => (default, 6) | some e => if x.down = true then (e.ln, 0) else (invR e.ln, 0)
structure RightM (m : List Eg) : Prop where
  r : ∀ e ∈ m, edgeB e = true
theorem edge_right {e : Eg} (h : edgeB e = true) : rightLn e.ln = true := by
  simp only [edgeB, Bool.and_eq_true] at h; exact h.2.2.2.2
theorem rightPut {m : List Eg} (h : RightM m) (e : Eg) : RightM (putM m e).1 := by
  unfold putM
  split
  · exact h
  · rename_i hb
    split
    · split <;> exact h
    · split
      · exact h
      · refine ⟨fun x hx => ?_⟩
        rcases List.mem_append.1 hx with hx | hx
        · exact h.r x hx
        · rw [List.mem_singleton.1 hx]; simpa using hb
theorem rightGrown : ∀ (l : List Eg) {m : List Eg}, RightM m → RightM (l.foldl (fun m e => (putM m e).1) m)
  | [], m, h => h
  | e :: l, m, h => rightGrown l (rightPut h e)
theorem right_nil : RightM [] := ⟨fun e h => by cases h⟩
set_option maxRecDepth 20000 in
set_option maxHeartbeats 16000000 in
theorem TLens_pure (m : List Eg) (x : Lg) (hm : OkM m) (hr : RightM m) : PL.Pure Tryz.prog 139 [tr (treeOf m), lg x] (lnc (lensM m x)) := by
  have hF := TFind_pure m x.id hm
  unfold findTM at hF
  unfold lensM
  cases hf : findE m x.id with
  | none =>
    rw [hf] at hF
    simp only at hF ⊢
    refine PL.Pure.of_v Tryz.func139 (by decide) rfl Tryz.ntmps139 Tryz.results139 (by simp) (lnc_dids _) ?_
    simp only [go_sem, tr, lg]
    refine vCall_of (hF) ?_ ?_ ?_; (focus simp only [go_sem, tr, tg]); (focus simp only [go_sem, tr, tg])
    simp only [go_sem, edc, eg_default, lnc, lns_default]
  | some e =>
    rw [hf] at hF
    simp only at hF ⊢
    have hem := (findE_id hf).2
    have hO := LOwn_pure e.ln (hm.l e hem)
    have hI := Inverse_pure e.ln (hm.l e hem)
    have hi : invM e.ln = (invR e.ln, 0) := by unfold invM; rw [edge_right (hr.r e hem)]; rfl
    rw [hi] at hI
    obtain ⟨id, down⟩ := x
    cases down
    · refine PL.Pure.of_v Tryz.func139 (by decide) rfl Tryz.ntmps139 Tryz.results139 (by simp) (lnc_dids _) ?_
      simp only [go_sem, tr, lg]
      refine vCall_of (hF) ?_ ?_ ?_; (focus simp only [go_sem, tr, tg]); (focus simp only [go_sem, tr, tg])
      simp only [go_sem, edc, eg]
      refine vCall_of (hI) ?_ ?_ ?_; (focus simp only [go_sem, lns]); (focus simp only [go_sem, lns])
      simp only [go_sem, lnc, lns, Bool.false_eq_true, if_false]
    · refine PL.Pure.of_v Tryz.func139 (by decide) rfl Tryz.ntmps139 Tryz.results139 (by simp) (lnc_dids _) ?_
      simp only [go_sem, tr, lg]
      refine vCall_of (hF) ?_ ?_ ?_; (focus simp only [go_sem, tr, tg]); (focus simp only [go_sem, tr, tg])
      simp only [go_sem, edc, eg]
      refine vCall_of (hO) ?_ ?_ ?_; (focus simp only [go_sem, lns]); (focus simp only [go_sem, lns])
      simp only [go_sem, lnc, lns, if_true]
set_option maxRecDepth 20000 in
set_option maxHeartbeats 16000000 in
theorem RLens_pure (m : List Eg) (x : Lg) (hm : OkM m) (hr : RightM m) : PL.Pure Tryz.prog 110 [egs m, lg x] (lnc (lensM m x)) := by
  have hA := RAtE_pure m x.id (by rw [maxLen_eq]; have := hm.n; omega)
  unfold lensM
  rcases idx_find (m := m) (id := x.id) with ⟨h1, h2⟩ | ⟨i, hi, h1, h2⟩
  · rw [h1] at hA
    rw [h2]
    refine PL.Pure.of_v Tryz.func110 (by decide) rfl Tryz.ntmps110 Tryz.results110 (by simp) (lnc_dids _) ?_
    simp only [go_sem, egs, lg]
    refine vCall_of (hA) ?_ ?_ ?_; (focus simp only [go_sem, egs, tg]); (focus simp only [go_sem, egs, tg])
    simp only [go_sem, lnc, lns_default]
  · rw [h1] at hA
    rw [h2]
    simp only
    have hem : m.getD i default ∈ m := getD_mem hi
    have hI := RInverse_pure (m.getD i default).ln (hm.l _ hem)
    have hv : invM (m.getD i default).ln = (invR (m.getD i default).ln, 0) := by unfold invM; rw [edge_right (hr.r _ hem)]; rfl
    rw [hv] at hI
    have n1 : ¬ (i : Int) < 0 := by omega
    have i0 : (0 : Int) ≤ (i : Int) := by omega
    have i1 : (i : Int) < (m.length : Int) := by omega
    obtain ⟨id, down⟩ := x
    cases down
    · refine PL.Pure.of_v Tryz.func110 (by decide) rfl Tryz.ntmps110 Tryz.results110 (by simp) (lnc_dids _) ?_
      simp only [go_sem, egs, lg]
      refine vCall_of (hA) ?_ ?_ ?_; (focus simp only [go_sem, egs, tg]); (focus simp only [go_sem, egs, tg])
      simp only [go_sem, n1, i0, i1, getD_eg hi, eg]
      refine vCall_of (hI) ?_ ?_ ?_; (focus simp only [go_sem, lns]); (focus simp only [go_sem, lns])
      simp only [go_sem, lnc, lns, Bool.false_eq_true, if_false]
    · refine PL.Pure.of_v Tryz.func110 (by decide) rfl Tryz.ntmps110 Tryz.results110 (by simp) (lnc_dids _) ?_
      simp only [go_sem, egs, lg]
      refine vCall_of (hA) ?_ ?_ ?_; (focus simp only [go_sem, egs, tg]); (focus simp only [go_sem, egs, tg])
      simp only [go_sem, n1, i0, i1, getD_eg hi, eg, lnc, lns, if_true]
theorem okInv {x : Ln} (h : OkLn x) : OkLn (invR x) := by
  unfold invR
  repeat' split
  all_goals first | exact ⟨h.c, h.f, h.b⟩ | exact ⟨h.c, h.b, h.f⟩
theorem okLens {m : List Eg} (hm : OkM m) (x : Lg) : OkLn (lensM m x).1 := by
  unfold lensM
  split
  · exact ⟨by decide, by decide, by decide⟩
  · rename_i e he
    have := hm.l e (findE_id he).2
    split
    · exact this
    · exact okInv this
end Go.Proofs.YtnadlkjmdimjkaaGreat

set_option linter.unusedSimpArgs false
set_option linter.unusedVariables false
set_option linter.unusedSimpArgs false
set_option linter.unusedVariables false
namespace Go.Proofs.YtnadlkjmdimjkaaGreat
open Go.PL
theorem upL_split (u v : List Eg) : upL (u ++ v) = v.reverse.map (·.id) ++ upL u := by simp [upL]
/-- where two ways part -/
def meetT (p q : List Eg) : Tg := (upL (p.take (lcp p q))).getD 0 default
theorem upL_at (p q : List Eg) : (upL p).getD (p.length - lcp p q) default = meetT p q := by
  have h := upL_split (p.take (lcp p q)) (p.drop (lcp p q))
  rw [List.take_append_drop] at h
  have hl : ((p.drop (lcp p q)).reverse.map (·.id)).length = p.length - lcp p q := by simp
  rw [h, getD_append_right (by omega), hl, Nat.sub_self]
  rfl
def meetM (m : List Eg) (a b : Tg) : Tg × Int := if pathC m a b ≠ 0 then (default, pathC m a b) else (meetT (wayD m a) (wayD m b), 0)
def tgc (x : Tg × Int) : PV := .tup [tg x.1, .int .i64 x.2]
theorem tgc_dids (x : Tg × Int) : (tgc x).dids = [] := by simp only [tgc, PV.dids, PV.didsL, tg_dids, List.append_nil]
theorem tg_default : tg default = .agg [.int .i64 0, .int .i64 0] := rfl
end Go.Proofs.YtnadlkjmdimjkaaGreat

set_option linter.unusedSimpArgs false
set_option linter.unusedVariables false
set_option linter.unusedSimpArgs false
set_option linter.unusedVariables false
namespace Go.Proofs.YtnadlkjmdimjkaaGreat
open Go.PL
theorem legs_in {m : List Eg} {a b : Tg} (h : pathC m a b = 0) (ha : Apart m) : ∀ x ∈ legsW (wayD m a) (wayD m b), ∃ e, e ∈ m ∧ findE m x.id = some e ∧ x.id = e.id := by
  obtain ⟨h1, h2⟩ := pathC_zero.1 h
  obtain ⟨wa, _, _⟩ := live_way h1
  obtain ⟨wb, _, _⟩ := live_way h2
  intro x hx
  have key : ∀ e ∈ m, ∃ e', e' ∈ m ∧ findE m e.id = some e' ∧ e.id = e'.id := fun e he => ⟨e, he, ha.find he, rfl⟩
  unfold legsW at hx
  rcases List.mem_append.1 hx with hx | hx
  · obtain ⟨e, he, rfl⟩ := List.mem_map.1 hx
    exact key e (wa.mem e (List.mem_of_mem_drop (List.mem_reverse.1 he)))
  · obtain ⟨e, he, rfl⟩ := List.mem_map.1 hx
    exact key e (wb.mem e (List.mem_of_mem_drop he))
def lenses (m : List Eg) (l : List Lg) : List Ln := l.map fun x => (lensM m x).1
def rowM (m : List Eg) (a b : Tg) : List Ln × Int := if pathC m a b ≠ 0 then ([], pathC m a b) else (lenses m (legsW (wayD m a) (wayD m b)), 0)
def lnss (l : List Ln) : PV := .sl .no (l.map lns)
def lnsc (x : List Ln × Int) : PV := .tup [lnss x.1, .int .i64 x.2]
theorem lnss_dids (l : List Ln) : (lnss l).dids = [] := by
  unfold lnss
  simp only [PV.dids]
  induction l with
  | nil => rfl
  | cons e l ih => simp only [List.map_cons, PV.didsL, ih, lns_dids, List.append_nil]
theorem lnsc_dids (x : List Ln × Int) : (lnsc x).dids = [] := by simp only [lnsc, PV.dids, PV.didsL, lnss_dids, List.append_nil]
theorem sized_ln (l : List Ln) : Sized 16 (l.map lns) := fun e he => by
  obtain ⟨x, _, rfl⟩ := List.mem_map.1 he; rfl
theorem getD_ln {l : List Ln} {i : Nat} (h : i < l.length) : (l.map lns).getD i .any = lns (l.getD i default) := getD_map h
set_option maxRecDepth 20000 in
set_option maxHeartbeats 16000000 in
theorem Row_pure (m : List Eg) (a b : Tg) (hm : OkM m) (hr : RightM m) : PL.Pure Tryz.prog 76 [tr (treeOf m), tg a, tg b] (lnsc (rowM m a b)) := by
  have hP := Path_pure m a b hm
  have hll := legs_len m a b hm
  unfold rowM
  unfold pathM at hP hll
  by_cases hc : pathC m a b = 0
  · have hin := legs_in hc hm.a
    simp only [hc, ne_eq, not_true_eq_false, if_false] at hP hll ⊢
    generalize legsW (wayD m a) (wayD m b) = legs at *
    have hlm : legs.length ≤ maxLen := by rw [maxLen_eq]; omega
    refine PL.Pure.of_v Tryz.func76 (by decide) rfl Tryz.ntmps76 Tryz.results76 (by simp) (lnsc_dids _) ?_
    simp only [go_sem, tr, tg]
    refine vCall_of (hP) ?_ ?_ ?_; (focus simp only [go_sem, tr, tg]); (focus simp only [go_sem, tr, tg])
    simp only [go_sem, legsc, lgs, List.length_map]
    repeat ((with_reducible refine And.intro ?_ ?_); (focus ((repeat' (with_reducible apply And.intro)) <;> (first | omega | exact room_small (by omega) (by omega) | exact room_small (by simp; omega) (by omega) | exact sized_str _ | (simp; done) | (simp; omega)))))
    refine awp_moveRow 10 27 46 0 16 87 [] rfl rfl rfl ?_
    refine vLoopM (ι := { x : Nat // x ≤ (legs).length }) 49 (fun x => [(0, tr (treeOf m)), (10, .sl (.row 46) ((lenses m (legs.take x.1)).map lns)), (28, lgs legs), (29, .int .i64 (legs.length : Int)), (30, .int .i64 (x.1 : Int))]) (fun x => []) (fun x => [(46, .live (x.1) (16) (87))]) (fun x => (legs).length - x.1) ⟨0, Nat.zero_le _⟩ ⟨rfl, (forall_cons rfl (forall_cons rfl (forall_cons rfl (forall_cons rfl (forall_cons rfl forall_nil))))), forall_nil, (forall_cons rfl forall_nil)⟩ (fun x => ⟨(forall_cons rfl (forall_cons (by simp [PV.ids, refInM]) (forall_cons rfl (forall_cons rfl (forall_cons rfl forall_nil))))), forall_nil⟩) (fun x => ?_); obtain ⟨k, hk⟩ := x; simp only at hk ⊢
    by_cases h : (k : Int) < (legs.length : Int)
    · (have hka : k < (legs).length := by omega); (have w1 := w64s hka (hlm)); (have i1 : (0 : Int) ≤ (k : Int) := by omega)
      obtain ⟨e, he, hfe, _⟩ := hin _ (getD_mem (d := default) hka)
      have hL := TLens_pure m (legs.getD k default) hm hr
      have hz : (lensM m (legs.getD k default)).2 = 0 := by unfold lensM; rw [hfe]; simp only; split <;> rfl
      have hts : legs.take (k + 1) = legs.take k ++ [legs.getD k default] := by rw [List.take_add_one, getD_lt hka]; simp [hka]
      have hkl : (lenses m (legs.take k)).length = k := by simp [lenses]; omega
      have hrm := room1 (show k + 1 ≤ 1000000 by omega) (show 232 ≤ 1000 by omega)
      simp only [go_sem, tr, h, lgs, getD_lg hka, lg, i1]
      refine vCall_of (hL) ?_ ?_ ?_; (focus simp only [go_sem, tr, lg]); (focus simp only [go_sem, tr, lg])
      simp only [go_sem, lnc, hz, lns, sized_ln, List.length_map, hkl, hrm, w1]
      exact ⟨⟨k + 1, by (try simp only); omega⟩, by show (legs).length - (k + 1) < (legs).length - k; omega, ⟨rfl, (forall_cons rfl (forall_cons (by (show PV.sl _ _ = PV.sl _ _; simp [hts, lenses, lns])) (forall_cons rfl (forall_cons rfl (forall_cons rfl forall_nil))))), forall_nil, (forall_cons rfl forall_nil)⟩⟩
    · obtain rfl : k = legs.length := by omega
      have htk : legs.take legs.length = legs := List.take_length
      simp only [go_sem, h, htk, lnsc, lnss]
  · have hc' : (pathC m a b != 0) = true := by simpa using hc
    simp only [ne_eq, hc, not_false_eq_true, if_true] at hP ⊢
    refine PL.Pure.of_v Tryz.func76 (by decide) rfl Tryz.ntmps76 Tryz.results76 (by simp) (lnsc_dids _) ?_
    simp only [go_sem, tr, tg]
    refine vCall_of (hP) ?_ ?_ ?_; (focus simp only [go_sem, tr, tg]); (focus simp only [go_sem, tr, tg])
    simp only [go_sem, legsc, lgs, hc', lnsc, lnss, List.map_nil]
end Go.Proofs.YtnadlkjmdimjkaaGreat

set_option linter.unusedSimpArgs false
set_option linter.unusedVariables false
set_option linter.unusedSimpArgs false
set_option linter.unusedVariables false
namespace Go.Proofs.YtnadlkjmdimjkaaGreat
open Go.PL
/-! the order of places -/
theorem bl_irrefl : ∀ (a : Str), bytesLt a a = false
  | [] => rfl
  | x :: a => by
    have := bl_irrefl a
    unfold bytesLt at *
    simp [Op.bytesLess, this]
theorem bl_trans : ∀ {a b c : Str}, bytesLt a b = true → bytesLt b c = true → bytesLt a c = true
  | [], [], _, h, _ => by simp [bytesLt, Op.bytesLess] at h
  | [], _ :: _, [], _, h => by simp [bytesLt, Op.bytesLess] at h
  | [], _ :: _, _ :: _, _, _ => by simp [bytesLt, Op.bytesLess]
  | _ :: _, [], _, h, _ => by simp [bytesLt, Op.bytesLess] at h
  | _ :: _, _ :: _, [], _, h => by simp [bytesLt, Op.bytesLess] at h
  | x :: a, y :: b, z :: c, h1, h2 => by
    have ih := bl_trans (a := a) (b := b) (c := c)
    unfold bytesLt at *
    simp only [Op.bytesLess, Bool.or_eq_true, decide_eq_true_eq, Bool.and_eq_true, beq_iff_eq] at *
    rcases h1 with h1 | ⟨rfl, h1⟩
    · rcases h2 with h2 | ⟨rfl, h2⟩
      · exact .inl (UInt8.lt_trans h1 h2)
      · exact .inl h1
    · rcases h2 with h2 | ⟨rfl, h2⟩
      · exact .inl h2
      · exact .inr ⟨rfl, ih h1 h2⟩
theorem lb_irrefl (a : Rf) : lessB a a = false := by simp [lessB, bl_irrefl]
theorem lb_trans {a b c : Rf} (h1 : lessB a b = true) (h2 : lessB b c = true) : lessB a c = true := by
  unfold lessB at *
  by_cases e1 : a.sc = b.sc
  · by_cases e2 : b.sc = c.sc
    · simp only [e1, e2, ne_eq, not_true_eq_false, if_false] at *
      by_cases g1 : a.gr = b.gr
      · by_cases g2 : b.gr = c.gr
        · simp only [g1, g2, not_true_eq_false, if_false] at *
          exact bl_trans h1 h2
        · simp only [g1, g2, not_true_eq_false, not_false_eq_true, if_false, if_true] at *
          exact h2
      · by_cases g2 : b.gr = c.gr
        · rw [← g2]
          simp only [g1, not_false_eq_true, if_true] at *
          exact h1
        · simp only [g1, g2, not_false_eq_true, if_true] at *
          have := bl_trans h1 h2
          have hn : ¬ a.gr = c.gr := fun e => by rw [e, bl_irrefl] at this; cases this
          simp only [hn, not_false_eq_true, if_true]
          exact this
    · simp only [e1, e2, ne_eq, not_false_eq_true, if_true] at *
      exact h2
  · by_cases e2 : b.sc = c.sc
    · rw [← e2]
      simp only [e1, ne_eq, not_false_eq_true, if_true] at *
      exact h1
    · simp only [e1, e2, ne_eq, not_false_eq_true, if_true, decide_eq_true_eq] at *
      have hn : ¬ a.sc = c.sc := by omega
      simp only [hn, not_false_eq_true, if_true, decide_eq_true_eq]
      omega
/-- rising by places -/
def Rise (l : List Fd) : Prop := l.Pairwise fun a b => lessB a.at' b.at' = true
theorem rise_of_steps : ∀ {l : List Fd}, (∀ i, i < l.length → i = 0 ∨ lessB (l.getD (i - 1) default).at' (l.getD i default).at' = true) → Rise l
  | [], _ => List.Pairwise.nil
  | [a], _ => List.pairwise_singleton _ _
  | a :: b :: l, h => by
    have ih : Rise (b :: l) := rise_of_steps fun i hi => by
      cases i with
      | zero => exact .inl rfl
      | succ i =>
        have := h (i + 2) (by simp at hi ⊢; omega)
        right
        simpa using this
    have hab : lessB a.at' b.at' = true := by simpa using h 1 (by simp)
    refine List.pairwise_cons.2 ⟨fun x hx => ?_, ih⟩
    rcases List.mem_cons.1 hx with rfl | hx
    · exact hab
    · exact lb_trans hab ((List.pairwise_cons.1 ih).1 x hx)
theorem steps_of_rise {l : List Fd} (h : Rise l) : ∀ i, i < l.length → i = 0 ∨ lessB (l.getD (i - 1) default).at' (l.getD i default).at' = true := fun i hi => by
  by_cases h0 : i = 0
  · exact .inl h0
  · right
    rw [getD_lt (by omega), getD_lt hi]
    exact List.pairwise_iff_getElem.1 h (i - 1) i (by omega) hi (by omega)
theorem right_iff {l : List Fd} : rightL l = true ↔ l.length ≤ 16 ∧ Rise l ∧ ∀ f ∈ l, rightF f = true := by
  unfold rightL
  simp only [Bool.and_eq_true, Bool.not_eq_true', decide_eq_false_iff_not, List.all_eq_true, List.mem_range, fldOk, Bool.or_eq_true, decide_eq_true_eq]
  constructor
  · rintro ⟨h1, h2⟩
    refine ⟨by omega, rise_of_steps fun i hi => (h2 i hi).2, fun f hf => ?_⟩
    obtain ⟨i, hi, rfl⟩ := List.getElem_of_mem hf
    have := (h2 i hi).1
    rwa [getD_lt hi] at this
  · rintro ⟨h1, h2, h3⟩
    exact ⟨by omega, fun i hi => ⟨h3 _ (getD_mem hi), steps_of_rise h2 i hi⟩⟩
theorem rise_at {l : List Fd} (h : Rise l) {f g : Fd} (hf : f ∈ l) (hg : g ∈ l) (e : f.at' = g.at') : f = g := by
  obtain ⟨i, hi, rfl⟩ := List.getElem_of_mem hf
  obtain ⟨j, hj, rfl⟩ := List.getElem_of_mem hg
  rcases Nat.lt_trichotomy i j with h1 | h1 | h1
  · have := List.pairwise_iff_getElem.1 h i j hi hj h1
    rw [e, lb_irrefl] at this; cases this
  · subst h1; rfl
  · have := List.pairwise_iff_getElem.1 h j i hj hi h1
    rw [e, lb_irrefl] at this; cases this
end Go.Proofs.YtnadlkjmdimjkaaGreat

set_option linter.unusedSimpArgs false
set_option linter.unusedVariables false
set_option linter.unusedSimpArgs false
set_option linter.unusedVariables false
namespace Go.Proofs.YtnadlkjmdimjkaaGreat
open Go.PL
theorem atF_idx (l : List Fd) (r : Rf) : (idx (atF r) l = -1 ∧ ∀ g ∈ l, g.at' ≠ r) ∨ ∃ i : Nat, ∃ h : i < l.length, idx (atF r) l = (i : Int) ∧ (l[i]).at' = r := by
  unfold idx
  cases hf : l.findIdx? (atF r) with
  | none =>
    left
    refine ⟨rfl, fun g hg e => ?_⟩
    rw [List.findIdx?_eq_none_iff] at hf
    have := hf g hg
    simp [atF, e] at this
  | some i =>
    right
    rw [List.findIdx?_eq_some_iff_getElem] at hf
    obtain ⟨h1, h2, _⟩ := hf
    exact ⟨i, h1, rfl, by simpa [atF] using h2⟩
theorem find_mem {l : List Fd} (h : Rise l) {f : Fd} (hf : f ∈ l) : findF l f.at' = (f, 0) := by
  unfold findF
  rcases atF_idx l f.at' with ⟨_, h2⟩ | ⟨i, hi, h1, h2⟩
  · exact absurd rfl (h2 f hf)
  · rw [h1, if_neg (by omega)]
    simp only [Int.toNat_natCast]
    rw [getD_lt hi]
    rw [rise_at h (List.getElem_mem hi) hf h2]
theorem find_zero {l : List Fd} {r : Rf} (h : (findF l r).2 = 0) : (findF l r).1 ∈ l ∧ (findF l r).1.at' = r := by
  unfold findF at *
  rcases atF_idx l r with ⟨h1, _⟩ | ⟨i, hi, h1, h2⟩
  · rw [h1] at h; simp at h
  · rw [h1, if_neg (by omega)]
    simp only [Int.toNat_natCast]
    rw [getD_lt hi]
    exact ⟨List.getElem_mem hi, h2⟩
theorem wo_fwd {l : List Fd} {r : Rf} (h : (withoutM l r).2 = 0) : rightL l = true ∧ (∃ f ∈ l, f.at' = r) ∧ rightL (withoutM l r).1 = true ∧ (∀ g, g ∈ (withoutM l r).1 ↔ g ∈ l ∧ g.at' ≠ r) ∧ (withoutM l r).1.length + 1 = l.length := by
  unfold withoutM at *
  cases hr : rightL l with
  | false => rw [hr] at h; simp at h
  | true =>
    rcases atF_idx l r with ⟨h1, _⟩ | ⟨i, hi, h1, h2⟩
    · rw [hr, h1] at h; simp at h
    · simp only [h1, Bool.true_eq_false, if_false, show ¬ (i : Int) < 0 by omega, Int.toNat_natCast]
      obtain ⟨k1, k2, k3⟩ := right_iff.1 hr
      have hsub : (l.eraseIdx i).Sublist l := List.eraseIdx_sublist _ _
      have hlen : (l.eraseIdx i).length + 1 = l.length := by rw [List.length_eraseIdx_of_lt hi]; omega
      refine ⟨trivial, ⟨_, List.getElem_mem hi, h2⟩, right_iff.2 ⟨by omega, List.Pairwise.sublist hsub k2, fun f hf => k3 f (hsub.mem hf)⟩, fun g => ?_, hlen⟩
      rw [List.mem_eraseIdx_iff_getElem]
      constructor
      · rintro ⟨j, hj, hne, rfl⟩
        refine ⟨List.getElem_mem hj, fun e => ?_⟩
        have e2 := rise_at k2 (List.getElem_mem hj) (List.getElem_mem hi) (e.trans h2.symm)
        rcases Nat.lt_trichotomy j i with q | q | q
        · have := List.pairwise_iff_getElem.1 k2 j i hj hi q
          rw [e2, lb_irrefl] at this; cases this
        · exact hne q
        · have := List.pairwise_iff_getElem.1 k2 i j hi hj q
          rw [e2, lb_irrefl] at this; cases this
      · rintro ⟨hg, hne⟩
        obtain ⟨j, hj, rfl⟩ := List.getElem_of_mem hg
        exact ⟨j, hj, fun e => hne (by subst e; exact h2), rfl⟩
theorem wo_bwd {l : List Fd} {r : Rf} (hr : rightL l = true) (h : ∃ f ∈ l, f.at' = r) : (withoutM l r).2 = 0 := by
  obtain ⟨f, hf, e⟩ := h
  unfold withoutM
  rcases atF_idx l r with ⟨_, h2⟩ | ⟨i, hi, h1, h2⟩
  · exact absurd e (h2 f hf)
  · simp [hr, h1, show ¬ (i : Int) < 0 by omega]
theorem go_fwd : ∀ {rs : List Rf} {l m : List Fd}, rightL l = true → goAll rs l = some m → rightL m = true ∧ (∀ g, g ∈ m ↔ g ∈ l ∧ g.at' ∉ rs) ∧ (∀ r ∈ rs, ∃ f ∈ l, f.at' = r) ∧ rs.Nodup ∧ m.length + rs.length = l.length
  | [], l, m, hr, h => by cases h; exact ⟨hr, by simp, by simp, by simp, by simp⟩
  | r :: rs, l, m, hr, h => by
    unfold goAll at h
    split at h
    · cases h
    · rename_i hz
      obtain ⟨a1, a2, a3, a4, a5⟩ := wo_fwd (by simpa using hz)
      obtain ⟨b1, b2, b3, b4, b5⟩ := go_fwd a3 h
      refine ⟨b1, fun g => ?_, fun q hq => ?_, List.nodup_cons.2 ⟨fun hin => ?_, b4⟩, by simp only [List.length_cons]; omega⟩
      · rw [b2, a4]
        simp only [List.mem_cons, not_or]
        exact ⟨fun h => ⟨h.1.1, h.1.2, h.2⟩, fun h => ⟨⟨h.1, h.2.1⟩, h.2.2⟩⟩
      · rcases List.mem_cons.1 hq with rfl | hq
        · exact a2
        · obtain ⟨f, hf, e⟩ := b3 q hq
          exact ⟨f, ((a4 f).1 hf).1, e⟩
      · obtain ⟨f, hf, e⟩ := b3 r hin
        exact ((a4 f).1 hf).2 e
theorem apply_fwd {l m : List Fd} {x : Ln} (h : applyM l x = (m, 0)) : rightL l = true ∧ rightLn x = true ∧ ∃ cs l1, arrM l x = (cs, true) ∧ goAll (goesR x) l = some l1 ∧ comeAll cs l1 = some m := by
  unfold applyM at h
  split at h
  · simp at h
  · rename_i hh
    simp only [not_or, Bool.not_eq_false] at hh
    refine ⟨hh.1, hh.2, ?_⟩
    split at h
    · simp at h
    · rename_i k hk
      simp only [Prod.mk.injEq, and_true] at h
      subst h
      unfold applyR at hk
      split at hk
      · cases hk
      · rename_i ha
        obtain ⟨l1, h1, h2⟩ := Option.bind_eq_some_iff.1 hk
        refine ⟨(arrM l x).1, l1, ?_, h1, h2⟩
        have : (arrM l x).2 = true := by simpa using ha
        rw [← this]
end Go.Proofs.YtnadlkjmdimjkaaGreat

set_option linter.unusedSimpArgs false
set_option linter.unusedVariables false
set_option linter.unusedSimpArgs false
set_option linter.unusedVariables false
namespace Go.Proofs.YtnadlkjmdimjkaaGreat
open Go.PL
end Go.Proofs.YtnadlkjmdimjkaaGreat

set_option linter.unusedSimpArgs false
set_option linter.unusedVariables false
set_option linter.unusedSimpArgs false
set_option linter.unusedVariables false
namespace Go.Proofs.YtnadlkjmdimjkaaGreat
open Go.PL
structure ChT where
  l : List Fd
  n : Nat
  c : Int
def chainA : List Fd → List Ln → Nat → ChT
  | fs, [], i => ⟨fs, i, 0⟩
  | fs, x :: xs, i => if (applyM fs x).2 ≠ 0 then ⟨[], i, (applyM fs x).2⟩ else chainA (applyM fs x).1 xs (i + 1)
structure ChS (l : List Fd) (row : List Ln) where
  k : Nat
  fs : List Fd
  hk : k ≤ row.length
  ok : OkFs fs
  h : chainA fs (row.drop k) k = chainA l row 0
theorem drop_ln {row : List Ln} {k : Nat} (hk : k < row.length) : row.drop k = row.getD k default :: row.drop (k + 1) := by
  rw [getD_lt hk, List.drop_eq_getElem_cons hk]
end Go.Proofs.YtnadlkjmdimjkaaGreat

set_option linter.unusedSimpArgs false
set_option linter.unusedVariables false
set_option linter.unusedSimpArgs false
set_option linter.unusedVariables false
namespace Go.Proofs.YtnadlkjmdimjkaaGreat
open Go.PL
theorem lcp_max {p q : List Eg} {k : Nat} (hp : k ≤ p.length) (hq : k ≤ q.length) (h : p.take k = q.take k) : k ≤ lcp p q := by
  by_cases hk : k ≤ lcp p q
  · exact hk
  · exfalso
    apply lcp_stop p q (by omega) (by omega)
    have e : (p.take k).getD (lcp p q) default = (q.take k).getD (lcp p q) default := by rw [h]
    rw [getD_lt (by simp; omega), getD_lt (by simp; omega)] at e
    rw [getD_lt (by omega), getD_lt (by omega)]
    simpa using e
theorem meet_comm (p q : List Eg) : meetT p q = meetT q p := by unfold meetT; rw [lcp_take, lcp_comm p q]
theorem nodup_rev {l : List Tg} : l.reverse.Nodup ↔ l.Nodup := by
  unfold List.Nodup
  rw [List.pairwise_reverse]
  constructor <;> exact fun h => h.imp (fun h => h.symm)
theorem way_ids {m : List Eg} (ha : Apart m) {w : List Eg} (hw : ∀ e ∈ w, e ∈ m) (hn : w.Nodup) : (w.map (·.id)).Nodup := by
  induction w with
  | nil => simp
  | cons e w ih =>
    rw [List.map_cons, List.nodup_cons]
    rw [List.nodup_cons] at hn
    refine ⟨fun hx0 => ?_, ih (fun x hx => hw x (by simp [hx])) hn.2⟩
    obtain ⟨x, hx, he⟩ := List.mem_map.1 hx0
    have := ha.inj (hw x (by simp [hx])) (hw e (by simp)) he
    subst this
    exact hn.1 hx
theorem upL_nodup {m : List Eg} (ha : Apart m) {w : List Eg} (hw : ∀ e ∈ w, e ∈ m) (hn : w.Nodup) : (upL w).Nodup := by
  unfold upL
  rw [List.nodup_append]
  refine ⟨?_, by simp, ?_⟩
  · rw [List.map_reverse, nodup_rev]; exact way_ids ha hw hn
  · intro x hx y hy e
    obtain ⟨z, hz, rfl⟩ := List.mem_map.1 hx
    rw [List.mem_singleton.1 hy] at e
    exact ha.n z (hw z (List.mem_reverse.1 hz)) e
theorem stops_apart {m : List Eg} (ha : Apart m) {a b : Tg} {p q : List Eg} (hp : Way m a p) (hq : Way m b q) {e1 e2 : Eg} (h1 : e1 ∈ p.drop (lcp p q)) (h2 : e2 ∈ q.drop (lcp p q)) : e1.id ≠ e2.id := by
  intro e
  obtain ⟨i, hi, rfl⟩ := List.getElem_of_mem h1
  obtain ⟨j, hj, rfl⟩ := List.getElem_of_mem h2
  simp only [List.length_drop] at hi hj
  rw [List.getElem_drop, List.getElem_drop] at e
  have w1 := hp.take (lcp p q + i) (by omega)
  have w2 := hq.take (lcp p q + j) (by omega)
  rw [e] at w1
  have w3 := w1.fn w2
  have hl := congrArg List.length w3
  simp only [List.length_take] at hl
  have hij : i = j := by omega
  subst hij
  have := lcp_max (by omega) (by omega) w3
  omega
end Go.Proofs.YtnadlkjmdimjkaaGreat

set_option linter.unusedSimpArgs false
set_option linter.unusedVariables false
set_option linter.unusedSimpArgs false
set_option linter.unusedVariables false
namespace Go.Proofs.YtnadlkjmdimjkaaGreat
open Go.PL
def hasT (l : List Tg) (t : Tg) : Int := idx (fun x => decide (x = t)) l
theorem RHas18_pure (l : List Tg) (t : Tg) (hl : l.length ≤ maxLen) : PL.Pure Tryz.prog 170 [tgs l, tg t] (.int .i64 (hasT l t)) := RHasT_pure l t hl
theorem hasT_no {l : List Tg} {t : Tg} (h : t ∉ l) : hasT l t = -1 := by
  unfold hasT
  apply idx_none (d := default)
  intro j hj
  rw [decide_eq_false_iff_not]
  intro e
  exact h (e ▸ getD_mem hj)
theorem hasT_yes {l : List Tg} {t : Tg} (h : t ∈ l) : 0 ≤ hasT l t := by
  unfold hasT idx
  cases hf : l.findIdx? fun x => decide (x = t) with
  | none => rw [List.findIdx?_eq_none_iff] at hf; have := hf t h; simp at this
  | some i => simp
end Go.Proofs.YtnadlkjmdimjkaaGreat

set_option linter.unusedSimpArgs false
set_option linter.unusedVariables false
set_option linter.unusedSimpArgs false
set_option linter.unusedVariables false
namespace Go.Proofs.YtnadlkjmdimjkaaGreat
open Go.PL
def traceL : List Ln → Rf → Rf × Bool
  | [], r => (r, true)
  | x :: xs, r => if (traceM x r).2 = false then (default, false) else traceL xs (traceM x r).1
def keptL : List Ln → Rf → Bool
  | [], r => true
  | x :: xs, r => if keptM x r = false then false else if (traceM x r).2 = false then false else keptL xs (traceM x r).1
theorem traceL_cons (x : Ln) (xs : List Ln) (r : Rf) : traceL (x :: xs) r = if (traceM x r).2 = false then (default, false) else traceL xs (traceM x r).1 := rfl
theorem keptL_cons (x : Ln) (xs : List Ln) (r : Rf) : keptL (x :: xs) r = if keptM x r = false then false else if (traceM x r).2 = false then false else keptL xs (traceM x r).1 := rfl
def traceT (m : List Eg) (a b : Tg) (r : Rf) : Rf × Bool := if pathC m a b ≠ 0 then (default, false) else traceL (rowM m a b).1 r
def keptT (m : List Eg) (a b : Tg) (r : Rf) : Bool := if pathC m a b ≠ 0 then false else keptL (rowM m a b).1 r
def trc (x : Rf × Bool) (c : Int) : PV := .tup [ref x.1, .bool x.2, .int .i64 c]
theorem trc_dids (x : Rf × Bool) (c : Int) : (trc x c).dids = [] := by simp only [trc, PV.dids, PV.didsL, ref_dids, List.append_nil]
structure TrS (row : List Ln) (f : List Ln → Rf → Rf × Bool) (r0 : Rf) where
  k : Nat
  r : Rf
  hk : k ≤ row.length
  h : f (row.drop k) r = f row r0
structure KpS (row : List Ln) (r0 : Rf) where
  k : Nat
  r : Rf
  hk : k ≤ row.length
  h : keptL (row.drop k) r = keptL row r0
theorem row_ok {m : List Eg} {a b : Tg} (hm : OkM m) : (rowM m a b).1.length ≤ 1000 ∧ ∀ x ∈ (rowM m a b).1, OkLn x := by
  unfold rowM
  split
  · simp
  · rename_i h
    have hl := legs_len m a b hm
    unfold pathM at hl
    rw [if_neg h] at hl
    refine ⟨by simp only at hl; simp [lenses]; omega, fun x hx => ?_⟩
    obtain ⟨y, _, rfl⟩ := List.mem_map.1 hx
    exact okLens hm y
set_option maxRecDepth 20000 in
set_option maxHeartbeats 16000000 in
theorem TraceTo_pure (m : List Eg) (a b : Tg) (r : Rf) (hm : OkM m) (hr : RightM m) : PL.Pure Tryz.prog 108 [tr (treeOf m), tg a, tg b, ref r] (trc (traceT m a b r) (pathC m a b)) := by
  have hR := Row_pure m a b hm hr
  obtain ⟨hrl, hro⟩ := row_ok (a := a) (b := b) hm
  have hc2 : (rowM m a b).2 = pathC m a b := by unfold rowM; split <;> simp_all
  unfold traceT
  by_cases hc : pathC m a b = 0
  · rw [if_neg (fun h => h hc)]
    rw [hc] at hc2
    generalize hrow : rowM m a b = rw0 at *
    obtain ⟨row, c0⟩ := rw0
    simp only at hc2 hrl hro ⊢
    subst hc2
    rw [hc]
    refine PL.Pure.of_v Tryz.func108 (by decide) rfl Tryz.ntmps108 Tryz.results108 (by simp) (trc_dids _ _) ?_
    simp only [go_sem, tr, tg, ref]
    refine vScopeM (ι := TrS row traceL r) 47 (fun x => [(7, .ptr 7 0), (8, .ptr 8 0), (11, lnss row), (13, .int .i64 (x.k : Int))]) (fun x => [(7, [.int .i64 x.r.sc, .str x.r.gr, .str x.r.nm], false), (8, [.int .i64 0, .str [], .str []], false)]) (fun x => []) (fun x => row.length - x.k) 0 _ (by exact rfl) (fun x => ⟨(forall_cons rfl (forall_cons rfl (forall_cons rfl (forall_cons rfl (forall_nil))))), forall_cons rfl (forall_cons rfl forall_nil)⟩) (fun x => ?_) (fun cut => ?_)
    · obtain ⟨k, r1, hk, h⟩ := x
      simp only
      by_cases he : k = row.length
      · have hb : ((k : Int) == (row.length : Int)) = true := by simp [he]
        have hd : traceL row r = (r1, true) := by rw [← h, he, List.drop_length]; rfl
        simp only [go_sem, lnss, List.length_map, hb, hd, trc, ref]
      · have hb : ((k : Int) == (row.length : Int)) = false := by simp; omega
        have hka : k < row.length := by omega
        have i0 : (0 : Int) ≤ (k : Int) := by omega
        have i1 : (k : Int) < (row.length : Int) := by omega
        have w1 : IntKind.i64.wrap ((k : Int) + 1) = ((k + 1 : Nat) : Int) := by rw [w64 (by omega)]; rfl
        have hT := Trace_pure (row.getD k default) r1 (hro _ (getD_mem (d := default) hka))
        rw [drop_ln hka, traceL_cons] at h
        cases hz : (traceM (row.getD k default) r1).2
        · rw [if_pos hz] at h
          simp only [go_sem, lnss, List.length_map, hb]
          refine vDrawQ (by kernel_rfl) (by kernel_rfl) ?_
          simp only [go_sem, getD_ln hka, lns, i0, i1]
          refine vCall_of (hT) ?_ ?_ ?_; (focus simp only [go_sem, lns, ref]); (focus simp only [go_sem, lns, ref])
          simp only [go_sem, refb, ref, hz, ← h, trc]
          rfl
        · rw [if_neg (by rw [hz]; simp)] at h
          simp only [go_sem, lnss, List.length_map, hb]
          refine vDrawQ (by kernel_rfl) (by kernel_rfl) ?_
          simp only [go_sem, getD_ln hka, lns, i0, i1]
          refine vCall_of (hT) ?_ ?_ ?_; (focus simp only [go_sem, lns, ref]); (focus simp only [go_sem, lns, ref])
          simp only [go_sem, refb, ref, hz, w1]
          exact ⟨⟨k + 1, (traceM (row.getD k default) r1).1, by omega, h⟩, by show row.length - (k + 1) < row.length - k; omega, ⟨rfl, (forall_cons rfl (forall_cons rfl (forall_cons rfl (forall_cons rfl (forall_nil))))), forall_cons ⟨rfl, rfl⟩ (forall_cons ⟨rfl, rfl⟩ forall_nil), forall_nil⟩⟩
    · simp only [go_sem]
      refine vCall_of (hR) ?_ ?_ ?_; (focus simp only [go_sem, tr, tg]); (focus simp only [go_sem, tr, tg])
      simp only [go_sem, lnsc]
      exact awp_label_seq (cut ⟨0, r, Nat.zero_le _, rfl⟩ _ ⟨rfl, (forall_cons rfl (forall_cons rfl (forall_cons rfl (forall_cons rfl (forall_nil))))), forall_cons ⟨rfl, rfl⟩ (forall_cons ⟨rfl, rfl⟩ forall_nil), forall_nil⟩)
  · rw [if_pos hc]
    have hc' : (pathC m a b != 0) = true := by simpa using hc
    have hcr : rowM m a b = ([], pathC m a b) := by unfold rowM; rw [if_pos hc]
    rw [hcr] at hR
    refine PL.Pure.of_v Tryz.func108 (by decide) rfl Tryz.ntmps108 Tryz.results108 (by simp) (trc_dids _ _) ?_
    simp only [go_sem, tr, tg, ref]
    refine vScope0 ?_
    simp only [go_sem]
    refine vCall_of (hR) ?_ ?_ ?_; (focus simp only [go_sem, tr, tg]); (focus simp only [go_sem, tr, tg])
    simp only [go_sem, lnsc, lnss, hc', trc, ref]
    rfl
def kpc (x : Bool) (c : Int) : PV := .tup [.bool x, .int .i64 c]
theorem kpc_dids (x : Bool) (c : Int) : (kpc x c).dids = [] := rfl
set_option maxRecDepth 20000 in
set_option maxHeartbeats 16000000 in
theorem KeptTo_pure (m : List Eg) (a b : Tg) (r : Rf) (hm : OkM m) (hr : RightM m) : PL.Pure Tryz.prog 43 [tr (treeOf m), tg a, tg b, ref r] (kpc (keptT m a b r) (pathC m a b)) := by
  have hR := Row_pure m a b hm hr
  obtain ⟨hrl, hro⟩ := row_ok (a := a) (b := b) hm
  have hc2 : (rowM m a b).2 = pathC m a b := by unfold rowM; split <;> simp_all
  unfold keptT
  by_cases hc : pathC m a b = 0
  · rw [if_neg (fun h => h hc)]
    rw [hc] at hc2
    generalize hrow : rowM m a b = rw0 at *
    obtain ⟨row, c0⟩ := rw0
    simp only at hc2 hrl hro ⊢
    subst hc2
    rw [hc]
    refine PL.Pure.of_v Tryz.func43 (by decide) rfl Tryz.ntmps43 Tryz.results43 (by simp) (kpc_dids _ _) ?_
    simp only [go_sem, tr, tg, ref]
    refine vScopeM (ι := KpS row r) 50 (fun x => [(7, .ptr 7 0), (10, lnss row), (12, .int .i64 (x.k : Int))]) (fun x => [(7, [.int .i64 x.r.sc, .str x.r.gr, .str x.r.nm], false)]) (fun x => []) (fun x => row.length - x.k) 0 _ (by exact rfl) (fun x => ⟨(forall_cons rfl (forall_cons rfl (forall_cons rfl (forall_nil)))), forall_cons rfl forall_nil⟩) (fun x => ?_) (fun cut => ?_)
    · obtain ⟨k, r1, hk, h⟩ := x
      simp only
      by_cases he : k = row.length
      · have hb : ((k : Int) == (row.length : Int)) = true := by simp [he]
        have hd : keptL row r = true := by rw [← h, he, List.drop_length]; rfl
        simp only [go_sem, lnss, List.length_map, hb, hd, kpc]
      · have hb : ((k : Int) == (row.length : Int)) = false := by simp; omega
        have hka : k < row.length := by omega
        have i0 : (0 : Int) ≤ (k : Int) := by omega
        have i1 : (k : Int) < (row.length : Int) := by omega
        have w1 : IntKind.i64.wrap ((k : Int) + 1) = ((k + 1 : Nat) : Int) := by rw [w64 (by omega)]; rfl
        have hT := Trace_pure (row.getD k default) r1 (hro _ (getD_mem (d := default) hka))
        have hK := Kept_pure (row.getD k default) r1 (hro _ (getD_mem (d := default) hka))
        rw [drop_ln hka, keptL_cons] at h
        cases hy : keptM (row.getD k default) r1
        · rw [if_pos hy] at h
          rw [hy] at hK
          simp only [go_sem, lnss, List.length_map, hb]
          refine vDrawQ (by kernel_rfl) (by kernel_rfl) ?_
          simp only [go_sem, getD_ln hka, lns, i0, i1]
          refine vCall_of (hK) ?_ ?_ ?_; (focus simp only [go_sem, lns, ref]); (focus simp only [go_sem, lns, ref])
          simp only [go_sem, ← h, kpc]
        rw [if_neg (by rw [hy]; simp)] at h
        rw [hy] at hK
        cases hz : (traceM (row.getD k default) r1).2
        · rw [if_pos hz] at h
          simp only [go_sem, lnss, List.length_map, hb]
          refine vDrawQ (by kernel_rfl) (by kernel_rfl) ?_
          simp only [go_sem, getD_ln hka, lns, i0, i1]
          refine vCall_of (hK) ?_ ?_ ?_; (focus simp only [go_sem, lns, ref]); (focus simp only [go_sem, lns, ref])
          simp only [go_sem]
          refine vDrawQ (by kernel_rfl) (by kernel_rfl) ?_
          simp only [go_sem, getD_ln hka, lns, i0, i1, List.length_map]
          refine vCall_of (hT) ?_ ?_ ?_; (focus simp only [go_sem, lns, ref]); (focus simp only [go_sem, lns, ref])
          simp only [go_sem, refb, ref, hz, ← h, kpc]
        · rw [if_neg (by rw [hz]; simp)] at h
          simp only [go_sem, lnss, List.length_map, hb]
          refine vDrawQ (by kernel_rfl) (by kernel_rfl) ?_
          simp only [go_sem, getD_ln hka, lns, i0, i1]
          refine vCall_of (hK) ?_ ?_ ?_; (focus simp only [go_sem, lns, ref]); (focus simp only [go_sem, lns, ref])
          simp only [go_sem]
          refine vDrawQ (by kernel_rfl) (by kernel_rfl) ?_
          simp only [go_sem, getD_ln hka, lns, i0, i1, List.length_map]
          refine vCall_of (hT) ?_ ?_ ?_; (focus simp only [go_sem, lns, ref]); (focus simp only [go_sem, lns, ref])
          simp only [go_sem, refb, ref, hz, w1]
          exact ⟨⟨k + 1, (traceM (row.getD k default) r1).1, by omega, h⟩, by show row.length - (k + 1) < row.length - k; omega, ⟨rfl, (forall_cons rfl (forall_cons rfl (forall_cons rfl (forall_nil)))), forall_cons ⟨rfl, rfl⟩ forall_nil, forall_nil⟩⟩
    · simp only [go_sem]
      refine vCall_of (hR) ?_ ?_ ?_; (focus simp only [go_sem, tr, tg]); (focus simp only [go_sem, tr, tg])
      simp only [go_sem, lnsc]
      exact awp_label_seq (cut ⟨0, r, Nat.zero_le _, rfl⟩ _ ⟨rfl, (forall_cons rfl (forall_cons rfl (forall_cons rfl (forall_nil)))), forall_cons ⟨rfl, rfl⟩ forall_nil, forall_nil⟩)
  · rw [if_pos hc]
    have hc' : (pathC m a b != 0) = true := by simpa using hc
    have hcr : rowM m a b = ([], pathC m a b) := by unfold rowM; rw [if_pos hc]
    rw [hcr] at hR
    refine PL.Pure.of_v Tryz.func43 (by decide) rfl Tryz.ntmps43 Tryz.results43 (by simp) (kpc_dids _ _) ?_
    simp only [go_sem, tr, tg, ref]
    refine vScope0 ?_
    simp only [go_sem]
    refine vCall_of (hR) ?_ ?_ ?_; (focus simp only [go_sem, tr, tg]); (focus simp only [go_sem, tr, tg])
    simp only [go_sem, lnsc, lnss, hc', kpc]
end Go.Proofs.YtnadlkjmdimjkaaGreat
