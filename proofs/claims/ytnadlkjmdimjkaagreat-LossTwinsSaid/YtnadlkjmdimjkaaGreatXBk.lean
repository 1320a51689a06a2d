/- Contracts of functions and laws of this seat, each for every input that it names: lemmas of the proof. -/
import Derived.Test.YtnadlkjmdimjkaaGreatXBg
import Derived.Test.YtnadlkjmdimjkaaGreatXAw
set_option linter.unusedSimpArgs false
set_option linter.unusedVariables false
set_option linter.unusedSimpArgs false
set_option linter.unusedVariables false
namespace Go.Proofs.YtnadlkjmdimjkaaGreat
open Go.PL
/-- how far two ways are one -/
def lcp : List Eg → List Eg → Nat
  | a :: xs, b :: ys => if a = b then lcp xs ys + 1 else 0
  | _, _ => 0
theorem lcp_le : ∀ (a b : List Eg), lcp a b ≤ a.length ∧ lcp a b ≤ b.length
  | [], b => by simp [lcp]
  | a :: xs, [] => by simp [lcp]
  | a :: xs, b :: ys => by
    have := lcp_le xs ys
    simp only [lcp]
    split
    · simp; omega
    · simp
theorem lcp_comm : ∀ (a b : List Eg), lcp a b = lcp b a
  | [], [] => rfl
  | [], b :: ys => rfl
  | a :: xs, [] => rfl
  | a :: xs, b :: ys => by
    simp only [lcp, lcp_comm xs ys, eq_comm]
theorem lcp_get : ∀ (a b : List Eg) (t : Nat), t < lcp a b → a.getD t default = b.getD t default
  | [], b, t, h => by simp [lcp] at h
  | a :: xs, [], t, h => by simp [lcp] at h
  | a :: xs, b :: ys, t, h => by
    simp only [lcp] at h
    split at h
    · rename_i e
      cases t with
      | zero => simpa using e
      | succ t => simpa using lcp_get xs ys t (by omega)
    · omega
theorem lcp_stop : ∀ (a b : List Eg), lcp a b < a.length → lcp a b < b.length → a.getD (lcp a b) default ≠ b.getD (lcp a b) default
  | [], b, h, _ => by simp at h
  | a :: xs, [], _, h => by simp at h
  | a :: xs, b :: ys, h1, h2 => by
    simp only [lcp] at h1 h2 ⊢
    split
    · rename_i e
      rw [if_pos e] at h1 h2
      simpa using lcp_stop xs ys (by simpa using h1) (by simpa using h2)
    · rename_i e; simpa using e
theorem lcp_take (a b : List Eg) : a.take (lcp a b) = b.take (lcp a b) := by
  have hl := lcp_le a b
  apply List.ext_getElem
  · simp; omega
  · intro i h1 h2
    have hi : i < lcp a b := by simp at h1; omega
    have := lcp_get a b i hi
    rw [getD_lt (by omega), getD_lt (by omega)] at this
    simpa using this
theorem Apart.inj {m : List Eg} (h : Apart m) {a b : Eg} (ha : a ∈ m) (hb : b ∈ m) (e : a.id = b.id) : a = b := by
  have h1 := h.find ha
  rw [e, h.find hb] at h1
  cases h1; rfl
structure WayT where
  up : List Tg
  down : List Tg
  i : Nat
  j : Nat
  c : Int
def wayv (x : WayT) : PV := .tup [tgs x.up, tgs x.down, .int .i64 (x.i : Int), .int .i64 (x.j : Int), .int .i64 x.c]
theorem wayv_dids (x : WayT) : (wayv x).dids = [] := by simp only [wayv, PV.dids, PV.didsL, tgs_dids, List.append_nil]
def waysM (m : List Eg) (a b : Tg) : WayT :=
  if upC m a ≠ 0 then ⟨[], [], 0, 0, upC m a⟩ else if upC m b ≠ 0 then ⟨[], [], 0, 0, upC m b⟩
  else ⟨upL (wayD m a), upL (wayD m b), (wayD m a).length - lcp (wayD m a) (wayD m b), (wayD m b).length - lcp (wayD m a) (wayD m b), 0⟩
set_option maxRecDepth 20000 in
set_option maxHeartbeats 16000000 in
theorem ways_pure (m : List Eg) (a b : Tg) (hm : OkM m) : PL.Pure Tryz.prog 82 [tr (treeOf m), tg a, tg b] (wayv (waysM m a b)) := by
  have hA := Up_pure m a hm
  have hB := Up_pure m b hm
  unfold waysM
  unfold upM at hA hB
  by_cases ha : upC m a = 0
  · by_cases hb : upC m b = 0
    · obtain ⟨wa, _, _⟩ := live_way ha
      obtain ⟨wb, _, _⟩ := live_way hb
      simp only [ha, hb, ne_eq, not_true_eq_false, if_false] at hA hB ⊢
      generalize wayD m a = p at *
      generalize wayD m b = q at *
      have hlc := lcp_le p q
      have hpl : p.length ≤ 40 := by have := wa.len; have := hm.n; omega
      have hql : q.length ≤ 40 := by have := wb.len; have := hm.n; omega
      have l1 : ((upL p).length : Int) = (p.length : Int) + 1 := by rw [upL_len]; rfl
      have l2 : ((upL q).length : Int) = (q.length : Int) + 1 := by rw [upL_len]; rfl
      have s1 : IntKind.i64.wrap ((p.length : Int) + 1 - 1) = (p.length : Int) := by rw [w64 (by omega)]; omega
      have s2 : IntKind.i64.wrap ((q.length : Int) + 1 - 1) = (q.length : Int) := by rw [w64 (by omega)]; omega
      refine PL.Pure.of_v Tryz.func82 (by decide) rfl Tryz.ntmps82 Tryz.results82 (by simp) (wayv_dids _) ?_
      simp only [go_sem, tr, tg]
      refine vScopeM (ι := { t : Nat // t ≤ lcp p q }) 62 (fun x => [(6, tgs (upL p)), (7, tgs (upL q)), (8, .int .i64 ((p.length - x.1 : Nat) : Int)), (9, .int .i64 ((q.length - x.1 : Nat) : Int))]) (fun x => []) (fun x => []) (fun x => lcp p q - x.1) 0 _ (by exact rfl) (fun x => ⟨(forall_cons rfl (forall_cons rfl (forall_cons rfl (forall_cons rfl (forall_nil))))), forall_nil⟩) (fun x => ?_) (fun cut => ?_)
      · obtain ⟨t, ht⟩ := x
        simp only
        by_cases g1 : t < p.length
        · have c1 : (0 : Int) < ((p.length - t : Nat) : Int) := by omega
          by_cases g2 : t < q.length
          · have c2 : (0 : Int) < ((q.length - t : Nat) : Int) := by omega
            have w1 : IntKind.i64.wrap (((p.length - t : Nat) : Int) - 1) = ((p.length - t - 1 : Nat) : Int) := by rw [w64 (by omega)]; omega
            have w2 : IntKind.i64.wrap (((q.length - t : Nat) : Int) - 1) = ((q.length - t - 1 : Nat) : Int) := by rw [w64 (by omega)]; omega
            have k1 : p.length - t - 1 < (upL p).length := by rw [upL_len]; omega
            have k2 : q.length - t - 1 < (upL q).length := by rw [upL_len]; omega
            have b1 : (0 : Int) ≤ ((p.length - t - 1 : Nat) : Int) := by omega
            have b2 : (0 : Int) ≤ ((q.length - t - 1 : Nat) : Int) := by omega
            have b3 : ((p.length - t - 1 : Nat) : Int) < ((upL p).length : Int) := by omega
            have b4 : ((q.length - t - 1 : Nat) : Int) < ((upL q).length : Int) := by omega
            have v1 := upL_get p t g1
            have v2 := upL_get q t g2
            by_cases hlt : t < lcp p q
            · have heq : decide ((p.getD t default).id = (q.getD t default).id) = true := by rw [lcp_get p q t hlt]; simp
              simp only [go_sem, tgs]
              refine vDrawQ (by kernel_rfl) (by kernel_rfl) ?_
              simp only [go_sem, c1, c2, w1, w2, getD_tg k1, getD_tg k2, v1, v2, tg, b1, b2, b3, b4, tg_fold, heq]
              exact ⟨⟨t + 1, by omega⟩, by show lcp p q - (t + 1) < lcp p q - t; omega, ⟨rfl, forall_cons rfl (forall_cons rfl (forall_cons (by simp only [Nat.sub_sub]; rfl) (forall_cons (by simp only [Nat.sub_sub]; rfl) forall_nil))), forall_nil, forall_nil⟩⟩
            · obtain rfl : t = lcp p q := by omega
              have hne : decide ((p.getD (lcp p q) default).id = (q.getD (lcp p q) default).id) = false := by
                rw [decide_eq_false_iff_not]
                intro e
                have hs := lcp_stop p q (by omega) (by omega)
                exact hs (hm.a.inj (wa.mem _ (getD_mem g1)) (wb.mem _ (getD_mem g2)) e)
              simp only [go_sem, tgs]
              refine vDrawQ (by kernel_rfl) (by kernel_rfl) ?_
              simp only [go_sem, c1, c2, w1, w2, getD_tg k1, getD_tg k2, v1, v2, tg, b1, b2, b3, b4, tg_fold, hne, wayv, tgs]
          · have c2 : ¬ (0 : Int) < ((q.length - t : Nat) : Int) := by omega
            obtain rfl : t = lcp p q := by omega
            simp only [go_sem, tgs]
            refine vDrawQ (by kernel_rfl) (by kernel_rfl) ?_
            simp only [go_sem, c1, c2, wayv, tgs]
        · have c1 : ¬ (0 : Int) < ((p.length - t : Nat) : Int) := by omega
          obtain rfl : t = lcp p q := by omega
          simp only [go_sem, tgs]
          refine vDrawQ (by kernel_rfl) (by kernel_rfl) ?_
          simp only [go_sem, c1, wayv, tgs]
      · simp only [go_sem]
        refine vCall_of (hA) ?_ ?_ ?_; iterate 2 simp only [go_sem, tr, tg]
        simp only [go_sem, tgsc]
        refine vCall_of (hB) ?_ ?_ ?_; iterate 2 simp only [go_sem, tr, tg]
        simp only [go_sem, tgsc, tgs, l1, l2, s1, s2, List.length_map]
        exact awp_label_seq (cut ⟨0, Nat.zero_le _⟩ _ ⟨rfl, (forall_cons rfl (forall_cons rfl (forall_cons rfl (forall_cons rfl (forall_nil))))), forall_nil, forall_nil⟩)
    · have hb' : (upC m b != 0) = true := by simpa using hb
      simp only [ha, hb, ne_eq, not_true_eq_false, not_false_eq_true, if_true, if_false] at hA hB ⊢
      refine PL.Pure.of_v Tryz.func82 (by decide) rfl Tryz.ntmps82 Tryz.results82 (by simp) (wayv_dids _) ?_
      simp only [go_sem, tr, tg]
      refine vScope0 ?_
      simp only [go_sem]
      refine vCall_of (hA) ?_ ?_ ?_; iterate 2 simp only [go_sem, tr, tg]
      simp only [go_sem, tgsc]
      refine vCall_of (hB) ?_ ?_ ?_; iterate 2 simp only [go_sem, tr, tg]
      simp only [go_sem, tgsc, tgs, hb', wayv, List.map_nil]
  · have ha' : (upC m a != 0) = true := by simpa using ha
    simp only [ha, ne_eq, not_false_eq_true, if_true] at hA ⊢
    refine PL.Pure.of_v Tryz.func82 (by decide) rfl Tryz.ntmps82 Tryz.results82 (by simp) (wayv_dids _) ?_
    simp only [go_sem, tr, tg]
    refine vScope0 ?_
    simp only [go_sem]
    refine vCall_of (hA) ?_ ?_ ?_; iterate 2 simp only [go_sem, tr, tg]
    simp only [go_sem, tgsc, tgs, ha', wayv, List.map_nil]
end Go.Proofs.YtnadlkjmdimjkaaGreat

set_option linter.unusedSimpArgs false
set_option linter.unusedVariables false
set_option linter.unusedSimpArgs false
set_option linter.unusedVariables false
namespace Go.Proofs.YtnadlkjmdimjkaaGreat
open Go.PL
def dn (e : Eg) : Lg := ⟨e.id, true⟩
def upg (i : Tg) : Lg := ⟨i, false⟩
def legsW (p q : List Eg) : List Lg := ((p.drop (lcp p q)).reverse.map fun e => upg e.id) ++ (q.drop (lcp p q)).map dn
theorem upL_take (p : List Eg) (c : Nat) (hc : c ≤ p.length) : (upL p).take (p.length - c) = (p.drop c).reverse.map (·.id) := by
  unfold upL
  rw [List.take_append_of_le_length (by simp), ← List.map_take, List.take_reverse]
  congr 3
  omega
def legsc (x : List Lg × Int) : PV := .tup [lgs x.1, .int .i64 x.2]
theorem didsL_lg (l : List Lg) : PV.didsL (l.map lg) = [] := by
  induction l with
  | nil => rfl
  | cons t l ih => simp only [List.map_cons, PV.didsL, ih, lg, PV.dids, List.append_nil]
theorem lgs_dids (l : List Lg) : (lgs l).dids = [] := by simp only [lgs, PV.dids, didsL_lg]
theorem legsc_dids (x : List Lg × Int) : (legsc x).dids = [] := by simp only [legsc, PV.dids, PV.didsL, lgs_dids, List.append_nil]
theorem sized_lg (l : List Lg) : Sized 3 (l.map lg) := fun e he => by
  obtain ⟨x, _, rfl⟩ := List.mem_map.1 he; rfl
def pathC (m : List Eg) (a b : Tg) : Int := if upC m a ≠ 0 then upC m a else upC m b
def pathM (m : List Eg) (a b : Tg) : List Lg × Int := if pathC m a b ≠ 0 then ([], pathC m a b) else (legsW (wayD m a) (wayD m b), 0)
theorem pathC_zero {m : List Eg} {a b : Tg} : pathC m a b = 0 ↔ upC m a = 0 ∧ upC m b = 0 := by
  unfold pathC
  split
  · rename_i h; exact ⟨fun h' => absurd h' h, fun h' => absurd h'.1 h⟩
  · rename_i h; exact ⟨fun h' => ⟨by simpa using h, h'⟩, fun h' => h'.2⟩
theorem waysM_bad {m : List Eg} {a b : Tg} (h : pathC m a b ≠ 0) : waysM m a b = ⟨[], [], 0, 0, pathC m a b⟩ := by
  unfold waysM pathC at *
  split
  · rfl
  · rename_i h1
    rw [if_neg h1] at h
    rw [if_pos h]
theorem waysM_good {m : List Eg} {a b : Tg} (h : pathC m a b = 0) : waysM m a b = ⟨upL (wayD m a), upL (wayD m b), (wayD m a).length - lcp (wayD m a) (wayD m b), (wayD m b).length - lcp (wayD m a) (wayD m b), 0⟩ := by
  obtain ⟨h1, h2⟩ := pathC_zero.1 h
  unfold waysM
  rw [if_neg (by simp [h1]), if_neg (by simp [h2])]
theorem drop_take_snoc {q : List Eg} {c s : Nat} (h : c + s < q.length) : (q.drop c).take (s + 1) = (q.drop c).take s ++ [q.getD (c + s) default] := by
  rw [List.take_add_one]
  congr 1
  rw [List.getElem?_drop, List.getElem?_eq_getElem h, getD_lt h]
  rfl
set_option maxRecDepth 20000 in
set_option maxHeartbeats 16000000 in
theorem Path_pure (m : List Eg) (a b : Tg) (hm : OkM m) : PL.Pure Tryz.prog 138 [tr (treeOf m), tg a, tg b] (legsc (pathM m a b)) := by
  have hW := ways_pure m a b hm
  unfold pathM
  by_cases hc : pathC m a b = 0
  · rw [waysM_good hc] at hW
    obtain ⟨ha, hb⟩ := pathC_zero.1 hc
    obtain ⟨wa, _, _⟩ := live_way ha
    obtain ⟨wb, _, _⟩ := live_way hb
    simp only [hc, ne_eq, not_true_eq_false, if_false]
    generalize wayD m a = p at *
    generalize wayD m b = q at *
    have hlc := lcp_le p q
    have hpl : p.length ≤ 40 := by have := wa.len; have := hm.n; omega
    have hql : q.length ≤ 40 := by have := wb.len; have := hm.n; omega
    unfold legsW
    have hut := upL_take p (lcp p q) hlc.1
    have hdl : (p.drop (lcp p q)).length = p.length - lcp p q := by simp
    have hql' : (q.drop (lcp p q)).length = q.length - lcp p q := by simp
    generalize hids : (p.drop (lcp p q)).reverse.map (·.id) = ids at *
    have hidl : ids.length = p.length - lcp p q := by rw [← hids]; simp
    have hfst : ((p.drop (lcp p q)).reverse.map fun e => upg e.id) = ids.map upg := by rw [← hids, List.map_map]; rfl
    rw [hfst]
    have hlen : ids.length ≤ maxLen := by rw [maxLen_eq]; omega
    have s0 : IntKind.i64.wrap (((p.length - lcp p q : Nat) : Int) + ((q.length - lcp p q : Nat) : Int)) = ((p.length - lcp p q + (q.length - lcp p q) : Nat) : Int) := by rw [w64 (by omega)]; omega
    have hup : (upL p).length = p.length + 1 := upL_len p
    refine PL.Pure.of_v Tryz.func138 (by decide) rfl Tryz.ntmps138 Tryz.results138 (by simp) (legsc_dids _) ?_
    simp only [go_sem, tr, tg]
    refine vScopeM (ι := { s : Nat // s ≤ q.length - lcp p q }) 60 (fun x => [(9, tgs (upL q)), (11, .int .i64 ((q.length - lcp p q - x.1 : Nat) : Int)), (13, .sl (.row 58) ((ids.map upg ++ ((q.drop (lcp p q)).take x.1).map dn).map lg))]) (fun x => []) (fun x => [(58, .live (ids.length + x.1) 3 173)]) (fun x => q.length - lcp p q - x.1) 0 _ (by exact rfl)
      (fun x => ⟨forall_cons rfl (forall_cons rfl (forall_cons (by simp [PV.ids, refInM]) forall_nil)), forall_nil⟩) (fun x => ?_) (fun cut => ?_)
    · obtain ⟨s, hs⟩ := x
      simp only
      by_cases hlt : s < q.length - lcp p q
      · have c1 : (0 : Int) < ((q.length - lcp p q - s : Nat) : Int) := by omega
        have w1 : IntKind.i64.wrap (((q.length - lcp p q - s : Nat) : Int) - 1) = ((q.length - (lcp p q + s) - 1 : Nat) : Int) := by rw [w64 (by omega)]; omega
        have k1 : q.length - (lcp p q + s) - 1 < (upL q).length := by rw [upL_len]; omega
        have b1 : (0 : Int) ≤ ((q.length - (lcp p q + s) - 1 : Nat) : Int) := by omega
        have b2 : ((q.length - (lcp p q + s) - 1 : Nat) : Int) < ((upL q).length : Int) := by omega
        have v1 := upL_get q (lcp p q + s) (by omega)
        have hrm := room1 (show ids.length + s + 1 ≤ 1000000 by omega) (show 24 ≤ 1000 by omega)
        have hsl : (ids.map upg ++ ((q.drop (lcp p q)).take s).map dn).length = ids.length + s := by simp; omega
        have hnx := drop_take_snoc (q := q) (c := lcp p q) (s := s) (by omega)
        simp only [go_sem, tgs, c1, w1, getD_tg k1, v1, tg, b1, b2, sized_lg, hsl, List.length_map, hrm]
        refine ⟨⟨s + 1, by omega⟩, by show q.length - lcp p q - (s + 1) < q.length - lcp p q - s; omega, ⟨rfl, forall_cons rfl (forall_cons ?_ (forall_cons ?_ forall_nil)), forall_nil, forall_cons ?_ forall_nil⟩⟩
        · show PV.int .i64 _ = PV.int .i64 _
          congr 2
          simp only
          omega
        · show PV.sl (.row 58) _ = PV.sl (.row 58) _
          simp [hnx, dn, lg]
        · rfl
      · obtain rfl : s = q.length - lcp p q := by omega
        have c1 : ¬ (0 : Int) < ((q.length - lcp p q - (q.length - lcp p q) : Nat) : Int) := by omega
        have htk : (q.drop (lcp p q)).take (q.length - lcp p q) = q.drop (lcp p q) := List.take_of_length_le (by omega)
        simp only [go_sem, tgs, c1, legsc, lgs, htk]
    · simp only [go_sem]
      refine vCall_of (hW) ?_ ?_ ?_; iterate 2 simp only [go_sem, tr, tg]
      simp only [go_sem, wayv, tgs, s0]
      repeat ((with_reducible refine And.intro ?_ ?_); (focus ((repeat' (with_reducible apply And.intro)) <;> (first | omega | exact room_small (by omega) (by omega) | exact room_small (by simp; omega) (by omega) | exact sized_str _ | (simp; done) | (simp; omega)))))
      have htt : PL.cut (List.map tg (upL p)) 0 ((p.length - lcp p q : Nat) : Int) = ids.map tg := by simp [PL.cut, ← List.map_take, hut]
      refine ⟨⟨by omega, by omega, sized_tg _⟩, ?_⟩
      simp only [go_sem, htt, List.length_map]
      refine awp_moveRow 13 32 45 0 3 173 [] rfl rfl rfl ?_
      refine vLoopM (ι := { x : Nat // x ≤ (ids).length }) 60 (fun x => [(9, tgs (upL q)), (11, .int .i64 ((q.length - lcp p q : Nat) : Int)), (13, .sl (.row 45) (((ids.take x.1).map upg).map lg)), (35, tgs ids), (36, .int .i64 (ids.length : Int)), (37, .int .i64 (x.1 : Int))]) (fun x => []) (fun x => [(45, .live (x.1) (3) (173))]) (fun x => (ids).length - x.1) ⟨0, Nat.zero_le _⟩ ⟨rfl, (forall_cons rfl (forall_cons rfl (forall_cons rfl (forall_cons rfl (forall_cons rfl (forall_cons rfl forall_nil)))))), forall_nil, (forall_cons rfl forall_nil)⟩ (fun x => ⟨(forall_cons rfl (forall_cons rfl (forall_cons (by simp [PV.ids, refInM]) (forall_cons rfl (forall_cons rfl (forall_cons rfl forall_nil)))))), forall_nil⟩) (fun x => ?_); obtain ⟨k, hk⟩ := x; simp only at hk ⊢
      by_cases h : (k : Int) < (ids.length : Int)
      · (have hka : k < (ids).length := by omega); (have w1 := w64s hka (hlen)); (have i1 : (0 : Int) ≤ (k : Int) := by omega)
        have hts : ids.take (k + 1) = ids.take k ++ [ids.getD k default] := by rw [List.take_add_one, getD_lt hka]; simp [hka]
        have hkl : (ids.take k).length = k := by simp; omega
        have hrm := room1 (show k + 1 ≤ 1000000 by omega) (show 24 ≤ 1000 by omega)
        simp only [go_sem, h, tgs, getD_tg hka, tg, i1, w1, sized_lg, List.length_map, hkl, hrm]
        exact ⟨⟨k + 1, by (try simp only); omega⟩, by show (ids).length - (k + 1) < (ids).length - k; omega, ⟨rfl, (forall_cons rfl (forall_cons rfl (forall_cons (by (show PV.sl _ _ = PV.sl _ _; simp [hts, upg, lg])) (forall_cons rfl (forall_cons rfl (forall_cons rfl forall_nil)))))), forall_nil, (forall_cons rfl forall_nil)⟩⟩
      · obtain rfl : k = ids.length := by omega
        have htk : ids.take ids.length = ids := List.take_length
        simp only [go_sem, h, htk]
        refine awp_moveRow 13 45 58 ids.length 3 173 ((ids.map upg).map lg) rfl rfl rfl ?_
        exact awp_label_seq (cut ⟨0, Nat.zero_le _⟩ _ ⟨rfl, forall_cons rfl (forall_cons rfl (forall_cons (by simp [upd, St.with]) forall_nil)), forall_nil, forall_cons (by simp [upd, Hp.setq, St.with]) forall_nil⟩)
  · have hc' : (pathC m a b != 0) = true := by simpa using hc
    rw [waysM_bad hc] at hW
    simp only [ne_eq, hc, not_false_eq_true, if_true]
    refine PL.Pure.of_v Tryz.func138 (by decide) rfl Tryz.ntmps138 Tryz.results138 (by simp) (legsc_dids _) ?_
    simp only [go_sem, tr, tg]
    refine vScope0 ?_
    simp only [go_sem]
    refine vCall_of (hW) ?_ ?_ ?_; iterate 2 simp only [go_sem, tr, tg]
    simp only [go_sem, wayv, tgs, hc', legsc, lgs, List.map_nil]
end Go.Proofs.YtnadlkjmdimjkaaGreat

set_option linter.unusedSimpArgs false
set_option linter.unusedVariables false
set_option linter.unusedSimpArgs false
set_option linter.unusedVariables false
namespace Go.Proofs.YtnadlkjmdimjkaaGreat
open Go.PL
def roundP (fo ba : List Pr) (p : Pr) : Bool := (caseM fo p.fr').2 && ((caseM ba (caseM fo p.fr').1).2 && ((caseM ba (caseM fo p.fr').1).1 == p.fr'))
def roundM (fo ba : List Pr) : Bool := fo.all (roundP fo ba)
set_option maxHeartbeats 4000000 in
theorem round_pure (fo ba : List Pr) (hf : fo.length ≤ maxLen) (hb : ba.length ≤ maxLen) : PL.Pure Tryz.prog 162 [prs fo, prs ba] (.bool (roundM fo ba)) := by
  refine PL.Pure.of_v Tryz.func162 (by decide) rfl Tryz.ntmps162 Tryz.results162 (by simp) rfl ?_
  simp only [go_sem, prs]
  refine vLoopM (ι := { x : Nat // x ≤ (fo).length ∧ (∀ j, j < x → roundP fo ba (fo.getD j default) = true) }) 40 (fun x => [(0, prs fo), (1, prs ba), (10, prs fo), (11, .int .i64 (fo.length : Int)), (12, .int .i64 (x.1 : Int))]) (fun x => []) (fun x => []) (fun x => (fo).length - x.1) ⟨0, Nat.zero_le _, fun j hj => absurd hj (Nat.not_lt_zero j)⟩ ⟨rfl, (forall_cons rfl (forall_cons rfl (forall_cons rfl (forall_cons rfl (forall_cons rfl forall_nil))))), forall_nil, forall_nil⟩ (fun x => ⟨(forall_cons rfl (forall_cons rfl (forall_cons rfl (forall_cons rfl (forall_cons rfl forall_nil))))), forall_nil⟩) (fun x => ?_); obtain ⟨k, hk, hI⟩ := x; simp only at hk hI ⊢
  by_cases h : (k : Int) < (fo.length : Int)
  · (have hka : k < (fo).length := by omega); (have w1 := w64s hka (hf)); (have i1 : (0 : Int) ≤ (k : Int) := by omega)
    have h1 := Case_pure fo (fo.getD k default).fr' hf
    have h2 := Case_pure ba (caseM fo (fo.getD k default).fr').1 hb
    cases hr : roundP fo ba (fo.getD k default)
    · have hz := all_false (p := roundP fo ba) hka hr
      unfold roundP at hr
      generalize caseM fo (fo.getD k default).fr' = c at *
      generalize caseM ba c.1 = d at *
      obtain ⟨c1, c2⟩ := c
      obtain ⟨d1, d2⟩ := d
      simp only at hr h2
      simp only [go_sem, prs, h, i1, getD_pr hka, pr]
      refine vCall_of (h1) ?_ ?_ ?_; iterate 2 simp only [go_sem, prs]
      simp only [go_sem, strb]
      cases c2
      · simp only [go_sem, roundM, hz]
      · simp only [go_sem, prs]
        refine vCall_of (h2) ?_ ?_ ?_; iterate 2 simp only [go_sem, prs]
        simp only [go_sem, strb]
        cases d2
        · simp only [go_sem, roundM, hz]
        · simp only [Bool.true_and] at hr
          simp only [go_sem, hr, roundM, hz]
    · have hr0 := hr
      unfold roundP at hr
      generalize caseM fo (fo.getD k default).fr' = c at *
      generalize caseM ba c.1 = d at *
      obtain ⟨c1, c2⟩ := c
      obtain ⟨d1, d2⟩ := d
      simp only [Bool.and_eq_true] at hr h2
      obtain ⟨rfl, rfl, hr⟩ := hr
      simp only [go_sem, prs, h, i1, getD_pr hka, pr]
      refine vCall_of (h1) ?_ ?_ ?_; iterate 2 simp only [go_sem, prs]
      simp only [go_sem, strb, prs]
      refine vCall_of (h2) ?_ ?_ ?_; iterate 2 simp only [go_sem, prs]
      simp only [go_sem, strb, hr, w1]
      exact ⟨⟨k + 1, by (try simp only); omega, below_succ hI hr0⟩, by show (fo).length - (k + 1) < (fo).length - k; omega, ⟨rfl, (forall_cons rfl (forall_cons rfl (forall_cons rfl (forall_cons rfl (forall_cons rfl forall_nil))))), forall_nil, forall_nil⟩⟩
  · have hz := all_true (p := roundP fo ba) (d := default) (l := fo) (fun j hj => hI j (by omega))
    simp only [go_sem, prs, h, roundM, hz]
def keptM (x : Ln) (r : Rf) : Bool :=
  if rightLn x = false then false else if idx (fun a => decide (r = a)) (goesR x) < 0 then true
  else if x.kind = 1 ∨ x.kind = 4 ∨ x.kind = 5 ∨ x.kind = 6 ∨ x.kind = 7 ∨ x.kind = 10 then true
  else if x.kind = 9 then idx (fun a => decide (r = a)) (goesR x) == 0
  else if x.kind = 8 then roundM x.fo x.ba else false
theorem goesR_len (x : Ln) : (goesR x).length ≤ 2 := by
  unfold goesR
  split
  · simp
  split
  · simp
  split <;> simp
theorem comesR_len (x : Ln) : (comesR x).length ≤ 2 := by
  unfold comesR
  repeat' split
  all_goals simp
set_option maxRecDepth 20000 in
set_option maxHeartbeats 8000000 in
theorem Kept_pure (x : Ln) (r : Rf) (hx : OkLn x) : PL.Pure Tryz.prog 88 [lns x, ref r] (.bool (keptM x r)) := by
  have hR := LRight_pure x hx
  have hG := Goes_pure x hx
  unfold keptM
  cases hlr : rightLn x
  · rw [hlr] at hR
    refine PL.Pure.of_v Tryz.func88 (by decide) rfl Tryz.ntmps88 Tryz.results88 (by simp) rfl ?_
    simp only [go_sem, lns, ref]
    refine vCall_of (hR) ?_ ?_ ?_; iterate 2 simp only [go_sem, lns]
    simp only [go_sem, if_true]
  rw [hlr] at hR
  have hg : goesM x = goesR x := by simp [goesM, hlr]
  rw [hg] at hG
  have hI := IdxRef_pure (goesR x) r (by have := goesR_len x; rw [maxLen_eq]; omega)
  have hO := round_pure x.fo x.ba (by have := hx.f; rw [maxLen_eq]; omega) (by have := hx.b; rw [maxLen_eq]; omega)
  generalize idx (fun a => decide (r = a)) (goesR x) = i at *
  refine PL.Pure.of_v Tryz.func88 (by decide) rfl Tryz.ntmps88 Tryz.results88 (by simp) rfl ?_
  simp only [go_sem, lns, ref]
  refine vCall_of (hR) ?_ ?_ ?_; iterate 2 simp only [go_sem, lns]
  simp only [go_sem, lns]
  repeat' (first | (refine vGuard_t (fun h => ?_) (fun h => ?_) <;> (try simp only [go_sem, h, refs, ref])) | (refine vGuard_f (fun h => ?_) (fun h => ?_) <;> (try simp only [go_sem, h, refs, ref])) | (refine vCond_b (fun h => ?_) (fun h => ?_) <;> (try simp only [go_sem, h, refs, ref])) | ((refine vCall_of (hG) ?_ ?_ ?_); (focus simp only [go_sem, lns, refs, ref, prs]); (focus exact rfl); (try simp only [go_sem, refs, ref])) | ((refine vCall_of (hI) ?_ ?_ ?_); (focus simp only [go_sem, lns, refs, ref, prs]); (focus exact rfl); (try simp only [go_sem, refs, ref])) | ((refine vCall_of (hO) ?_ ?_ ?_); (focus simp only [go_sem, lns, refs, ref, prs]); (focus exact rfl); (try simp only [go_sem, refs, ref])) | ((refine vDrawQ (by kernel_rfl) (by kernel_rfl) ?_); (try simp only [go_sem, refs, ref])))
  all_goals (clear hR hG hI hO hx; simp_all <;> (intro; omega))
def traceM (x : Ln) (r : Rf) : Rf × Bool :=
  if rightLn x = false then (default, false) else if ((goesR x).any fun a => decide (r = a)) = false then (r, true)
  else if (comesR x).length = 0 then (default, false) else ((comesR x).getD 0 default, true)
def refb (x : Rf × Bool) : PV := .tup [ref x.1, .bool x.2]
theorem refb_dids (x : Rf × Bool) : (refb x).dids = [] := by simp only [refb, PV.dids, PV.didsL, ref_dids, List.append_nil]
theorem ref_default : ref default = .agg [.int .i64 0, .str [], .str []] := rfl
set_option maxRecDepth 20000 in
set_option maxHeartbeats 8000000 in
theorem Trace_pure (x : Ln) (r : Rf) (hx : OkLn x) : PL.Pure Tryz.prog 89 [lns x, ref r] (refb (traceM x r)) := by
  have hR := LRight_pure x hx
  have hG := Goes_pure x hx
  have hC := Comes_pure x hx
  unfold traceM
  cases hlr : rightLn x
  · rw [hlr] at hR
    refine PL.Pure.of_v Tryz.func89 (by decide) rfl Tryz.ntmps89 Tryz.results89 (by simp) (refb_dids _) ?_
    simp only [go_sem, lns, ref]
    refine vCall_of (hR) ?_ ?_ ?_; iterate 2 simp only [go_sem, lns]
    simp only [go_sem, if_true, refb, ref_default]
  rw [hlr] at hR
  have hg : goesM x = goesR x := by simp [goesM, hlr]
  have hc : comesM x = comesR x := by simp [comesM, hlr]
  rw [hg] at hG
  rw [hc] at hC
  have hI := ConRef_pure (goesR x) r (by have := goesR_len x; rw [maxLen_eq]; omega)
  generalize (goesR x).any (fun a => decide (r = a)) = b at *
  generalize goesR x = goes at *
  generalize comesR x = comes at *
  cases b
  · refine PL.Pure.of_v Tryz.func89 (by decide) rfl Tryz.ntmps89 Tryz.results89 (by simp) (refb_dids _) ?_
    simp only [go_sem, lns, ref]
    refine vCall_of (hR) ?_ ?_ ?_; iterate 2 simp only [go_sem, lns]
    simp only [go_sem, lns]
    refine vDrawQ (by kernel_rfl) (by kernel_rfl) ?_
    simp only [go_sem, lns]
    refine vCall_of (hG) ?_ ?_ ?_; iterate 2 simp only [go_sem, lns]
    simp only [go_sem, refs]
    refine vCall_of (hI) ?_ ?_ ?_; iterate 2 simp only [go_sem, refs, ref]
    simp only [go_sem, refb, ref, Bool.true_eq_false, if_false, if_true]
  · cases comes with
    | nil =>
      refine PL.Pure.of_v Tryz.func89 (by decide) rfl Tryz.ntmps89 Tryz.results89 (by simp) (refb_dids _) ?_
      simp only [go_sem, lns, ref]
      refine vCall_of (hR) ?_ ?_ ?_; iterate 2 simp only [go_sem, lns]
      simp only [go_sem, lns]
      refine vDrawQ (by kernel_rfl) (by kernel_rfl) ?_
      simp only [go_sem, lns]
      refine vCall_of (hG) ?_ ?_ ?_; iterate 2 simp only [go_sem, lns]
      simp only [go_sem, refs]
      refine vCall_of (hI) ?_ ?_ ?_; iterate 2 simp only [go_sem, refs, ref]
      simp only [go_sem, lns]
      refine vCall_of (hC) ?_ ?_ ?_; iterate 2 simp only [go_sem, lns]
      simp only [go_sem, refs, refb, ref_default, Bool.true_eq_false, if_false, if_true]
    | cons c cs =>
      have e0 : ((((cs.length + 1 : Nat) : Int)) == 0) = false := beq_eq_false_iff_ne.2 (by omega)
      have e1 : (0 : Int) < ((cs.length + 1 : Nat) : Int) := by omega
      have e2 : ¬ (cs.length + 1 = 0) := by omega
      refine PL.Pure.of_v Tryz.func89 (by decide) rfl Tryz.ntmps89 Tryz.results89 (by simp) (refb_dids _) ?_
      simp only [go_sem, lns, ref]
      refine vCall_of (hR) ?_ ?_ ?_; iterate 2 simp only [go_sem, lns]
      simp only [go_sem, lns]
      refine vDrawQ (by kernel_rfl) (by kernel_rfl) ?_
      simp only [go_sem, lns]
      refine vCall_of (hG) ?_ ?_ ?_; iterate 2 simp only [go_sem, lns]
      simp only [go_sem, refs]
      refine vCall_of (hI) ?_ ?_ ?_; iterate 2 simp only [go_sem, refs, ref]
      simp only [go_sem, lns]
      refine vCall_of (hC) ?_ ?_ ?_; iterate 2 simp only [go_sem, lns]
      simp only [go_sem, refs, e0, e1, e2, refb, ref, Bool.true_eq_false, if_false, if_true]
def sureM (x : Ln) (r : Rf) : Bool :=
  if rightLn x = false then false else if ((comesR x).any fun a => decide (r = a)) = false then true
  else if x.kind = 1 ∨ x.kind = 4 ∨ x.kind = 5 ∨ x.kind = 9 ∨ x.kind = 10 then true else if x.kind = 8 then roundM x.ba x.fo else false
set_option maxRecDepth 20000 in
set_option maxHeartbeats 8000000 in
theorem Sure_pure (x : Ln) (r : Rf) (hx : OkLn x) : PL.Pure Tryz.prog 177 [lns x, ref r] (.bool (sureM x r)) := by
  have hR := LRight_pure x hx
  have hC := Comes_pure x hx
  unfold sureM
  cases hlr : rightLn x
  · rw [hlr] at hR
    refine PL.Pure.of_v Tryz.func177 (by decide) rfl Tryz.ntmps177 Tryz.results177 (by simp) rfl ?_
    simp only [go_sem, lns, ref]
    refine vCall_of (hR) ?_ ?_ ?_; iterate 2 simp only [go_sem, lns]
    simp only [go_sem, if_true]
  rw [hlr] at hR
  have hc : comesM x = comesR x := by simp [comesM, hlr]
  rw [hc] at hC
  have hI := ConRef_pure (comesR x) r (by have := comesR_len x; rw [maxLen_eq]; omega)
  have hO := round_pure x.ba x.fo (by have := hx.b; rw [maxLen_eq]; omega) (by have := hx.f; rw [maxLen_eq]; omega)
  generalize (comesR x).any (fun a => decide (r = a)) = b at *
  refine PL.Pure.of_v Tryz.func177 (by decide) rfl Tryz.ntmps177 Tryz.results177 (by simp) rfl ?_
  simp only [go_sem, lns, ref]
  refine vCall_of (hR) ?_ ?_ ?_; iterate 2 simp only [go_sem, lns]
  simp only [go_sem, lns]
  repeat' (first | (refine vGuard_t (fun h => ?_) (fun h => ?_) <;> (try simp only [go_sem, h, refs, ref])) | (refine vGuard_f (fun h => ?_) (fun h => ?_) <;> (try simp only [go_sem, h, refs, ref])) | (refine vCond_b (fun h => ?_) (fun h => ?_) <;> (try simp only [go_sem, h, refs, ref])) | ((refine vCall_of (hC) ?_ ?_ ?_); (focus simp only [go_sem, lns, refs, ref, prs]); (focus exact rfl); (try simp only [go_sem, refs, ref])) | ((refine vCall_of (hI) ?_ ?_ ?_); (focus simp only [go_sem, lns, refs, ref, prs]); (focus exact rfl); (try simp only [go_sem, refs, ref])) | ((refine vCall_of (hO) ?_ ?_ ?_); (focus simp only [go_sem, lns, refs, ref, prs]); (focus exact rfl); (try simp only [go_sem, refs, ref])) | ((refine vDrawQ (by kernel_rfl) (by kernel_rfl) ?_); (try simp only [go_sem, refs, ref])))
  all_goals (clear hR hC hI hO hx; simp_all)
def invR (x : Ln) : Ln :=
  if x.kind = 1 then ⟨1, ⟨x.at'.sc, x.at'.gr, x.nm⟩, x.at'.nm, x.ot, x.fac, x.fd, x.fo, x.ba⟩
  else if x.kind = 2 then ⟨3, x.at', x.nm, x.ot, x.fac, x.fd, x.fo, x.ba⟩
  else if x.kind = 3 then ⟨2, x.at', x.nm, x.ot, x.fac, x.fd, x.fo, x.ba⟩
  else if x.kind = 4 then ⟨5, ⟨x.at'.sc, [], x.at'.nm⟩, x.at'.gr, x.ot, x.fac, x.fd, x.fo, x.ba⟩
  else if x.kind = 5 then ⟨4, ⟨x.at'.sc, x.nm, x.at'.nm⟩, [], x.ot, x.fac, x.fd, x.fo, x.ba⟩
  else if x.kind = 6 then ⟨9, x.at', x.nm, x.ot, x.fac, x.fd, x.fo, x.ba⟩
  else if x.kind = 9 then ⟨6, x.at', x.nm, x.ot, x.fac, x.fd, x.fo, x.ba⟩
  else if x.kind = 7 then ⟨10, x.at', x.nm, x.ot, x.fac, x.fd, x.fo, x.ba⟩
  else if x.kind = 10 then ⟨7, x.at', x.nm, x.ot, x.fac, x.fd, x.fo, x.ba⟩
  else if x.kind = 8 then ⟨8, x.at', x.ot, x.nm, x.fac, x.fd, x.ba, x.fo⟩ else x
def lnc (x : Ln × Int) : PV := .tup [lns x.1, .int .i64 x.2]
theorem lnc_dids (x : Ln × Int) : (lnc x).dids = [] := by simp only [lnc, PV.dids, PV.didsL, lns_dids, List.append_nil]
def invM (x : Ln) : Ln × Int := if rightLn x = false then (default, 5) else (invR x, 0)
set_option maxRecDepth 20000 in
set_option maxHeartbeats 8000000 in
theorem Inverse_pure (x : Ln) (hx : OkLn x) : PL.Pure Tryz.prog 196 [lns x] (lnc (invM x)) := by
  have hR := LRight_pure x hx
  have hO := LOwn_pure x hx
  unfold invM
  cases hlr : rightLn x
  · rw [hlr] at hR
    refine PL.Pure.of_v Tryz.func196 (by decide) rfl Tryz.ntmps196 Tryz.results196 (by simp) (lnc_dids _) ?_
    simp only [go_sem, lns]
    refine vCall_of (hR) ?_ ?_ ?_; iterate 2 simp only [go_sem, lns]
    simp only [go_sem, if_true, lnc, lns_default]
  rw [hlr] at hR
  refine PL.Pure.of_v Tryz.func196 (by decide) rfl Tryz.ntmps196 Tryz.results196 (by simp) (lnc_dids _) ?_
  simp only [go_sem, lns]
  refine vCall_of (hR) ?_ ?_ ?_; iterate 2 simp only [go_sem, lns]
  simp only [go_sem, lns]
  refine vCall_of (hO) ?_ ?_ ?_; iterate 2 simp only [go_sem, lns]
  simp only [go_sem, lns]
  repeat' (first | (refine vGuard_t (fun h => ?_) (fun h => ?_) <;> (try simp only [go_sem, h])) | (refine vGuard_f (fun h => ?_) (fun h => ?_) <;> (try simp only [go_sem, h])) | (refine vCond_b (fun h => ?_) (fun h => ?_) <;> (try simp only [go_sem, h])) | ((refine vDrawS [(1, 4)] (by kernel_rfl) (by kernel_rfl) (by exact rfl) ?_); (try simp only [go_sem])) | ((refine vDrawQ (by kernel_rfl) (by kernel_rfl) ?_); (try simp only [go_sem])))
  all_goals (simp only [beq_iff_eq, beq_eq_false_iff_ne, ne_eq] at *; clear hR hO hx; simp [invR, lnc, lns, *])
def placeI (l : List Rf) (r : Rf) : Int := idx (fun a => decide (r = a)) l
theorem placeI_cases (l : List Rf) (r : Rf) : placeI l r = -1 ∨ ∃ g : Nat, g < l.length ∧ placeI l r = (g : Int) := idx_cases _ _
end Go.Proofs.YtnadlkjmdimjkaaGreat

set_option linter.unusedSimpArgs false
set_option linter.unusedVariables false
set_option linter.unusedSimpArgs false
set_option linter.unusedVariables false
namespace Go.Proofs.YtnadlkjmdimjkaaGreat
open Go.PL
def awX : Ln := ⟨1, ⟨1, [], [110, 111, 116, 101]⟩, [109, 101, 109, 111], [], 0, default, [], []⟩
def awA : Eg := ⟨⟨1, 1⟩, default, awX⟩
def awB : Eg := ⟨⟨2, 1⟩, default, awX⟩
theorem okAw : OkLn awX := ⟨by decide, by decide, by decide⟩
theorem putA : putM [] awA = ([awA], 0) := by decide +kernel
theorem putB : putM [awA] awB = ([awA, awB], 0) := by decide +kernel
theorem okA : OkM [awA] := by have := okPut okM_nil (e := awA) okAw; rw [putA] at this; exact this
theorem okB : OkM [awA, awB] := by have := okPut okA (e := awB) okAw; rw [putB] at this; exact this
theorem legs_len (m : List Eg) (a b : Tg) (hm : OkM m) : (pathM m a b).1.length ≤ 80 := by
  unfold pathM
  split
  · simp
  · rename_i h
    have h := pathC_zero.1 (by simpa using h)
    have w1 := (live_way h.1).1.len
    have w2 := (live_way h.2).1.len
    have := hm.n
    simp only [legsW, List.length_append, List.length_map, List.length_reverse, List.length_drop]
    omega
theorem okL {l : List Eg} (h : heavyE l 50 = false) : l.length ≤ 50 ∧ ∀ e ∈ l, OkLn e.ln := by
  simp only [heavyE, Bool.or_eq_false_iff, decide_eq_false_iff_not, List.any_eq_false] at h
  exact ⟨by omega, fun e he => okOfHeavy (by simpa using h.2 e he)⟩
end Go.Proofs.YtnadlkjmdimjkaaGreat

set_option linter.unusedSimpArgs false
set_option linter.unusedVariables false
set_option linter.unusedSimpArgs false
set_option linter.unusedVariables false
namespace Go.Proofs.YtnadlkjmdimjkaaGreat
open Go.PL
theorem rightLn_kind {x : Ln} (h : rightLn x = true) : (x.kind = 1 ∨ x.kind = 2 ∨ x.kind = 3 ∨ x.kind = 4 ∨ x.kind = 5 ∨ x.kind = 6 ∨ x.kind = 7 ∨ x.kind = 8 ∨ x.kind = 9 ∨ x.kind = 10) ∧ (x.kind ≠ 8 → x.fo = [] ∧ x.ba = []) := by
  unfold rightLn at h
  split at h
  · rename_i hk
    simp only [Bool.and_eq_true, Bool.not_eq_true'] at h
    exact ⟨by omega, fun _ => tablesB_false.1 h.2.2.2.2.1⟩
  · simp only [Bool.and_eq_true] at h
    obtain ⟨_, h⟩ := h
    split at h
    · rename_i hk; exact ⟨by omega, fun hn => absurd hk hn⟩
    · simp only [Bool.and_eq_true, Bool.not_eq_true'] at h
      refine ⟨?_, fun _ => tablesB_false.1 h.1⟩
      have h := h.2
      split at h
      · omega
      · simp only [Bool.and_eq_true] at h
        have h := h.2
        split at h
        · omega
        · simp only [Bool.and_eq_true] at h
          have h := h.2
          split at h
          · omega
          · split at h
            · omega
            · simp only [Bool.and_eq_true, decide_eq_true_eq] at h
              omega
def lensM (m : List Eg) (x : Lg) : Ln × Int := match findE m x.id with | none => (default, 6) | some e => if x.down = true then (e.ln, 0) else (invR e.ln, 0)
structure RightM (m : List Eg) : Prop where
  r : ∀ e ∈ m, edgeB e = true
theorem edge_right {e : Eg} (h : edgeB e = true) : rightLn e.ln = true := by
  simp only [edgeB, Bool.and_eq_true] at h; exact h.2.2.2.2
theorem rightPut {m : List Eg} (h : RightM m) (e : Eg) : RightM (putM m e).1 := by
  unfold putM
  split
  · exact h
  · rename_i hb
    split
    · split <;> exact h
    · split
      · exact h
      · refine ⟨fun x hx => ?_⟩
        rcases List.mem_append.1 hx with hx | hx
        · exact h.r x hx
        · rw [List.mem_singleton.1 hx]; simpa using hb
theorem rightGrown : ∀ (l : List Eg) {m : List Eg}, RightM m → RightM (l.foldl (fun m e => (putM m e).1) m)
  | [], m, h => h
  | e :: l, m, h => rightGrown l (rightPut h e)
theorem right_nil : RightM [] := ⟨fun e h => by cases h⟩
set_option maxRecDepth 20000 in
set_option maxHeartbeats 16000000 in
theorem TLens_pure (m : List Eg) (x : Lg) (hm : OkM m) (hr : RightM m) : PL.Pure Tryz.prog 139 [tr (treeOf m), lg x] (lnc (lensM m x)) := by
  have hF := TFind_pure m x.id hm
  unfold findTM at hF
  unfold lensM
  cases hf : findE m x.id with
  | none =>
    rw [hf] at hF
    simp only at hF ⊢
    refine PL.Pure.of_v Tryz.func139 (by decide) rfl Tryz.ntmps139 Tryz.results139 (by simp) (lnc_dids _) ?_
    simp only [go_sem, tr, lg]
    refine vCall_of (hF) ?_ ?_ ?_; iterate 2 simp only [go_sem, tr, tg]
    simp only [go_sem, edc, eg_default, lnc, lns_default]
  | some e =>
    rw [hf] at hF
    simp only at hF ⊢
    have hem := (findE_id hf).2
    have hO := LOwn_pure e.ln (hm.l e hem)
    have hI := Inverse_pure e.ln (hm.l e hem)
    have hi : invM e.ln = (invR e.ln, 0) := by unfold invM; rw [edge_right (hr.r e hem)]; rfl
    rw [hi] at hI
    obtain ⟨id, down⟩ := x
    cases down
    · refine PL.Pure.of_v Tryz.func139 (by decide) rfl Tryz.ntmps139 Tryz.results139 (by simp) (lnc_dids _) ?_
      simp only [go_sem, tr, lg]
      refine vCall_of (hF) ?_ ?_ ?_; iterate 2 simp only [go_sem, tr, tg]
      simp only [go_sem, edc, eg]
      refine vCall_of (hI) ?_ ?_ ?_; iterate 2 simp only [go_sem, lns]
      simp only [go_sem, lnc, lns, Bool.false_eq_true, if_false]
    · refine PL.Pure.of_v Tryz.func139 (by decide) rfl Tryz.ntmps139 Tryz.results139 (by simp) (lnc_dids _) ?_
      simp only [go_sem, tr, lg]
      refine vCall_of (hF) ?_ ?_ ?_; iterate 2 simp only [go_sem, tr, tg]
      simp only [go_sem, edc, eg]
      refine vCall_of (hO) ?_ ?_ ?_; iterate 2 simp only [go_sem, lns]
      simp only [go_sem, lnc, lns, if_true]
theorem okInv {x : Ln} (h : OkLn x) : OkLn (invR x) := by
  unfold invR
  repeat' split
  all_goals first | exact ⟨h.c, h.f, h.b⟩ | exact ⟨h.c, h.b, h.f⟩
theorem okLens {m : List Eg} (hm : OkM m) (x : Lg) : OkLn (lensM m x).1 := by
  unfold lensM
  split
  · exact ⟨by decide, by decide, by decide⟩
  · rename_i e he
    have := hm.l e (findE_id he).2
    split
    · exact this
    · exact okInv this
end Go.Proofs.YtnadlkjmdimjkaaGreat

set_option linter.unusedSimpArgs false
set_option linter.unusedVariables false
set_option linter.unusedSimpArgs false
set_option linter.unusedVariables false
namespace Go.Proofs.YtnadlkjmdimjkaaGreat
open Go.PL
end Go.Proofs.YtnadlkjmdimjkaaGreat
