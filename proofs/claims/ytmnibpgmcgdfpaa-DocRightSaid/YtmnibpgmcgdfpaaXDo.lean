/- Contracts of functions and laws of this seat, each for every input that it names: lemmas of the proof. -/
import Derived.Test.YtmnibpgmcgdfpaaXDh
import Derived.Test.YtmnibpgmcgdfpaaXCj
set_option linter.unusedSimpArgs false
set_option linter.unusedVariables false
set_option linter.unusedSimpArgs false
set_option linter.unusedVariables false
namespace Go.Proofs.Ytmnibpgmcgdfpaa
open Go.PL
theorem joinT_two (a b : Str) (m : List Str) : Lib.join (a :: b :: m) [44] = a ++ ([44] ++ Lib.join (b :: m) [44]) := by
  have e : ∀ (a b : Str) (m : List Str), ([44] : Str).intercalate (a :: b :: m) = a ++ ([44] ++ ([44] : Str).intercalate (b :: m)) := fun a b m => by
    cases m <;> simp [List.intercalate, List.intersperse]
  exact e a b m
theorem joinT_one (a : Str) : Lib.join [a] [44] = a := by simp [Lib.join, List.intercalate]
theorem joinT_snoc : ∀ (x : Str) (l : List Str) (y : Str), Lib.join (x :: l ++ [y]) [44] = Lib.join (x :: l) [44] ++ [44] ++ y
  | x, [], y => by rw [List.cons_append, List.nil_append, joinT_two, joinT_one, joinT_one, List.append_assoc]
  | x, z :: l, y => by
    have := joinT_snoc z l y
    rw [List.cons_append, List.cons_append, joinT_two, joinT_two, ← List.cons_append, this]
    simp only [List.append_assoc]
/-- the first k texts, quoted -/
def jnQ (l : List Str) (k : Nat) : Str := Lib.join ((l.take k).map quoteS) [44]
theorem jnQ_zero {l : List Str} (h : 0 < l.length) : jnQ l 1 = quoteS (l.getD 0 []) := by
  cases l with
  | nil => simp at h
  | cons x l => exact joinT_one _
theorem jnQ_succ {l : List Str} {k : Nat} (h : k + 1 < l.length) : jnQ l (k + 1 + 1) = jnQ l (k + 1) ++ [44] ++ quoteS (l.getD (k + 1) []) := by
  unfold jnQ
  rw [map_take_snoc quoteS h]
  cases l with
  | nil => simp at h
  | cons x l => exact joinT_snoc _ _ _
theorem jnQ_len (l : List Str) (k : Nat) : (jnQ l k).length ≤ 123 * k := by
  have h1 := join_len (l.take k)
  have h2 : (l.take k).length ≤ k := List.length_take_le _ _
  unfold jnQ
  omega
theorem jnQ_end (l : List Str) : jnQ l l.length = Lib.join (l.map quoteS) [44] := by rw [jnQ, List.take_length]
set_option maxRecDepth 20000 in
set_option maxHeartbeats 8000000 in
theorem RLine_pure (e : En) (hl : e.l.length ≤ 1000000) (h1 : -9223372036854775808 ≤ e.n) (h2 : e.n ≤ 9223372036854775807) : PL.Pure Try.prog 65 [ent e] (.str (lineM e)) := by
  obtain ⟨r, n, l⟩ := e
  simp only at hl h1 h2
  have hP := RPrint_pure r
  have hp := print_len r
  have b1 : ((printM r).length : Int) + 1 ≤ 9223372036854775807 := by omega
  by_cases h0 : l = []
  · subst h0
    have hN := RNPrint_pure n h1 h2
    have hn := printZ_len h1 h2
    have b2 : (((printM r ++ [32]).length : Nat) : Int) + ((printZ n).length : Int) ≤ 9223372036854775807 := by simp; omega
    refine PL.Pure.of_v Try.func65 (by decide) rfl Try.ntmps65 Try.results65 (by simp) rfl ?_
    simp only [go_sem, ent]
    refine vCall_of (hP) ?_ ?_ ?_; (focus simp only [go_sem, ref]); (focus simp only [go_sem, ref])
    simp only [go_sem, b1, List.map_nil]
    refine vCall_of (hN) ?_ ?_ ?_; (focus simp only [go_sem]); (focus simp only [go_sem])
    simp only [go_sem, b2, lineM]
  · have hpos : 0 < l.length := List.length_pos_iff.2 h0
    have z0 : ((l.length : Int) == 0) = false := beq_eq_false_iff_ne.2 (by omega)
    have hml : l.length ≤ maxLen := by rw [maxLen_eq]; omega
    refine PL.Pure.of_v Try.func65 (by decide) rfl Try.ntmps65 Try.results65 (by simp) rfl ?_
    simp only [go_sem, ent]
    refine vCall_of (hP) ?_ ?_ ?_; (focus simp only [go_sem, ref]); (focus simp only [go_sem, ref])
    simp only [go_sem, b1, z0, List.length_map]
    refine vLoopM (ι := { k : Nat // k ≤ l.length }) 47 (fun x => [(1, .ptr 1 0), (3, .str (printM r ++ [32] ++ jnQ l x.1)), (4, .int .i64 (x.1 : Int))]) (fun x => [(1, [.int .i64 r.sc, .str r.gr, .str r.nm, .int .i64 n, .sl .no (l.map .str)], false)]) (fun x => []) (fun x => l.length - x.1) ⟨0, by omega⟩
      ⟨rfl, forall_cons rfl (forall_cons (by show PV.str _ = PV.str _; simp [jnQ, Lib.join]) (forall_cons rfl forall_nil)), forall_cons ⟨rfl, rfl⟩ forall_nil, forall_nil⟩ (fun x => ⟨(forall_cons rfl (forall_cons rfl (forall_cons rfl (forall_nil)))), (forall_cons rfl (forall_nil))⟩) (fun x => ?_)
    obtain ⟨k, hk⟩ := x
    simp only
    have hjl := jnQ_len l k
    by_cases h : (k : Int) < (l.length : Int)
    · have hka : k < l.length := by omega
      have w1 := w64s hka hml
      have i1 : (0 : Int) ≤ (k : Int) := by omega
      have hql := quoteS_len (l.getD k [])
      cases k with
      | zero =>
        have hj := jnQ_zero hpos
        have i2 : ¬ (0 : Int) < 0 := by omega
        have h' : (0 : Int) < (l.length : Int) := by omega
        have w0 : IntKind.i64.wrap 1 = 1 := w64 (by omega)
        by_cases h40 : 40 < ((l.getD 0 []).length : Int)
        · have hq : quoteS (l.getD 0 []) = [63] := by unfold quoteS; rw [if_neg (by omega)]
          simp only [go_sem, h', i2, getD_str hka, h40, w0]
          exact ⟨by simp [jnQ, Lib.join]; omega, ⟨0 + 1, by omega⟩, by show l.length - (0 + 1) < l.length - 0; omega, ⟨rfl, forall_cons rfl (forall_cons (by show PV.str _ = PV.str _; rw [hj, hq]; simp [jnQ, Lib.join]) (forall_cons rfl forall_nil)), forall_cons ⟨rfl, rfl⟩ forall_nil, forall_nil⟩⟩
        · have hq : quoteS (l.getD 0 []) = [34] ++ escs (l.getD 0 []) ++ [34] := by unfold quoteS; rw [if_pos (by omega)]
          have hQ := RQuote_pure (l.getD 0 []) (by omega)
          rw [← hq] at hQ
          simp only [go_sem, h', i2, getD_str hka, h40, w0]
          refine vCall_of (hQ) ?_ ?_ ?_; (focus simp only [go_sem]); (focus simp only [go_sem])
          simp only [go_sem, w0]
          exact ⟨by simp [jnQ, Lib.join]; simp at hql; omega, ⟨0 + 1, by omega⟩, by show l.length - (0 + 1) < l.length - 0; omega, ⟨rfl, forall_cons rfl (forall_cons (by show PV.str _ = PV.str _; rw [hj]; simp [jnQ, Lib.join]) (forall_cons rfl forall_nil)), forall_cons ⟨rfl, rfl⟩ forall_nil, forall_nil⟩⟩
      | succ k =>
        have hj := jnQ_succ hka
        have i2 : (0 : Int) < ((k + 1 : Nat) : Int) := by omega
        generalize hJ : jnQ l (k + 1) = J at *
        by_cases h40 : 40 < ((l.getD (k + 1) []).length : Int)
        · have hq : quoteS (l.getD (k + 1) []) = [63] := by unfold quoteS; rw [if_neg (by omega)]
          simp only [go_sem, h, i1, i2, getD_str hka, h40, w1]
          exact ⟨by simp; omega, by simp; omega, ⟨k + 1 + 1, by omega⟩, by show l.length - (k + 1 + 1) < l.length - (k + 1); omega, ⟨rfl, forall_cons rfl (forall_cons (by show PV.str _ = PV.str _; rw [hj, hq]; simp) (forall_cons rfl forall_nil)), forall_cons ⟨rfl, rfl⟩ forall_nil, forall_nil⟩⟩
        · have hq : quoteS (l.getD (k + 1) []) = [34] ++ escs (l.getD (k + 1) []) ++ [34] := by unfold quoteS; rw [if_pos (by omega)]
          have hQ := RQuote_pure (l.getD (k + 1) []) (by omega)
          rw [← hq] at hQ
          simp only [go_sem, h, i1, i2, getD_str hka, h40, w1]
          refine ⟨by simp; omega, ?_⟩
          refine vCall_of (hQ) ?_ ?_ ?_; (focus simp only [go_sem]); (focus simp only [go_sem])
          simp only [go_sem, w1]
          exact ⟨by simp; simp at hql; omega, ⟨k + 1 + 1, by omega⟩, by show l.length - (k + 1 + 1) < l.length - (k + 1); omega, ⟨rfl, forall_cons rfl (forall_cons (by show PV.str _ = PV.str _; rw [hj]; simp) (forall_cons rfl forall_nil)), forall_cons ⟨rfl, rfl⟩ forall_nil, forall_nil⟩⟩
    · obtain rfl : k = l.length := by omega
      simp only [go_sem, h, lineM, h0, jnQ_end]
end Go.Proofs.Ytmnibpgmcgdfpaa

set_option linter.unusedSimpArgs false
set_option linter.unusedVariables false
set_option linter.unusedSimpArgs false
set_option linter.unusedVariables false
namespace Go.Proofs.Ytmnibpgmcgdfpaa
open Go.PL
structure RLI2 (d : Dc) where
  k : Nat
  hk : k ≤ d.rows.length
  id : Nat
  hid : id = 23 ∨ id = 39 ∨ id = 71
structure RLI3 (l : List En) where
  k : Nat
  hk : k ≤ l.length
  id : Nat
  hid : id = 39 ∨ id = 71
set_option maxRecDepth 20000 in
set_option maxHeartbeats 16000000 in
theorem RLinesD_pure (d : Dc) (ok : LnOk d) : PL.Pure Try.prog 28 [doc d] (strs (linesM d)) := by
  obtain ⟨hd, rs⟩ := d
  obtain ⟨hl, rl, he, re⟩ := ok
  simp only at hl rl he re
  have hlm : hd.length ≤ maxLen := by rw [maxLen_eq]; omega
  have rlm : rs.length ≤ maxLen := by rw [maxLen_eq]; omega
  refine PL.Pure.of_v Try.func28 (by decide) rfl Try.ntmps28 Try.results28 (by simp) (strs_dids _) ?_
  simp only [go_sem, doc]
  refine awp_moveRow 3 7 23 0 1 9 [] rfl rfl rfl ?_
  refine vLoopM (ι := { k : Nat // k ≤ hd.length }) 73 (fun x => [(1, .ptr 1 0), (3, .sl (.row 23) (((hd.take x.1).map lineM).map .str)), (4, .int .i64 (x.1 : Int))]) (fun x => [(1, [.sl .no (hd.map ent), .sl .no (rs.map row)], false)]) (fun x => [(23, .live x.1 1 9)]) (fun x => hd.length - x.1) ⟨0, by omega⟩
    ⟨rfl, (forall_cons rfl (forall_cons rfl (forall_cons rfl (forall_nil)))), forall_cons ⟨rfl, rfl⟩ forall_nil, (forall_cons rfl (forall_nil))⟩ (fun x => ⟨forall_cons rfl (forall_cons (by simp [PV.ids, refInM]) (forall_cons rfl (forall_nil))), (forall_cons rfl (forall_nil))⟩) (fun x => ?_)
  obtain ⟨k, hk⟩ := x
  simp only
  by_cases h : (k : Int) < (hd.length : Int)
  · have hka : k < hd.length := by omega
    have w1 := w64s hka hlm
    have i1 : (0 : Int) ≤ (k : Int) := by omega
    have hok := he _ (getD_mem' hka (d := default))
    have hL := RLine_pure (hd.getD k default) hok.1 hok.2.1 hok.2.2
    have hs := map_take_snoc lineM hka
    simp only [go_sem, h, i1, getD_ent hka, ent]
    refine vCall_of (hL) ?_ ?_ ?_; (focus simp only [go_sem, ent]); (focus simp only [go_sem, ent])
    simp only [go_sem]
    refine ⟨⟨by simp; omega, sized_str _, room_small (by simp; omega) (by omega)⟩, ⟨⟨k + 1, by omega⟩, by show hd.length - (k + 1) < hd.length - k; omega, ⟨rfl, forall_cons rfl (forall_cons (by rw [hs, List.map_append]; rfl) (forall_cons (by rw [w1]; rfl) forall_nil)), forall_cons ⟨rfl, rfl⟩ forall_nil, forall_cons (by simp [upd, show min k hd.length = k by omega]) forall_nil⟩⟩⟩
  · obtain rfl : k = hd.length := by omega
    simp only [go_sem, h, List.take_length]
    refine vLoopM (ι := RLI2 ⟨hd, rs⟩) 73 (fun x => [(1, .ptr 1 0), (3, .sl (.row x.id) ((hd.map lineM ++ ((rs.take x.k).map rowLines).flatten).map .str)), (5, .int .i64 (x.k : Int))]) (fun x => [(1, [.sl .no (hd.map ent), .sl .no (rs.map row)], false)]) (fun x => [(x.id, .live (hd.map lineM ++ ((rs.take x.k).map rowLines).flatten).length 1 9)]) (fun x => rs.length - x.k) ⟨0, by omega, 23, .inl rfl⟩
      ⟨rfl, forall_cons rfl (forall_cons (by simp [upd]) (forall_cons rfl (forall_nil))), forall_cons ⟨rfl, rfl⟩ forall_nil, forall_cons (by simp [upd]) forall_nil⟩ (fun x => ⟨forall_cons rfl (forall_cons (by simp [PV.ids, refInM]) (forall_cons rfl (forall_nil))), (forall_cons rfl (forall_nil))⟩) (fun x => ?_)
    obtain ⟨k, hk, id, hid⟩ := x
    simp only
    have hfl := flat_len (rs.take k) fun r hr => re r (List.mem_of_mem_take hr)
    have hfl' : (rs.take k).length ≤ 1000000 := by rw [List.length_take]; omega
    generalize hpre : hd.map lineM ++ ((rs.take k).map rowLines).flatten = pre
    have hpl : pre.length ≤ 2000000000 := by rw [← hpre]; simp at hfl hfl' ⊢; omega
    by_cases h : (k : Int) < (rs.length : Int)
    · have hka : k < rs.length := by omega
      have w1 := w64s hka rlm
      have i1 : (0 : Int) ≤ (k : Int) := by omega
      obtain ⟨ok1, ok2, ok3⟩ := re _ (getD_mem' hka (d := default))
      have hs := flat_take hka
      have hrr := getD_row hka
      generalize hr : rs.getD k default = r at *
      have hrm : r.l.length ≤ maxLen := by rw [maxLen_eq]; omega
      rcases hid with rfl | rfl | rfl
      all_goals
        simp only [go_sem, h, i1, hrr, row]
        repeat ((with_reducible refine And.intro ?_ ?_); (focus ((repeat' (with_reducible apply And.intro)) <;> (first | omega | exact room_small (by omega) (by omega) | exact room_small (by simp; omega) (by omega) | exact sized_str _ | (simp; done) | (simp; omega)))))
        refine vLoopM (ι := RLI3 r.l) 73 (fun x => [(1, .ptr 1 0), (3, .sl (.row x.id) ((pre ++ r.item :: (r.l.take x.k).map (entLine r.item)).map .str)), (5, .int .i64 (k : Int)), (6, .int .i64 (x.k : Int))]) (fun x => [(1, [.sl .no (hd.map ent), .sl .no (rs.map row)], false)]) (fun x => [(x.id, .live (pre ++ r.item :: (r.l.take x.k).map (entLine r.item)).length 1 9)]) (fun x => r.l.length - x.k) ⟨0, by omega, 39, .inl rfl⟩
          ⟨rfl, forall_cons rfl (forall_cons (by simp [upd]) (forall_cons rfl (forall_cons rfl (forall_nil)))), forall_cons ⟨rfl, rfl⟩ forall_nil, forall_cons (by simp [upd]) forall_nil⟩ (fun x => ⟨forall_cons rfl (forall_cons (by simp [PV.ids, refInM]) (forall_cons rfl (forall_cons rfl (forall_nil)))), (forall_cons rfl (forall_nil))⟩) (fun x => ?_)
        obtain ⟨k', hk', id, hid⟩ := x
        simp only
        by_cases h' : (k' : Int) < (r.l.length : Int)
        · have hka' : k' < r.l.length := by omega
          have w1' := w64s hka' hrm
          have i1' : (0 : Int) ≤ (k' : Int) := by omega
          have hok := ok3 _ (getD_mem' hka' (d := default))
          have hL := RLine_pure (r.l.getD k' default) hok.1 hok.2.1 hok.2.2
          have hLl := lineM_len hok
          have hs' := map_take_snoc (entLine r.item) hka'
          have b1 : (r.item.length : Int) + 1 ≤ 9223372036854775807 := by omega
          have b2 : (((r.item ++ [32]).length : Nat) : Int) + ((lineM (r.l.getD k' default)).length : Int) ≤ 9223372036854775807 := by rw [List.length_append]; simp only [List.length_cons, List.length_nil]; omega
          have hre := getD_ent hka'
          rcases hid with rfl | rfl
          all_goals
            simp only [go_sem, h, i1, hrr, row, h', i1', hre, ent]
            refine vDrawQ (by kernel_rfl) (by kernel_rfl) ?_
            simp only [go_sem, h, i1, hrr, row, h', i1', hre, ent, b1]
            refine vCall_of (hL) ?_ ?_ ?_; (focus simp only [go_sem, ent]); (focus simp only [go_sem, ent])
            simp only [go_sem, b1, b2]
            repeat ((with_reducible refine And.intro ?_ ?_); (focus ((repeat' (with_reducible apply And.intro)) <;> (first | omega | exact room_small (by omega) (by omega) | exact room_small (by simp; omega) (by omega) | exact sized_str _ | (simp; done) | (simp; omega)))))
            exact ⟨⟨k' + 1, by omega, 71, .inr rfl⟩, by show r.l.length - (k' + 1) < r.l.length - k'; omega, ⟨rfl, forall_cons rfl (forall_cons (by rw [hs']; simp [upd, entLine]) (forall_cons rfl (forall_cons (by rw [w1']; rfl) forall_nil))), forall_cons ⟨rfl, rfl⟩ forall_nil, forall_cons (by simp [upd]; omega) forall_nil⟩⟩
        · obtain rfl : k' = r.l.length := by omega
          have e2 : hd.map lineM ++ ((rs.take (k + 1)).map rowLines).flatten = pre ++ r.item :: r.l.map (entLine r.item) := by rw [hs, ← hpre, rowLines]; simp
          rcases hid with rfl | rfl
          · simp only [go_sem, h, i1, hrr, row, h', List.take_length]
            exact ⟨⟨k + 1, hka, 39, .inr (.inl rfl)⟩, by show rs.length - (k + 1) < rs.length - k; omega, ⟨rfl, forall_cons rfl (forall_cons (by rw [e2]; rfl) (forall_cons (by rw [w1]; rfl) forall_nil)), forall_cons ⟨rfl, rfl⟩ forall_nil, forall_cons (by rw [e2]; rfl) forall_nil⟩⟩
          · simp only [go_sem, h, i1, hrr, row, h', List.take_length]
            exact ⟨⟨k + 1, hka, 71, .inr (.inr rfl)⟩, by show rs.length - (k + 1) < rs.length - k; omega, ⟨rfl, forall_cons rfl (forall_cons (by rw [e2]; rfl) (forall_cons (by rw [w1]; rfl) forall_nil)), forall_cons ⟨rfl, rfl⟩ forall_nil, forall_cons (by rw [e2]; rfl) forall_nil⟩⟩
    · have hk2 : k ≤ rs.length := hk
      obtain rfl : k = rs.length := by omega
      rw [List.take_length] at hpre
      subst hpre
      rcases hid with rfl | rfl | rfl
      all_goals
        simp only [go_sem, h, List.take_length, strs, linesM]
end Go.Proofs.Ytmnibpgmcgdfpaa

set_option linter.unusedSimpArgs false
set_option linter.unusedVariables false
set_option linter.unusedSimpArgs false
set_option linter.unusedVariables false
namespace Go.PL
theorem Pub.agg2 {K : Ref → Prop} {m : Hp} {a b a' b' : PV} (h1 : Pub K m a a') (h2 : Pub K m b b') : Pub K m (.agg [a, b]) (.agg [a', b']) := .agg [a, b] [a', b'] rfl fun i hi => by
  match i, hi with
  | 0, _ => exact h1
  | 1, _ => exact h2
theorem Pub.agg5 {K : Ref → Prop} {m : Hp} {a b c d e a' b' c' d' e' : PV} (h1 : Pub K m a a') (h2 : Pub K m b b') (h3 : Pub K m c c') (h4 : Pub K m d d') (h5 : Pub K m e e') : Pub K m (.agg [a, b, c, d, e]) (.agg [a', b', c', d', e']) := .agg [a, b, c, d, e] [a', b', c', d', e'] rfl fun i hi => by
  match i, hi with
  | 0, _ => exact h1
  | 1, _ => exact h2
  | 2, _ => exact h3
  | 3, _ => exact h4
  | 4, _ => exact h5
end Go.PL
namespace Go.Proofs.Ytmnibpgmcgdfpaa
open Go.PL
theorem sized_entF (l : List En) : Sized 5 (l.map entF) := fun e he => by
  obtain ⟨x, _, rfl⟩ := List.mem_map.1 he; rfl
set_option maxHeartbeats 4000000 in
theorem ownEntry_fr (e : En) (he : e.l.length ≤ 1000000) : PL.Pure Try.prog 74 [ent e] (entF e) := by
  have hr := room_small (show e.l.length ≤ 100000000000 by omega) (show 16 ≤ 1000 by omega)
  refine PL.Pure.of_p [] Try.func74 (by decide) rfl Try.ntmps74 Try.results74 (by simp) (entF_dids _) ?_
  simp only [go_sem, ent, sized_str, atoms_str, hr]
  exact ⟨_, rfl, Pub.agg5 (.clean rfl) (.clean rfl) (.clean rfl) (.clean rfl) (Pub.frl (n := e.l.length) (sz := 1) (e := 9) (by simp [upd]) (by simp))⟩
set_option maxRecDepth 20000 in
set_option maxHeartbeats 8000000 in
theorem ownEntries_fr (l : List En) (hl : l.length ≤ 100000) (hl' : ∀ e ∈ l, e.l.length ≤ 1000000) : PL.Pure Try.prog 47 [ents l] (PV.frl (l.map entF)) := by
  have hm : l.length ≤ maxLen := by rw [maxLen_eq]; omega
  refine PL.Pure.of_p [] Try.func47 (by decide) rfl Try.ntmps47 Try.results47 (by simp) (by rw [frl_dids, didsL_entF]) ?_
  simp only [go_sem, ents]
  refine awp_nilRow 3 16 5 27 rfl rfl ?_
  refine vLoopM (ι := { x : Nat × (List En) // x.1 ≤ (l).length ∧ (x.2 = l.take x.1) }) 19 (fun x => [(3, .sl (.row 16) (x.1.2.map entF)), (6, ents l), (7, .int .i64 (l.length : Int)), (8, .int .i64 (x.1.1 : Int))]) (fun x => []) (fun x => [(16, .live (x.1.2.length) (5) (27))]) (fun x => (l).length - x.1.1) ⟨(0, []), Nat.zero_le _, rfl⟩ ⟨rfl, (forall_cons rfl (forall_cons rfl (forall_cons rfl (forall_cons rfl forall_nil)))), forall_nil, (forall_cons rfl forall_nil)⟩ (fun x => ⟨(forall_cons (by simp [PV.ids, refInM]) (forall_cons rfl (forall_cons rfl (forall_cons rfl forall_nil)))), forall_nil⟩) (fun x => ?_); obtain ⟨⟨k, acc⟩, hk, hI⟩ := x; simp only at hk hI ⊢
  have hacc : acc.length ≤ l.length := by rw [hI]; exact take_le_len _ _
  by_cases h : (k : Int) < (l.length : Int)
  · (have hka : k < (l).length := by omega); (have w1 := w64s hka (hm)); (have i1 : (0 : Int) ≤ (k : Int) := by omega)
    have hr := room1 (show acc.length + 1 ≤ 1000000 by omega) (show 72 ≤ 1000 by omega)
    have hO := ownEntry_fr (l.getD k default) (hl' _ (getD_mem' hka))
    simp only [go_sem, ents, h, getD_ent' hka, ent, i1]
    refine vCall_of (hO) ?_ ?_ ?_; (focus simp only [go_sem, ent]); (focus simp only [go_sem, ent])
    simp only [go_sem, ent, entF, sized_entF, hr, w1]
    exact ⟨⟨(k + 1, acc ++ [l.getD k default]), by (try simp only); omega, by simp only; rw [take_snoc (d := default) hka, hI]⟩, by show (l).length - (k + 1) < (l).length - k; omega, ⟨rfl, (forall_cons (by simp [upd, entF, PV.frl]) (forall_cons rfl (forall_cons rfl (forall_cons rfl forall_nil)))), forall_nil, (forall_cons (by simp [upd]) forall_nil)⟩⟩
  · obtain rfl : k = l.length := by omega
    rw [List.take_length] at hI
    subst hI
    simp only [go_sem, h, ents]
    exact ⟨_, rfl, Pub.frl (n := acc.length) (sz := 5) (e := 27) (by simp [upd]) (List.length_map _)⟩
def rowF (r : Rw) : PV := .agg [.str r.item, PV.frl (r.l.map entF)]
/-- rows of new memory: nil if there are none -/
def rowsF : List Rw → PV
  | [] => .sl .nil []
  | r :: l => PV.frl ((r :: l).map rowF)
def docF (d : Dc) : PV := .agg [PV.frl (d.head.map entF), rowsF d.rows]
theorem rowF_dids (r : Rw) : (rowF r).dids = [] := by simp only [rowF, PV.dids, PV.didsL, frl_dids, didsL_entF, List.append_nil]
theorem didsL_rowF (l : List Rw) : PV.didsL (l.map rowF) = [] := by
  induction l with
  | nil => rfl
  | cons e l ih => simp only [List.map_cons, PV.didsL, rowF_dids, ih, List.append_nil]
theorem rowsF_dids (l : List Rw) : (rowsF l).dids = [] := by
  cases l with
  | nil => rfl
  | cons r l => rw [rowsF, frl_dids, didsL_rowF]
theorem docF_dids (d : Dc) : (docF d).dids = [] := by simp only [docF, PV.dids, PV.didsL, frl_dids, didsL_entF, rowsF_dids, List.append_nil]
theorem sized_rowF (l : List Rw) : Sized 2 (l.map rowF) := fun e he => by
  obtain ⟨x, _, rfl⟩ := List.mem_map.1 he; rfl
theorem atoms_rowF (l : List Rw) : Atoms (l.map rowF) := fun e he => by
  obtain ⟨t, _, rfl⟩ := List.mem_map.1 he
  rfl
def gatF (i : Nat) (l : List Rw) : Nat → PV
  | 0 => .sl .nil []
  | k + 1 => .sl (.row i) ((l.take (k + 1)).map rowF)
set_option maxRecDepth 20000 in
set_option maxHeartbeats 8000000 in
theorem DOwn_fr (d : Dc) (h1 : d.head.length ≤ 100000) (h2 : d.rows.length ≤ 100000) (h3 : ∀ e ∈ d.head, e.l.length ≤ 1000000) (h4 : ∀ r ∈ d.rows, r.l.length ≤ 100000 ∧ ∀ e ∈ r.l, e.l.length ≤ 1000000) : PL.Pure Try.prog 18 [doc d] (docF d) := by
  obtain ⟨hd, rws⟩ := d
  simp only at h1 h2 h3 h4
  have hm : rws.length ≤ maxLen := by rw [maxLen_eq]; omega
  have hE := ownEntries_fr hd h1 h3
  refine PL.Pure.of_p [] Try.func18 (by decide) rfl Try.ntmps18 Try.results18 (by simp) (docF_dids _) ?_
  simp only [go_sem, doc]
  refine vCall_of (hE) ?_ ?_ ?_; (focus simp only [go_sem, ents]); (focus simp only [go_sem, ents])
  simp only [go_sem, ents]
  refine vLoopM (ι := { k : Nat // k ≤ rws.length }) 30 (fun x => [(2, .ptr 2 0), (3, .ptr 3 0), (11, .sl .no (rws.map row)), (12, .int .i64 (rws.length : Int)), (13, .int .i64 (x.1 : Int))]) (fun x => [(2, [.sl .nil [], .sl .nil []], false), (3, [PV.frl (hd.map entF), gatF 26 rws x.1], false)]) (fun x => gatR 26 x.1) (fun x => rws.length - x.1) ⟨0, Nat.zero_le _⟩
    ⟨rfl, (forall_cons rfl (forall_cons rfl (forall_cons rfl (forall_cons rfl (forall_cons rfl (forall_nil)))))), forall_cons ⟨rfl, rfl⟩ (forall_cons ⟨rfl, rfl⟩ forall_nil), forall_nil⟩ (fun x => ?_) (fun x => ?_)
  · obtain ⟨k, hk⟩ := x
    cases k with
    | zero => exact ⟨(forall_cons rfl (forall_cons rfl (forall_cons rfl (forall_cons rfl (forall_cons rfl (forall_nil)))))), forall_cons rfl (forall_cons (by simp [gatF, PV.ids, PV.idsL, refInM, frl_ids]) forall_nil)⟩
    | succ k => exact ⟨(forall_cons rfl (forall_cons rfl (forall_cons rfl (forall_cons rfl (forall_cons rfl (forall_nil)))))), forall_cons rfl (forall_cons (by simp [gatF, gatR, PV.ids, PV.idsL, refInM, frl_ids]) forall_nil)⟩
  obtain ⟨k, hk⟩ := x
  simp only
  by_cases h : (k : Int) < (rws.length : Int)
  · have hka : k < rws.length := by omega
    have w1 := w64s hka hm
    have i1 : (0 : Int) ≤ (k : Int) := by omega
    have rk := h4 _ (getD_mem' (d := default) hka)
    have hO := ownEntries_fr (rws.getD k default).l rk.1 rk.2
    have hsn : (rws.take (k + 1)).map rowF = (rws.take k).map rowF ++ [rowF (rws.getD k default)] := by rw [take_snoc (d := default) hka, List.map_append]; rfl
    have hsz := sized_rowF (rws.take k)
    have hr0 := room1 (show 1 ≤ 1000000 by omega) (show 40 ≤ 1000 by omega)
    have hat := atoms_rowF [rws.getD k default]
    have hln : ((rws.take k).map rowF).length = k := by simp; omega
    cases k with
    | zero =>
      have h' : (0 : Int) < (rws.length : Int) := by simpa using h
      have g0 := getD_row' hka
      simp only [go_sem, gatF, gatR, h', g0, row, i1]
      refine vDrawQ (by kernel_rfl) (by kernel_rfl) ?_
      simp only [go_sem]
      refine vCall_of (hO) ?_ ?_ ?_; (focus simp only [go_sem, ents]); (focus simp only [go_sem, ents])
      have w0 : IntKind.i64.wrap 1 = 1 := w64 (by omega)
      simp only [go_sem, ents, w1, w0]
      refine ⟨hr0, ⟨⟨0 + 1, by omega⟩, by show rws.length - (0 + 1) < rws.length - 0; omega, ⟨rfl, (forall_cons rfl (forall_cons rfl (forall_cons rfl (forall_cons rfl (forall_cons rfl (forall_nil)))))), forall_cons ⟨rfl, rfl⟩ (forall_cons ⟨?_, rfl⟩ forall_nil), forall_cons rfl forall_nil⟩⟩⟩
      show some [PV.frl _, PV.sl (.row 26) _] = some [PV.frl _, PV.sl (.row 26) _]
      rw [hsn]
      rfl
    | succ k =>
      have hl3 : (rws.take (k + 1)).length = k + 1 := by rw [List.length_take]; omega
      have hr := room1 (show k + 1 + 1 ≤ 1000000 by omega) (show 40 ≤ 1000 by omega)
      simp only [go_sem, gatF, gatR, h, getD_row' hka, row, i1]
      refine vDrawQ (by kernel_rfl) (by kernel_rfl) ?_
      simp only [go_sem]
      refine vCall_of (hO) ?_ ?_ ?_; (focus simp only [go_sem, ents]); (focus simp only [go_sem, ents])
      simp only [go_sem, ents, w1]
      refine ⟨⟨hl3.symm, sized_rowF _, by rw [hl3]; exact hr⟩, ⟨⟨k + 1 + 1, by omega⟩, by show rws.length - (k + 1 + 1) < rws.length - (k + 1); omega, ⟨rfl, (forall_cons rfl (forall_cons rfl (forall_cons rfl (forall_cons rfl (forall_cons rfl (forall_nil)))))), forall_cons ⟨rfl, rfl⟩ (forall_cons ⟨?_, rfl⟩ forall_nil), forall_cons ?_ forall_nil⟩⟩⟩
      · show some [PV.frl _, PV.sl (.row 26) _] = some [PV.frl _, PV.sl (.row 26) _]
        rw [hsn]
        rfl
      · show some _ = some _
        rw [hl3]
  · obtain rfl : k = rws.length := by omega
    cases rws with
    | nil =>
      have h' : ¬ (0 : Int) < 0 := by omega
      simp only [go_sem, gatF, gatR, h', List.length_nil]
      exact ⟨_, rfl, Pub.agg2 (.clean frl_ids) (.clean rfl)⟩
    | cons r rs =>
      have ht : (r :: rs).take (rs.length + 1) = r :: rs := List.take_length (l := r :: rs)
      have h' : ¬ ((rs.length + 1 : Nat) : Int) < ((rs.length + 1 : Nat) : Int) := by omega
      simp only [go_sem, gatF, gatR, h', List.length_cons, ht, List.take_length]
      exact ⟨_, rfl, Pub.agg2 (.clean frl_ids) (Pub.frl (es := (r :: rs).map rowF) (n := rs.length + 1) (sz := 2) (e := 53) rfl (by simp))⟩
end Go.Proofs.Ytmnibpgmcgdfpaa

set_option linter.unusedSimpArgs false
set_option linter.unusedVariables false
set_option linter.unusedSimpArgs false
set_option linter.unusedVariables false
namespace Go.PL
open Go.RowKit
/-! raw steps that let texts grow: what is as it was, but for numbers, and for texts that grow by c at most -/
def LikeC (c : Nat) (v v' : Value) : Prop := v' = v ∨ (∃ m n, v = .int .i64 m ∧ v' = .int .i64 n) ∨ ∃ m n : ByteArray, v = .string m ∧ v' = .string n ∧ n.size ≤ m.size + c
theorem LikeC.refl (c : Nat) (v : Value) : LikeC c v v := .inl rfl
theorem LikeC.slice {c : Nat} {A : Option Addr} {n k : Nat} {v : Value} (h : LikeC c (.slice A n k) v) : v = .slice A n k := by
  rcases h with h | ⟨m, n, e, _⟩ | ⟨m, n, e, _⟩
  · exact h
  · cases e
  · cases e
theorem LikeC.int {c : Nat} {k : Int} {v : Value} (h : LikeC c (.int .i64 k) v) : ∃ n, v = .int .i64 n := by
  rcases h with h | ⟨m, n, e, h⟩ | ⟨m, n, e, _⟩
  · exact ⟨_, h⟩
  · exact ⟨_, h⟩
  · cases e
theorem LikeC.str {c : Nat} {k : ByteArray} {v : Value} (h : LikeC c (.string k) v) : ∃ n : ByteArray, v = .string n ∧ n.size ≤ k.size + c := by
  rcases h with h | ⟨m, n, e, _⟩ | ⟨m, n, e, h, hs⟩
  · exact ⟨_, h, by omega⟩
  · cases e
  · cases e; exact ⟨n, h, hs⟩
structure KeepC (lo c : Nat) (w w' : World) : Prop where
  b : BelowF (fun k => k < lo) w w'
  k : ∀ {f : Nat × Nat} (b : Nat) (vs : List Value) (t : TypeId), w.heap[b]? = some (Obj.cells ⟨vs⟩ t f) → ∃ vs' : List Value, w'.heap[b]? = some (Obj.cells ⟨vs'⟩ t f) ∧ vs'.length = vs.length ∧ ∀ o, LikeC c (vs.getD o undef) (vs'.getD o undef)
theorem KeepC.refl (lo c : Nat) (w : World) : KeepC lo c w w := ⟨BelowF.refl _ w, fun b vs t h => ⟨vs, h, rfl, fun _ => .refl _ _⟩⟩
/-- one cell stored, behind a draw or not -/
theorem KeepC.store {lo c b o : Nat} {w w1 : World} {vs : List Value} {t : TypeId} {v : Value} (h1 : w1 = w ∨ w1 = { w with drawn := w.drawn + 1 }) (hlo : lo ≤ b) (hb : w.heap[b]? = some (.cells ⟨vs⟩ t (0, 0))) (ho : o < vs.length) (hl : LikeC c (vs.getD o undef) v) : KeepC lo c w (w1.setRow b ⟨vs.take o ++ [v] ++ vs.drop (o + 1)⟩) := by
  have hb1 : w1.heap[b]? = some (.cells ⟨vs⟩ t (0, 0)) := by rcases h1 with rfl | rfl <;> exact hb
  have hh : ∀ k : Nat, w1.heap[k]? = w.heap[k]? := fun k => by rcases h1 with rfl | rfl <;> rfl
  have hbel : BelowF (fun k => k < lo) w w1 := by
    rcases h1 with rfl | rfl
    · exact BelowF.refl _ _
    · exact (BelowF.refl _ w).drew
  refine ⟨hbel.trans (below_setRow (by omega)), fun {f} k us tt h => ?_⟩
  by_cases e : k = b
  · subst e
    rw [hb] at h
    cases h
    refine ⟨_, setRow_new hb1, by simp; omega, fun i => ?_⟩
    by_cases e : i = o
    · subst e
      have : (vs.take i ++ [v] ++ vs.drop (i + 1)).getD i undef = v := by
        rw [List.getD_eq_getElem?_getD, List.append_assoc, List.getElem?_append_right (by simp; omega)]
        have : i - (vs.take i).length = 0 := by simp; omega
        rw [this]; rfl
      rw [this]; exact hl
    · have : (vs.take o ++ [v] ++ vs.drop (o + 1)).getD i undef = vs.getD i undef := by
        rw [List.getD_eq_getElem?_getD, List.getD_eq_getElem?_getD]
        congr 1
        rcases Nat.lt_or_gt_of_ne e with h1 | h1
        · rw [List.append_assoc, List.getElem?_append_left (by simp; omega), List.getElem?_take_of_lt h1]
        · rw [List.getElem?_append_right (by simp; omega), List.getElem?_drop]
          congr 1
          simp; omega
      rw [this]; exact .refl _ _
  · exact ⟨us, (setRow_old e).trans ((hh k).trans h), rfl, fun _ => .refl _ _⟩
theorem rx_cat_eq {P : Program} {ev : Operand → Value} {w : World} {dst : Option Nat} {ty : TypeId} {pos : String} {af : Array Edge} {g : Option (Nat × Bool)} {t yt : TypeId} {x y : Operand} {m n : ByteArray} (hs : m.size + n.size ≤ 1000000000) (hx : ev x = .string m) (hy : ev y = .string n) : (execOp ev ⟨dst, .binOp .add t x y yt, ty, pos, af, g⟩).run P w = .ok (.value (.string (m ++ n))) w := by
  have h : ¬ (9223372036854775807 : Int) < (m.size : Int) + (n.size : Int) := by omega
  simp [execOp, hx, hy, eqGuard, binOp, Op.stringOp, h]
/-- a young list: n elements of sz cells; E: what is told of the k-th one's cells -/
def YLst (lo : Nat) (w : World) (v : Value) (n sz : Nat) (E : Nat → (Nat → Value) → Prop) : Prop := ∃ A c, v = .slice A n c ∧ (0 < n → ∃ (b o : Nat) (vs : List Value) (t : TypeId), A = some ⟨b, o, none⟩ ∧ lo ≤ b ∧ w.heap[b]? = some (Obj.cells ⟨vs⟩ t (0, 0)) ∧ o + n * sz ≤ vs.length ∧ ∀ k, k < n → E k (fun j => vs.getD (o + k * sz + j) undef))
theorem YLst.keep {lo n sz c : Nat} {w w' : World} {v : Value} {E E' : Nat → (Nat → Value) → Prop} (h : YLst lo w v n sz E) (k : KeepC lo c w w') (hE : ∀ i g g', E i g → (∀ j, LikeC c (g j) (g' j)) → E' i g') : YLst lo w' v n sz E' := by
  obtain ⟨A, cp, hv, h⟩ := h
  refine ⟨A, cp, hv, fun hn => ?_⟩
  obtain ⟨b, o, vs, t, h1, h2, h3, h4, h5⟩ := h hn
  obtain ⟨vs', e1, e2, e3⟩ := k.k b vs t h3
  exact ⟨b, o, vs', t, h1, h2, e1, by omega, fun j hj => hE j _ _ (h5 j hj) fun i => e3 _⟩
def EStr (B : Nat) (g : Nat → Value) : Prop := ∃ s : ByteArray, g 0 = .string s ∧ s.size ≤ B
def EInt (g : Nat → Value) : Prop := ∃ m, g 3 = .int .i64 m
theorem EStr.keep {B c : Nat} {g g' : Nat → Value} (h : EStr B g) (hg : ∀ j, LikeC c (g j) (g' j)) : EStr (B + c) g' := by
  obtain ⟨s, e, hs⟩ := h
  have := hg 0
  rw [e] at this
  obtain ⟨n, e2, h2⟩ := this.str
  exact ⟨n, e2, by omega⟩
theorem EInt.keep {c : Nat} {g g' : Nat → Value} (h : EInt g) (hg : ∀ j, LikeC c (g j) (g' j)) : EInt g' := by
  obtain ⟨m, e⟩ := h
  have := hg 3
  rw [e] at this
  exact this.int
theorem YLst.slice_of {lo n sz : Nat} {w : World} {v : Value} {E : Nat → (Nat → Value) → Prop} (h : YLst lo w v n sz E) : ∃ A c, v = .slice A n c := by
  obtain ⟨A, c, hv, _⟩ := h; exact ⟨A, c, hv⟩
end Go.PL
namespace Go.Proofs.Ytmnibpgmcgdfpaa
open Go.PL Go.RowKit
/-- an entry, a row of a young document -/
def EHd (n : Nat) (w : World) (B : Nat) (l : List En) (k : Nat) (g : Nat → Value) : Prop := EInt g ∧ YLst n w (g 4) (l.getD k default).l.length 1 (fun _ => EStr B)
def ERw (n : Nat) (w : World) (B : Nat) (l : List Rw) (k : Nat) (g : Nat → Value) : Prop := EStr B g ∧ YLst n w (g 1) (l.getD k default).l.length 5 (fun _ => EInt)
/-- a young document, in its cells -/
def XD (n B : Nat) (w : World) (b8 o8 : Nat) (d : Dc) : Prop := ∃ HV RV, w.cell? ⟨b8, o8 + 0, none⟩ = some HV ∧ w.cell? ⟨b8, o8 + 1, none⟩ = some RV ∧ YLst n w HV d.head.length 5 (EHd n w B d.head) ∧ YLst n w RV d.rows.length 2 (ERw n w B d.rows)
theorem cell_keep {lo c b o : Nat} {w w' : World} {A : Option Addr} {n k : Nat} (h : KeepC lo c w w') (hc : w.cell? ⟨b, o, none⟩ = some (.slice A n k)) : w'.cell? ⟨b, o, none⟩ = some (.slice A n k) := by
  have hb : ∃ vs t f, w.heap[b]? = some (Obj.cells ⟨vs⟩ t f) := by
    unfold World.cell? at hc
    simp only at hc
    cases e : w.heap[b]? with
    | none => rw [e] at hc; simp at hc
    | some ob =>
      rw [e] at hc
      cases ob with
      | cells vs t f => exact ⟨vs.toList, t, f, rfl⟩
      | _ => simp at hc
  obtain ⟨vs, t, f, hb⟩ := hb
  obtain ⟨vs', e1, e2, e3⟩ := h.k b vs t hb
  rw [cell_of hb] at hc
  obtain ⟨h1, h2⟩ := List.getElem?_eq_some_iff.1 hc
  have := e3 o
  rw [getD_lt h1, h2] at this
  rw [cell_of e1, List.getElem?_eq_getElem (by omega), ← getD_lt (by omega : o < vs'.length), this.slice]
theorem XD.keep {n B c : Nat} {w w' : World} {b8 o8 : Nat} {d : Dc} (h : XD n B w b8 o8 d) (k : KeepC n c w w') : XD n (B + c) w' b8 o8 d := by
  obtain ⟨HV, RV, c1, c2, h1, h2⟩ := h
  obtain ⟨A1, p1, rfl⟩ := h1.slice_of
  obtain ⟨A2, p2, rfl⟩ := h2.slice_of
  refine ⟨_, _, cell_keep k c1, cell_keep k c2, h1.keep k fun i g g' ⟨e1, e2⟩ hg => ⟨e1.keep hg, ?_⟩, h2.keep k fun i g g' ⟨e1, e2⟩ hg => ⟨e1.keep hg, ?_⟩⟩
  · obtain ⟨A, p, hv⟩ := e2.slice_of
    have := hg 4
    rw [hv] at this
    rw [this.slice, ← hv]
    exact e2.keep k fun i g g' e hg => e.keep hg
  · obtain ⟨A, p, hv⟩ := e2.slice_of
    have := hg 1
    rw [hv] at this
    rw [this.slice, ← hv]
    exact e2.keep k fun i g g' e hg => e.keep hg
theorem XD.mono {n B C : Nat} {w : World} {b8 o8 : Nat} {d : Dc} (h : XD n B w b8 o8 d) (hBC : B ≤ C) : XD n C w b8 o8 d := by
  have := h.keep (KeepC.refl n (C - B) w)
  rwa [show B + (C - B) = C by omega] at this
end Go.Proofs.Ytmnibpgmcgdfpaa
