/- Contracts of functions and laws of this seat, each for every input that it names: lemmas of the proof. -/
import Derived.Test.YtmnibpgmcgdfpaaPlL
import Derived.Test.YtmnibpgmcgdfpaaXAa
import Derived.WalkKit
import Derived.Deep.RegionLaw
import Derived.Shelf.RegionOpenPlain
import Derived.Lib.Walk
import Derived.Lib.SliceRun
import Derived.Lib.AppendZerosOnto
import Derived.Lib.Overlaps
import Derived.Laws.Externs
import Derived.Laws.AppendOwn
import Derived.Laws.LoneSync
set_option linter.unusedSimpArgs false
set_option linter.unusedVariables false
set_option linter.unusedSimpArgs false
set_option linter.unusedVariables false
namespace Go.PL
open Go.RowKit Go.Lib
/-! slices.Insert at rows, raw -/
structure KeepP (p : Prop) : Prop where
  out : p
section
variable {P : Program}
theorem run_copy_rowN (w : World) (dT sT ty elem : TypeId) (sz g o dLen dCap : Nat) (a : Addr) (sLen sCap : Nat) (cur : Array Value) (t : TypeId) (cs : List Value)
    (hu : P.underlying dT = some (.slice elem)) (hs : (P.info? elem).map (·.size) = some sz)
    (hg : w.heap[g]? = some (.cells cur t (0, 0))) (hn : cs.length = Nat.min sLen dLen * sz)
    (hsrc : ∀ j v, cs[j]? = some v → w.cell? (a.add j) = some v) (hfit : o + cs.length ≤ cur.size) (h1 : ∀ v ∈ cs, v.oneCell' = true) :
    (Builtin.copy_ #[dT, sT] ty #[.slice (some ⟨g, o, none⟩) dLen dCap, .slice (some a) sLen sCap]).run P w =
      .ok (goInt (Nat.min sLen dLen)) (w.setRow g (cur.toList.take o ++ cs ++ cur.toList.drop (o + cs.length)).toArray) := by
  have hl := run_loadCells_list (P := P) w a cs hsrc
  have hst := run_storeCells_at P g o t cs 0 cur w hg (by simpa using hfit) h1
  cases hq : P.info? elem with
  | none => simp [hq] at hs
  | some i =>
    have hi : i.size = sz := by simpa [hq] using hs
    simp only [Nat.min_def] at hn
    simp [Builtin.copy_, run_underlying hu, Builtin.lenOf, Builtin.firstCells, sizeOf, typeInfo, hq, hi, Nat.min_def, ← hn, hl, hst]
theorem wpList_copy_runI (w : World) {ops : Array Oper} {rest : List Oper} {o : Oper} {a : Act} {Q : Exit → Act → World → Prop} (hgd : o.guard = none) (d s : Operand) (t t' : TypeId)
    (ho : o.op = .call { callee := .builtin .copy, args := #[d, s], argTypes := #[t, t'] }) (v u : Value) (hd : a.eval d = v) (hs : a.eval s = u) {v' : Value} {w' : World}
    (hr : (Builtin.copy_ #[t, t'] o.type #[v, u]).run P w = .ok v' w') (h : wpList P ops Q rest (a.put o.dst v') w') : wpList P ops Q (o :: rest) a w :=
  wpList_plain hgd fun _ hK => by
    have hK := hK _ _ h
    unfold Oper.wp execOp
    simp only [ho, resolve, invoke, builtin, Sem.run_bind, Sem.run_pure, Result.andThen_ok, List.map_toArray, List.map_cons, List.map_nil, hd, hs, hr]
    exact hK
theorem step_copy_runI {ops : Array Oper} {o : Oper} {a : Act} {w : World} {K : Act → World → Prop} {Q : Exit → Act → World → Prop} {E : Prop}
    (hg : o.guard = none) (d x : Operand) (dT sT : TypeId) (hop : o.op = Op.call { callee := Callee.builtin Builtin.copy, args := #[d, x], argTypes := #[dT, sT] })
    (v u : Value) (hd : a.eval d = v) (hx : a.eval x = u) {v' : Value} {w' : World} (hr : (Builtin.copy_ #[dT, sT] o.type #[v, u]).run P w = .ok v' w') (hK : K (a.put o.dst v') w') :
    if Region.wanted o (yielded ops a.tmps) = true then Oper.wp P o a w K Q else E := by
  have hw : Region.wanted o (yielded ops a.tmps) = true := by simp [Region.wanted, hg]
  rw [if_pos hw]
  unfold Oper.wp
  simp [execOp, hop, resolve, invoke, builtin, hd, hx, hr, Result.andThen]
  exact hK
end
end Go.PL
namespace Go.Proofs.Ytmnibpgmcgdfpaa
open Go.PL Go.RowKit Go.Lib
theorem two_cells {w : World} {vb : Nat} {y1 y2 : Value} (hy1 : w.cell? ⟨vb, 0, none⟩ = some y1) (hy2 : w.cell? ⟨vb, 1, none⟩ = some y2) : ∀ j u, ([y1, y2] : List Value)[j]? = some u → w.cell? ((⟨vb, 0, none⟩ : Addr).add j) = some u := fun j u hj => by
  rw [add_none]
  match j, hj with
  | 0, hj => simp at hj; subst hj; exact hy1
  | 1, hj => simp at hj; subst hj; exact hy2
set_option maxHeartbeats 4000000 in
set_option maxRecDepth 100000 in
/-- at the end, no room -/
theorem Insert_end_grow (A : Option Addr) (n c : Nat) (xs : List Value) (w : World) (vb cu : Nat) (y1 y2 : Value) (hA : A = none → n = 0 ∧ c = 0) (hl : xs.length = n * 2) (hc : ∀ b, A = some b → ∀ j u, xs[j]? = some u → w.cell? (b.add j) = some u) (hnc : n ≤ c) (hroom : c < n + 1) (hn : n ≤ 1000000)
    (hy1 : w.cell? ⟨vb, 0, none⟩ = some y1) (hy2 : w.cell? ⟨vb, 1, none⟩ = some y2) (h1 : y1.oneCell' = true) (h2 : y2.oneCell' = true) :
    Calls Try.prog 68 #[.slice A n c, .int .i64 n, .slice (some ⟨vb, 0, none⟩) 1 cu] w fun en w' => ∃ v', en = .returned v' ∧ w'.ownsRow w.heap.size 53 2 v' (n + 1) (xs ++ [y1, y2]) ∧ w.grownBy w' none := by
  have hnews := two_cells hy1 hy2
  have h1' : ∀ u ∈ ([y1, y2] : List Value), u.oneCell' = true := by simp [h1, h2]
  have hcm : c ≤ 9223372036854775807 := by omega
  go_enter Try.func68, Try.ntmps68
  go_wp2_with (at_builtin; refine wpList_append_grows _ rfl _ _ 38 rfl 53 _ _ 2 40 Try.underlying38 rfl rfl rfl rfl rfl (by decide) A _ _ xs rfl hA hl hc ⟨vb, 0, none⟩ 1 cu [y1, y2] rfl rfl hnews h1' (by omega) (by rw [maxLen_eq]; omega) (by omega) ?_; intro v' w' g1 g2)
  all_goals (go_ret; exact ⟨v', rfl, g1, g2⟩)
set_option maxHeartbeats 4000000 in
set_option maxRecDepth 100000 in
/-- at the end, in place -/
theorem Insert_end_room (b n c : Nat) (cur : List Value) (w : World) (vb cu : Nat) (y1 y2 : Value) (hg : w.heap[b]? = some (.cells ⟨cur⟩ 53 (0, 0))) (hcs : cur.length = c * 2) (hroom : n + 1 ≤ c) (hcm : c ≤ maxLen)
    (hy1 : w.cell? ⟨vb, 0, none⟩ = some y1) (hy2 : w.cell? ⟨vb, 1, none⟩ = some y2) (h1 : y1.oneCell' = true) (h2 : y2.oneCell' = true) :
    Calls Try.prog 68 #[.slice (some ⟨b, 0, none⟩) n c, .int .i64 n, .slice (some ⟨vb, 0, none⟩) 1 cu] w fun en w' => en = .returned (.slice (some ⟨b, 0, none⟩) (n + 1) c) ∧ ∃ cur' : List Value, w'.heap[b]? = some (.cells ⟨cur'⟩ 53 (0, 0)) ∧ cur'.length = c * 2 ∧
      cur'.take ((n + 1) * 2) = cur.take (n * 2) ++ [y1, y2] ∧ w.grownBy w' (some b) := by
  have hnews := two_cells hy1 hy2
  have h1' : ∀ u ∈ ([y1, y2] : List Value), u.oneCell' = true := by simp [h1, h2]
  rw [maxLen_eq] at hcm
  have hnc : n ≤ c := by omega
  have hb4 : ¬ (c = n) := by omega
  obtain ⟨W, hW⟩ : ∃ W, W = w.setRow b (cur.take (n * 2) ++ [y1, y2] ++ cur.drop (n * 2 + 2)).toArray := ⟨_, rfl⟩
  have hr : ∀ ty, (Builtin.append_ #[38, 38] ty #[.slice (some ⟨b, 0, none⟩) n c, .slice (some ⟨vb, 0, none⟩) 1 cu]).run Try.prog w = .ok (.slice (some ⟨b, 0, none⟩) (n + 1) c) W := fun ty => by
    rw [hW]
    exact run_append_room (P := Try.prog) w 38 ty 53 _ Try.underlying38 rfl b n c ⟨cur⟩ hg ⟨vb, 0, none⟩ 1 cu [y1, y2] rfl hnews h1' hroom (by show n * 2 + 2 ≤ cur.length; omega)
  replace hW : KeepP (W = _) := ⟨hW⟩
  go_enter Try.func68, Try.ntmps68
  go_wp2_with (at_builtin; refine Lib.wpList_append_run _ rfl _ _ _ _ rfl _ _ rfl rfl _ _ (hr _) ?_)
  go_ret
  rw [hW.out]
  refine ⟨rfl, _, setRow_heap w b _ _ _ _ hg, ?_, ?_, ?_⟩
  · simp only [List.length_append, List.length_take, List.length_drop, List.length_cons, List.length_nil]
    omega
  · refine (List.take_left' ?_)
    simp only [List.length_append, List.length_take, List.length_cons, List.length_nil]
    omega
  · have h : ∀ l, BelowF (fun k => k ≠ b) w (w.setRow b l) := fun l => below_setRow (by simp)
    exact ⟨(h _).os, (h _).tape, (h _).output, (h _).size, fun k _ hk => (h _).block k fun e => hk (by rw [e])⟩
set_option maxHeartbeats 4000000 in
set_option maxRecDepth 100000 in
/-- further ahead, in place -/
theorem Insert_shift (b n c i : Nat) (cur : List Value) (w : World) (vb cu : Nat) (ys : List Value) (y1 y2 : Value) (hg : w.heap[b]? = some (.cells ⟨cur⟩ 53 (0, 0))) (hcs : cur.length = c * 2) (hi : i < n) (hroom : n + 1 ≤ c) (hcm : c ≤ maxLen) (hne : vb ≠ b)
    (hv : w.heap[vb]? = some (.cells ⟨ys⟩ 53 (0, 0))) (hy1 : ys[0]? = some y1) (hy2 : ys[1]? = some y2) (h1 : y1.oneCell' = true) (h2 : y2.oneCell' = true) (hx1 : ∀ x ∈ cur.take (n * 2), x.oneCell' = true) :
    Calls Try.prog 68 #[.slice (some ⟨b, 0, none⟩) n c, .int .i64 i, .slice (some ⟨vb, 0, none⟩) 1 cu] w fun en w' => en = .returned (.slice (some ⟨b, 0, none⟩) (n + 1) c) ∧ ∃ cur' : List Value, w'.heap[b]? = some (.cells ⟨cur'⟩ 53 (0, 0)) ∧ cur'.length = c * 2 ∧
      cur'.take ((n + 1) * 2) = (cur.take (n * 2)).take (i * 2) ++ [y1, y2] ++ (cur.take (n * 2)).drop (i * 2) ∧ w.grownBy w' (some b) := by
  have hz2 : ¬ ((i : Int) = (n : Int)) := by omega
  have mixed : Try.prog.follows .mixedOrders = true := by kernel_rfl
  rw [maxLen_eq] at hcm
  have hw1 : IntKind.i64.wrap ((i : Int) + 1) = (i : Int) + 1 := by rw [IntKind.wrap_i64]; omega
  have hw2 : IntKind.i64.wrap ((n : Int) + 1) = (n : Int) + 1 := by rw [IntKind.wrap_i64]; omega
  have htn : ((i : Int) + 1).toNat = i + 1 := by omega
  have htm : ((n : Int) + 1).toNat = n + 1 := by omega
  have hb1 : (0 : Int) ≤ (i : Int) + 1 := by omega
  have hb0 : (0 : Int) ≤ (n : Int) + 1 := by omega
  have hb2 : ¬ (c = i + 1) := by omega
  have hb3 : (i : Int) ≤ (n : Int) + 1 := by omega
  have hb4 : ¬ (c = i) := by omega
  have hb5 : ¬ ((c : Int) < (n : Int) + 1) := by omega
  have hin : i ≤ n := by omega
  have hsz : (Try.prog.info? 53).map (·.size) = some 2 := rfl
  have hsh : ∀ {k : Nat} {l : List Value}, w.heap[k]? = some (.cells ⟨l⟩ 53 (0, 0)) → w.shape? k = some (53, l.length) ∧ ∀ o, w.frozen? ⟨k, o, none⟩ = false := fun h => ⟨by simp [World.shape?, h], fun o => by simp [World.frozen?, h]⟩
  have hov : ∀ lb cb, (callFunc 100 #[.slice (some ⟨vb, 0, none⟩) 1 cu, .slice (some ⟨b, (i + 1) * 2, none⟩) lb cb]).run Try.prog w = .ok (.value (.bool false)) w := fun lb cb => by
    rw [run_callFunc_extern Try.func100 (by kernel_rfl) (by kernel_rfl) (by kernel_rfl) (e := Extern.SlicesOverlaps.overlaps #[38, 38] #[4]) (by kernel_rfl),
      Lib.run_overlaps_apart w 38 4 53 Try.underlying38 2 Try.sizeOf53 ⟨vb, 0, none⟩ ⟨b, (i + 1) * 2, none⟩ 1 cu lb cb hne _ _ _ _ (hsh hv).1 (hsh hg).1 (by omega) ((hsh hv).2 _) ((hsh hv).2 _)]
    rfl
  have hmin : Nat.min (n + 1 - i) (n - i) = n - i := by simp only [Nat.min_def]; split <;> omega
  have hdl : ((cur.take (n * 2)).drop (i * 2)).length = (n - i) * 2 := by rw [List.length_drop, List.length_take]; omega
  have hcp1 : ∀ ty dc sc, (Builtin.copy_ #[38, 38] ty #[.slice (some ⟨b, (i + 1) * 2, none⟩) (n - i) dc, .slice (some ⟨b, i * 2, none⟩) (n + 1 - i) sc]).run Try.prog w.drew = .ok (goInt ((n - i : Nat) : Int)) (w.drew.setRow b (cur.take ((i + 1) * 2) ++ (cur.take (n * 2)).drop (i * 2) ++ cur.drop ((i + 1) * 2 + ((cur.take (n * 2)).drop (i * 2)).length)).toArray) := fun ty dc sc => by
    have h0 := run_copy_rowN (P := Try.prog) w.drew 38 38 ty 53 2 b ((i + 1) * 2) (n - i) dc ⟨b, i * 2, none⟩ (n + 1 - i) sc ⟨cur⟩ _ ((cur.take (n * 2)).drop (i * 2)) Try.underlying38 hsz hg (by rw [hmin, hdl])
      (fun j v hj => by
        rw [add_none]
        rw [List.getElem?_drop] at hj
        have := List.getElem?_eq_some_iff.1 hj
        rw [List.getElem?_take] at hj
        split at hj
        · show w.cell? _ = _
          rw [cell_of hg]; exact hj
        · cases hj) (by rw [hdl]; show _ ≤ cur.length; omega) (fun v hv => hx1 v (List.mem_of_mem_drop hv))
    rw [hmin] at h0
    exact h0
  obtain ⟨cur1, hcur1⟩ : ∃ cur1, cur1 = cur.take ((i + 1) * 2) ++ (cur.take (n * 2)).drop (i * 2) ++ cur.drop ((i + 1) * 2 + ((cur.take (n * 2)).drop (i * 2)).length) := ⟨_, rfl⟩
  rw [← hcur1] at hcp1
  have hl1 : cur1.length = c * 2 := by
    rw [hcur1, hdl]
    simp only [List.length_append, List.length_take, List.length_drop]
    omega
  obtain ⟨W1, hW1⟩ : ∃ W1, W1 = w.drew.setRow b cur1.toArray := ⟨_, rfl⟩
  rw [← hW1] at hcp1
  have hg1 : W1.heap[b]? = some (.cells ⟨cur1⟩ 53 (0, 0)) := by rw [hW1]; exact setRow_heap w.drew b _ _ _ _ hg
  have hv1 : W1.heap[vb]? = some (.cells ⟨ys⟩ 53 (0, 0)) := by rw [hW1]; exact (setRow_other w.drew b vb _ hne).trans hv
  have hcp2 : ∀ ty dc, (Builtin.copy_ #[38, 38] ty #[.slice (some ⟨b, i * 2, none⟩) (n + 1 - i) dc, .slice (some ⟨vb, 0, none⟩) 1 cu]).run Try.prog W1 = .ok (goInt 1) (W1.setRow b (cur1.take (i * 2) ++ [y1, y2] ++ cur1.drop (i * 2 + 2)).toArray) := fun ty dc => by
    have hm : Nat.min 1 (n + 1 - i) = 1 := by simp only [Nat.min_def]; split <;> omega
    have := run_copy_rowN (P := Try.prog) W1 38 38 ty 53 2 b (i * 2) (n + 1 - i) dc ⟨vb, 0, none⟩ 1 cu ⟨cur1⟩ _ [y1, y2] Try.underlying38 hsz hg1 (by rw [hm]; rfl)
      (fun j v hj => by
        rw [add_none, cell_of hv1]
        match j, hj with
        | 0, hj => simp at hj; subst hj; exact hy1
        | 1, hj => simp at hj; subst hj; exact hy2) (by show i * 2 + 2 ≤ cur1.length; omega) (by simp [h1, h2])
    rw [hm] at this
    exact this
  go_enter Try.func68, Try.ntmps68
  replace hcur1 : KeepP (cur1 = _) := ⟨hcur1⟩
  replace hW1 : KeepP (W1 = _) := ⟨hW1⟩
  replace hg1 : KeepP (W1.heap[b]? = _) := ⟨hg1⟩
  go_wp2_with (simp only [hov])
  go_region_law_o (refine step_copy_runI rfl _ _ 38 38 rfl _ _ (by simp [Act.eval, Act.put]) (by simp [Act.eval, Act.put]) (hcp1 _ _ _) ?_)
  go_wp2_with (at_builtin; refine wpList_copy_runI _ rfl _ _ 38 38 rfl _ _ rfl rfl (hcp2 _ _) ?_)
  go_ret
  refine ⟨rfl, _, setRow_heap W1 b _ _ _ _ hg1.out, ?_, ?_, ?_⟩
  · simp only [List.length_append, List.length_take, List.length_drop, List.length_cons, List.length_nil]
    omega
  · have e0 : (cur.take ((i + 1) * 2)).length = i * 2 + 2 := by rw [List.length_take]; omega
    have e1 : cur1.take (i * 2) = (cur.take (n * 2)).take (i * 2) := by
      rw [hcur1.out, List.append_assoc, List.take_append_of_le_length (by omega), List.take_take, List.take_take]
      congr 1
      rw [Nat.min_def, Nat.min_def]
      split <;> split <;> omega
    have e2 : cur1.drop (i * 2 + 2) = (cur.take (n * 2)).drop (i * 2) ++ cur.drop ((i + 1) * 2 + ((cur.take (n * 2)).drop (i * 2)).length) := by
      rw [hcur1.out, List.append_assoc, List.drop_left' e0]
    have e3 : ∀ A B C : List Value, A ++ y1 :: y2 :: (B ++ C) = (A ++ [y1, y2] ++ B) ++ C := by simp
    rw [e1, e2]
    simp only [List.append_assoc, List.cons_append, List.nil_append]
    rw [e3]
    refine (List.take_left' ?_).trans (by simp)
    simp only [List.length_append, List.length_take, List.length_cons, List.length_nil, List.length_drop]
    omega
  · rw [hW1.out]
    have h : ∀ l1 l2, BelowF (fun k => k ≠ b) w ((w.drew.setRow b l1).setRow b l2) := fun l1 l2 => ((BelowF.refl _ w).drew.trans (below_setRow (by simp))).trans (below_setRow (by simp))
    exact ⟨(h _ _).os, (h _ _).tape, (h _ _).output, (h _ _).size, fun k _ hk => (h _ _).block k fun e => hk (by rw [e])⟩
set_option maxHeartbeats 4000000 in
set_option maxRecDepth 100000 in
/-- further ahead, no room: a new row -/
theorem Insert_grow (b n c i : Nat) (cur : List Value) (w : World) (vb cu : Nat) (ys : List Value) (y1 y2 : Value) (hg : w.heap[b]? = some (.cells ⟨cur⟩ 53 (0, 0))) (hcs : cur.length = c * 2) (hi : i < n) (hnc : n ≤ c) (hroom : c < n + 1) (hn : n ≤ 1000000)
    (hv : w.heap[vb]? = some (.cells ⟨ys⟩ 53 (0, 0))) (hy1 : ys[0]? = some y1) (hy2 : ys[1]? = some y2) (h1 : y1.oneCell' = true) (h2 : y2.oneCell' = true) (hx1 : ∀ x ∈ cur.take (n * 2), x.oneCell' = true) :
    Calls Try.prog 68 #[.slice (some ⟨b, 0, none⟩) n c, .int .i64 i, .slice (some ⟨vb, 0, none⟩) 1 cu] w fun en w' => ∃ G, en = .returned (.slice (some ⟨w.heap.size, 0, none⟩) (n + 1) G) ∧ n + 1 ≤ G ∧ G ≤ maxLen ∧ ∃ cur' : List Value, w'.heap[w.heap.size]? = some (.cells ⟨cur'⟩ 53 (0, 0)) ∧ cur'.length = G * 2 ∧
      cur'.take ((n + 1) * 2) = (cur.take (n * 2)).take (i * 2) ++ [y1, y2] ++ (cur.take (n * 2)).drop (i * 2) ∧ w.grownBy w' none := by
  have hz2 : ¬ ((i : Int) = (n : Int)) := by omega
  have mixed : Try.prog.follows .mixedOrders = true := by kernel_rfl
  have hbw : b < w.heap.size := (Array.getElem?_eq_some_iff.1 hg).1
  have hvw : vb < w.heap.size := (Array.getElem?_eq_some_iff.1 hv).1
  have hw1 : IntKind.i64.wrap ((i : Int) + 1) = (i : Int) + 1 := by rw [IntKind.wrap_i64]; omega
  have hw2 : IntKind.i64.wrap ((n : Int) + 1) = (n : Int) + 1 := by rw [IntKind.wrap_i64]; omega
  have hw3 : IntKind.i64.wrap ((n : Int) + 1 - (i : Int)) = (n : Int) + 1 - (i : Int) := by rw [IntKind.wrap_i64]; omega
  have htn : ((i : Int) + 1).toNat = i + 1 := by omega
  have hb1 : (0 : Int) ≤ (i : Int) + 1 := by omega
  have hb3 : (i : Int) ≤ (n : Int) := by omega
  have hb4 : ¬ (c = i) := by omega
  have hb5 : (c : Int) < (n : Int) + 1 := by omega
  have hin : i ≤ n := by omega
  have hic : i ≤ c := by omega
  have hsz : (Try.prog.info? 53).map (·.size) = some 2 := rfl
  have hkk : (n : Int) + 1 - (i : Int) = ((n + 1 - i : Nat) : Int) := by omega
  have hik : i + (n + 1 - i) = n + 1 := by omega
  have hXl : (cur.take (n * 2)).length = n * 2 := by rw [List.length_take]; omega
  have hdl : ((cur.take (n * 2)).drop (i * 2)).length = (n - i) * 2 := by rw [List.length_drop, hXl]; omega
  have htl : ((cur.take (n * 2)).take (i * 2)).length = i * 2 := by rw [List.length_take, hXl]; omega
  have hold : (Builtin.firstCells 2 i (.slice (some ⟨b, 0, none⟩) i c)).run Try.prog w.drew = .ok ((cur.take (n * 2)).take (i * 2)).toArray w.drew :=
    run_firstCells_some w.drew 2 i ⟨b, 0, none⟩ i c ((cur.take (n * 2)).take (i * 2)) htl (fun j v hj => by
      rw [add_none, Nat.zero_add]
      rw [List.getElem?_take] at hj
      split at hj
      · rw [List.getElem?_take] at hj
        split at hj
        · show w.cell? _ = _
          rw [cell_of hg]; exact hj
        · cases hj
      · cases hj)
  have hrz : ∀ ty, (Builtin.append_ #[38, 3] ty #[.slice (some ⟨b, 0, none⟩) i c, .int .i64 ((n : Int) + 1 - (i : Int))]).run Try.prog w =
      .ok (.slice (some ⟨w.heap.size, 0, none⟩) (n + 1) (grownCap w (n + 1) c 53)) (w.drew.alloc (.cells (((cur.take (n * 2)).take (i * 2)).toArray ++ Builtin.zeroCells (Value.agg #[.string ⟨#[]⟩, .slice none 0 0]).cells (n + 1 - i) ++ Builtin.zeroCells (Value.agg #[.string ⟨#[]⟩, .slice none 0 0]).cells (grownCap w (n + 1) c 53 - (n + 1))) 53)) := fun ty => by
    have h := Lib.run_append_grow_zeros (P := Try.prog) w 38 3 ty 53 _ _ .i64 .i64 Try.underlying38 Try.underlying3 rfl rfl (some ⟨b, 0, none⟩) i c ((cur.take (n * 2)).take (i * 2)) hold (n + 1 - i) (by omega) (by decide) (by omega) (by omega) (by show (n + 1 - i) * 40 ≤ _; omega) (by rw [hik]; exact growslice_fits hroom (by show (n + 1) * 40 ≤ _; omega))
    rw [hik] at h
    rw [hkk]
    exact h
  obtain ⟨G, hG⟩ : ∃ G, G = grownCap w (n + 1) c 53 := ⟨_, rfl⟩
  have hGn : n + 1 ≤ G := by rw [hG]; exact grownCap_ge w _ _ _
  have hGm : G ≤ maxLen := by rw [hG]; exact grownCap_le_maxLen w (n + 1) c _ (by rw [maxLen_eq]; omega)
  rw [← hG] at hrz
  obtain ⟨ROW, hROW⟩ : ∃ ROW : List Value, ROW = (cur.take (n * 2)).take (i * 2) ++ (Builtin.zeroCells (Value.agg #[.string ⟨#[]⟩, .slice none 0 0]).cells (n + 1 - i)).toList ++ (Builtin.zeroCells (Value.agg #[.string ⟨#[]⟩, .slice none 0 0]).cells (G - (n + 1))).toList := ⟨_, rfl⟩
  have hROW2 : ((cur.take (n * 2)).take (i * 2)).toArray ++ Builtin.zeroCells (Value.agg #[.string ⟨#[]⟩, .slice none 0 0]).cells (n + 1 - i) ++ Builtin.zeroCells (Value.agg #[.string ⟨#[]⟩, .slice none 0 0]).cells (G - (n + 1)) = ⟨ROW⟩ := by
    rw [hROW]
    apply Array.toList_inj.1
    simp
  rw [hROW2] at hrz
  have hRl : ROW.length = G * 2 := by
    have z2 : (Value.agg #[.string ⟨#[]⟩, .slice none 0 0]).cells.size = 2 := rfl
    rw [hROW]
    simp only [List.length_append, htl, Array.length_toList, size_zeroCells, z2]
    omega
  have hRt : ROW.take (i * 2) = (cur.take (n * 2)).take (i * 2) := by rw [hROW, List.append_assoc]; exact List.take_left' htl
  have hbN : b ≠ w.heap.size := by omega
  have hvN : vb ≠ w.heap.size := by omega
  have hN0 : (w.drew.alloc (.cells ⟨ROW⟩ 53)).heap[w.heap.size]? = some (.cells ⟨ROW⟩ 53 (0, 0)) := heap_alloc_new w.drew _
  have hO0 : ∀ k, k < w.heap.size → (w.drew.alloc (.cells ⟨ROW⟩ 53)).heap[k]? = w.heap[k]? := fun k hk => heap_alloc_old w.drew (.cells ⟨ROW⟩ 53) hk
  obtain ⟨R1, hR1⟩ : ∃ R1, R1 = ROW.take (i * 2) ++ [y1, y2] ++ ROW.drop (i * 2 + 2) := ⟨_, rfl⟩
  have hl1 : R1.length = G * 2 := by
    rw [hR1]
    simp only [List.length_append, List.length_take, List.length_drop, List.length_cons, List.length_nil]
    omega
  have hcpA : ∀ W, W = w.drew.alloc (.cells ⟨ROW⟩ 53) → ∀ ty dc, (Builtin.copy_ #[38, 38] ty #[.slice (some ⟨w.heap.size, i * 2, none⟩) (n + 1 - i) dc, .slice (some ⟨vb, 0, none⟩) 1 cu]).run Try.prog W = .ok (goInt 1) (W.setRow w.heap.size ⟨R1⟩) := fun W hW ty dc => by
    subst hW
    have hm : Nat.min 1 (n + 1 - i) = 1 := by simp only [Nat.min_def]; split <;> omega
    have := run_copy_rowN (P := Try.prog) _ 38 38 ty 53 2 w.heap.size (i * 2) (n + 1 - i) dc ⟨vb, 0, none⟩ 1 cu ⟨ROW⟩ _ [y1, y2] Try.underlying38 hsz hN0 (by rw [hm]; rfl)
      (fun j v hj => by
        rw [add_none, cell_of ((hO0 vb hvw).trans hv)]
        match j, hj with
        | 0, hj => simp at hj; subst hj; exact hy1
        | 1, hj => simp at hj; subst hj; exact hy2) (by show i * 2 + 2 ≤ ROW.length; omega) (by simp [h1, h2])
    rw [hm] at this
    rw [hR1]
    exact this
  have hcpB : ∀ W, W = ((w.drew.alloc (.cells ⟨ROW⟩ 53)).setRow w.heap.size ⟨R1⟩).drew → ∀ ty dc sc, (Builtin.copy_ #[38, 38] ty #[.slice (some ⟨w.heap.size, (i + 1) * 2, none⟩) (n - i) dc, .slice (some ⟨b, i * 2, none⟩) (n - i) sc]).run Try.prog W = .ok (goInt ((n - i : Nat) : Int)) (W.setRow w.heap.size (R1.take ((i + 1) * 2) ++ (cur.take (n * 2)).drop (i * 2) ++ R1.drop ((i + 1) * 2 + ((cur.take (n * 2)).drop (i * 2)).length)).toArray) := fun W hW ty dc sc => by
    have hN1 : W.heap[w.heap.size]? = some (.cells ⟨R1⟩ 53 (0, 0)) := by rw [hW]; exact setRow_heap _ _ _ _ _ _ hN0
    have hB1 : W.heap[b]? = some (.cells ⟨cur⟩ 53 (0, 0)) := by
      rw [hW]
      exact (setRow_other _ w.heap.size b _ hbN).trans ((hO0 b hbw).trans hg)
    have hm : Nat.min (n - i) (n - i) = n - i := Nat.min_self _
    have := run_copy_rowN (P := Try.prog) W 38 38 ty 53 2 w.heap.size ((i + 1) * 2) (n - i) dc ⟨b, i * 2, none⟩ (n - i) sc ⟨R1⟩ _ ((cur.take (n * 2)).drop (i * 2)) Try.underlying38 hsz hN1 (by rw [hm, hdl])
      (fun j v hj => by
        rw [add_none, cell_of hB1]
        rw [List.getElem?_drop] at hj
        rw [List.getElem?_take] at hj
        split at hj
        · exact hj
        · cases hj) (by rw [hdl]; show _ ≤ R1.length; omega) (fun v hv => hx1 v (List.mem_of_mem_drop hv))
    rw [hm] at this
    exact this
  have hGi : ¬ (G = i) := by omega
  have hGim : ¬ (G = i + 1) := by omega
  have hG63 : G ≤ 9223372036854775807 := by rw [maxLen_eq] at hGm; exact hGm
  replace hROW : KeepP (ROW = _) := ⟨hROW⟩
  replace hR1 : KeepP (R1 = _) := ⟨hR1⟩
  replace hN0 := KeepP.mk hN0
  replace hO0 := KeepP.mk hO0
  replace hRt := KeepP.mk hRt
  replace hG : KeepP (G = _) := ⟨hG⟩
  clear hROW2 hold hkk hik
  go_enter Try.func68, Try.ntmps68
  go_wp2_with (at_builtin; refine Lib.wpList_append_run _ rfl _ _ _ _ rfl _ _ rfl rfl _ _ (hrz _) ?_)
  rw [hcpA _ (by rfl)]
  go_wp2
  go_region_law_o (refine step_copy_runI rfl _ _ 38 38 rfl (.slice (some ⟨w.heap.size, (i + 1) * 2, none⟩) (n - i) (G - (i + 1))) (.slice (some ⟨b, i * 2, none⟩) (n - i) (c - i)) (by simp [Act.eval, Act.put]) (by simp [Act.eval, Act.put]) (hcpB _ (by rfl) 3 (G - (i + 1)) (c - i)) ?_)
  go_wp2
  go_ret
  refine ⟨G, rfl, hGn, hGm, _, setRow_heap _ _ _ _ _ _ (setRow_heap _ _ _ _ _ _ hN0.out), ?_, ?_, ?_⟩
  · simp only [List.length_append, List.length_take, List.length_drop]
    omega
  · have e1 : R1.take ((i + 1) * 2) = (cur.take (n * 2)).take (i * 2) ++ [y1, y2] := by
      rw [hR1.out, hRt.out]
      refine List.take_left' ?_
      simp only [List.length_append, htl, List.length_cons, List.length_nil]
      omega
    have e3 : ∀ A B C : List Value, A ++ y1 :: y2 :: (B ++ C) = (A ++ [y1, y2] ++ B) ++ C := by simp
    rw [e1]
    simp only [List.append_assoc, List.cons_append, List.nil_append]
    rw [e3]
    refine (List.take_left' ?_).trans (by simp)
    simp only [List.length_append, htl, hdl, List.length_cons, List.length_nil]
    omega
  · have h : ∀ l1 l2, BelowF (fun k => k < w.heap.size) w (((w.alloc (.cells ⟨ROW⟩ 53)).drew.setRow w.heap.size l1).drew.setRow w.heap.size l2) := fun l1 l2 =>
      (((((BelowF.refl (fun k => k < w.heap.size) w).alloc (fun _ h => h) _).drew).trans (below_setRow (Nat.lt_irrefl _))).drew).trans (below_setRow (Nat.lt_irrefl _))
    exact ⟨(h _ _).os, (h _ _).tape, (h _ _).output, (h _ _).size, fun k hk _ => (h _ _).block k hk⟩
end Go.Proofs.Ytmnibpgmcgdfpaa

set_option linter.unusedSimpArgs false
set_option linter.unusedVariables false
set_option linter.unusedSimpArgs false
set_option linter.unusedVariables false
namespace Go.PL
open Go.RowKit
/-- a row behind a call: grown where it lies, or anew -/
def GrownTo (w w' : World) (v v' : Value) : Prop := (w.grownBy w' none ∧ ∀ k, v'.ownBlock = some k → w.heap.size ≤ k) ∨ (∃ k, v.ownBlock = some k ∧ v'.ownBlock = some k ∧ w.grownBy w' (some k))
theorem owns_cells {w : World} {base n sz : Nat} {e : TypeId} {v : Value} {xs : List Value} (h : w.ownsRow base e sz v n xs) {k : Nat} (hk : v.ownBlock = some k) : ∃ c cur, v = .slice (some ⟨k, 0, none⟩) n c ∧ w.heap[k]? = some (.cells ⟨cur⟩ e (0, 0)) ∧ n ≤ c ∧ c ≤ maxLen ∧ cur.length = c * sz ∧ cur.take (n * sz) = xs := by
  rcases h.2 with ⟨rfl, rfl⟩ | ⟨g, c, cur, rfl, _, h3, h4, h5, h6, h7⟩
  · cases hk
  · cases hk
    exact ⟨c, cur.toList, rfl, h3, h4, h5, h6, h7⟩
/-- what a function does to a vec, told by what it does to the row -/
theorem Eff.rows {P : Program} {f : FuncId} {args : List PV} {m0 : MemL} {R : List (Nat × Row)} {d n' sz : Nat} {e : TypeId} {es' : List PV} (hcal : Callable P f) (ok0 : m0.Ok) (ok1 : (⟨[], (d, .vec n' sz e) :: R, [(d, es')]⟩ : MemL).Ok) (hH : m0.H = []) (hR : ∀ x ∈ R, x.2 = .dead) (hR0 : ∀ x ∈ m0.R, ∃ y ∈ R, y.1 = x.1)
    (ha : ∀ p ∈ args, ∀ i ∈ p.ids, m0.has i) (hn : es'.length = n') (hc : ∀ p ∈ es', p.ids = []) (hcell : ∀ p ∈ es', p.cells.length = sz ∧ p.cells.all PV.atom = true)
    (hrun : ∀ (B : Frm) (S : Stable) (M : Maps) (w : World) (vs : List Value), Sim B S M (stNo m0.hp) actNo w → vs.length = args.length → (∀ i, i < args.length → RepS S M m0.hp.q (vs.getD i undef) (args.getD i .any)) →
      Calls P f ⟨vs⟩ w fun en w' => ∃ v v' xs', en = .returned v' ∧ w'.ownsRow 0 e sz v' n' xs' ∧ GrownTo w w' v v' ∧ (∀ k, v.ownBlock = some k → ¬ B k ∧ (∀ o, S k o = none) ∧ ∃ c, w.heap[k]? = some (.cells c e (0, 0))) ∧
        ∀ i j, i < n' → j < sz → Rep S (xs'.getD (i * sz + j) undef) ((es'.getD i .any).cells.getD j .any)) :
    Eff P f args m0 (.vsl d n' sz) ⟨[], (d, .vec n' sz e) :: R, [(d, es')]⟩ := by
  refine ⟨hcal, ok0, ok1, ha, fun i hi => ?_, fun i hi => ?_, fun B S M w vs hs hlen hrep => (hrun B S M w vs hs hlen hrep).mono fun en w' ⟨v, v', xs', e1, hown, hgr, hv, hx⟩ => ?_⟩
  · simp only [PV.ids, List.mem_singleton] at hi
    subst hi
    exact ⟨(d, .vec n' sz e), by simp, rfl⟩
  · cases i with
    | b i => obtain ⟨y, hy, _⟩ := hi; rw [hH] at hy; cases hy
    | r i =>
      obtain ⟨x, hx, rfl⟩ := hi
      obtain ⟨y, hy, e⟩ := hR0 x hx
      exact ⟨y, List.mem_cons_of_mem _ hy, e⟩
  · have hB : ∀ k, B k → k < w.heap.size := hs.hB
    obtain ⟨row, hg, hrow, hk'⟩ : ∃ row, w.grownBy w' row ∧ (∀ k, row = some k → ¬ B k ∧ (∀ o, S k o = none) ∧ (∃ vs e, w'.heap[k]? = some (.cells vs e (0, 0))) ∧ ∃ c, w.heap[k]? = some (.cells c e (0, 0))) ∧ (∀ k, v'.ownBlock = some k → ¬ B k ∧ ∀ o, S k o = none) := by
      rcases hgr with ⟨hg, hnew⟩ | ⟨k, h1, h2, hg⟩
      · refine ⟨none, hg, fun k h => (by cases h), fun k hk => ⟨fun h => ?_, fun o => ?_⟩⟩
        · have := hnew k hk; have := hB k h; omega
        · cases h : S k o with
          | none => rfl
          | some u => have := cell_lt (hs.stable.s.c k o u h); have := hnew k hk; omega
      · obtain ⟨b1, b2, c, b3⟩ := hv k h1
        obtain ⟨c', cur', _, h5, _⟩ := owns_cells hown h2
        refine ⟨some k, hg, fun k' h => ?_, fun k' h => ?_⟩
        · cases h; exact ⟨b1, b2, ⟨_, _, h5⟩, c, b3⟩
        · rw [h2] at h; cases h; exact ⟨b1, b2⟩
    have hst : StabS S w' := hs.stable.s.grown hg fun k h => by
      obtain ⟨_, a2, ⟨vs, e', a3⟩, c, a4⟩ := hrow k h
      exact ⟨a2, vs, e', a3, c, e, a4⟩
    obtain ⟨M', hs', hr'⟩ := sim_one R ok1 hR (fun k hk => Nat.lt_of_lt_of_le (hB k hk) hg.size) hst (fun b hb => hs.hz b hb) hown hk' hn hc hcell hx
    refine ⟨v', S, M', e1, hr', hs', ⟨SLe.refl S, fun b _ => ⟨fun _ => rfl, rfl⟩, BelowF.of_grown hg hB fun k h => (hrow k h).1⟩, fun x hx => (by rw [hH] at hx; cases hx), fun x hx => ?_⟩
    obtain ⟨y, hy, ey⟩ := hR0 x hx
    have hq : (⟨[], (d, .vec n' sz e) :: R, [(d, es')]⟩ : MemL).hp.q x.1 = some .dead := by
      rw [← ey, ok1.q_at (x := y) (List.mem_cons_of_mem _ hy), hR y hy]
    rw [hq]
    exact RowLe.dead
end Go.PL
namespace Go.PL
theorem ins_getD {α : Type} {d : α} {l : List α} {i k : Nat} {x : α} (hi : i ≤ l.length) : (l.take i ++ x :: l.drop i).getD k d = if k < i then l.getD k d else if k = i then x else l.getD (k - 1) d := by
  have hl : (l.take i).length = i := by rw [List.length_take]; omega
  by_cases h1 : k < i
  · rw [if_pos h1, getD_append_left (by omega), List.getD_eq_getElem?_getD, List.getD_eq_getElem?_getD, List.getElem?_take_of_lt h1]
  · rw [if_neg h1, getD_append_right (by omega), hl]
    by_cases h2 : k = i
    · subst h2; rw [if_pos rfl, Nat.sub_self]; rfl
    · rw [if_neg h2, show k - i = (k - 1 - i) + 1 by omega, List.getD_cons_succ, List.getD_eq_getElem?_getD, List.getElem?_drop, List.getD_eq_getElem?_getD]
      congr 2
      omega
theorem ins2_getD {α : Type} {d : α} {l : List α} {i k j : Nat} {y1 y2 : α} (hi : i * 2 ≤ l.length) (hj : j < 2) : (l.take (i * 2) ++ [y1, y2] ++ l.drop (i * 2)).getD (k * 2 + j) d = if k < i then l.getD (k * 2 + j) d else if k = i then [y1, y2].getD j d else l.getD ((k - 1) * 2 + j) d := by
  have hl : (l.take (i * 2)).length = i * 2 := by rw [List.length_take]; omega
  rw [List.append_assoc]
  by_cases h1 : k < i
  · rw [if_pos h1, getD_append_left (by omega), List.getD_eq_getElem?_getD, List.getD_eq_getElem?_getD, List.getElem?_take_of_lt (by omega)]
  · rw [if_neg h1, getD_append_right (by omega), hl]
    by_cases h2 : k = i
    · subst h2
      rw [if_pos rfl, getD_append_left (by simp; omega)]
      congr 1
      omega
    · rw [if_neg h2, getD_append_right (by simp; omega), List.getD_eq_getElem?_getD, List.getElem?_drop, List.getD_eq_getElem?_getD]
      congr 2
      simp only [List.length_cons, List.length_nil]
      omega
end Go.PL
namespace Go.Proofs.Ytmnibpgmcgdfpaa
open Go.PL Go.RowKit
abbrev insM0 (n : Nat) (es : List PV) : MemL := ⟨[], [(1000, .vec n 2 53), (1001, .live 1 2 53)], [(1000, es)]⟩
abbrev insM1 (n : Nat) (es : List PV) : MemL := ⟨[], (1002, .vec n 2 53) :: [(1000, .dead), (1001, .dead)], [(1002, es)]⟩
theorem insM0_ok {n : Nat} {es : List PV} (hc : ∀ p ∈ es, p.ids = []) : (insM0 n es).Ok :=
  ⟨by simp, by simp, by simp, by simp, by simp, fun y hy c hc' i hi => by
    simp only [List.mem_singleton] at hy
    subst hy
    rw [hc c hc'] at hi; cases hi⟩
theorem insM1_ok {n : Nat} {es : List PV} (hc : ∀ p ∈ es, p.ids = []) : (insM1 n es).Ok :=
  ⟨by simp, by simp, by simp, by simp, by simp, fun y hy c hc' i hi => by
    simp only [List.mem_singleton] at hy
    subst hy
    rw [hc c hc'] at hi; cases hi⟩
set_option maxHeartbeats 1000000 in
theorem Insert_eff (es : List PV) (x : PV) (n i : Nat) (hn : es.length = n) (hi : i ≤ n) (hn' : n ≤ 1000000) (hc : ∀ p ∈ es, p.ids = []) (hx : x.ids = []) (hcell : ∀ p ∈ es, p.cells.length = 2 ∧ p.cells.all PV.atom = true) (hxc : x.cells.length = 2 ∧ x.cells.all PV.atom = true) :
    Eff Try.prog 68 [.vsl 1000 n 2, .int .i64 i, .sl (.row 1001) [x]] (insM0 n es) (.vsl 1002 (n + 1) 2) (insM1 (n + 1) (es.take i ++ x :: es.drop i)) := by
  subst hn
  have hmem : ∀ p ∈ es.take i ++ x :: es.drop i, p ∈ es ∨ p = x := fun p hp => by
    rcases List.mem_append.1 hp with hp | hp
    · exact .inl (List.mem_of_mem_take hp)
    · rcases List.mem_cons.1 hp with rfl | hp
      · exact .inr rfl
      · exact .inl (List.mem_of_mem_drop hp)
  have hc' : ∀ p ∈ es.take i ++ x :: es.drop i, p.ids = [] := fun p hp => by
    rcases hmem p hp with h | rfl
    · exact hc p h
    · exact hx
  refine Eff.rows ⟨_, Try.func68, by decide, rfl⟩ (insM0_ok hc) (insM1_ok hc') rfl (by simp) (by simp) (fun p hp j hj => ?_) (by simp; omega) hc' (fun p hp => ?_) fun B S M w vs hs hlen hrep => ?_
  · simp only [List.mem_cons, List.not_mem_nil, or_false] at hp
    rcases hp with rfl | rfl | rfl
    · simp only [PV.ids, List.mem_singleton] at hj; subst hj; exact ⟨_, List.mem_cons_self .., rfl⟩
    · simp [PV.ids] at hj
    · simp only [PV.ids, List.mem_singleton] at hj; subst hj; exact ⟨_, List.mem_cons_of_mem _ (List.mem_singleton.2 rfl), rfl⟩
  · rcases hmem p hp with h | rfl
    · exact hcell p h
    · exact hxc
  · have ok0 := insM0_ok (n := es.length) hc
    obtain ⟨v0, v1, v2, rfl⟩ : ∃ v0 v1 v2, vs = [v0, v1, v2] := by
      match vs, hlen with
      | [a, b, c], _ => exact ⟨a, b, c, rfl⟩
    have h0 : RepS S M (insM0 es.length es).hp.q v0 (.vsl 1000 es.length 2) := hrep 0 (by simp)
    have h1 : RepS S M (insM0 es.length es).hp.q v1 (.int .i64 i) := hrep 1 (by simp)
    have h2 : RepS S M (insM0 es.length es).hp.q v2 (.sl (.row 1001) [x]) := hrep 2 (by simp)
    have q0 : (insM0 es.length es).hp.q 1000 = some (.vec es.length 2 53) := ok0.q_at (x := (1000, .vec es.length 2 53)) (by simp)
    have q2 : (insM0 es.length es).hp.q 1001 = some (.live 1 2 53) := ok0.q_at (x := (1001, .live 1 2 53)) (by simp)
    have e0 : (insM0 es.length es).hp.v 1000 = some es := ok0.v_at (x := (1000, es)) (by simp)
    obtain rfl := h1.int_inv
    obtain ⟨xs, o0, _, _, r0, k0⟩ := hs.vec_owns q0 e0 h0 hc
    have hrow := hs.row 1001 _ q2
    obtain ⟨_, t2⟩ := h2.row_tok 1 2 _ q2
    obtain ⟨t3, t4⟩ := t2 rfl
    obtain ⟨cu, hκ⟩ : ∃ cu, M.κ 1001 = cu + 1 := by
      cases hκ : M.κ 1001 with
      | zero => have := hrow.1 hκ; omega
      | succ c => exact ⟨c, rfl⟩
    obtain ⟨g2, _, _, ⟨cur2, g1, g3⟩, _⟩ := hrow.2 cu hκ
    obtain rfl := t4 cu hκ
    have r2 := h2.sl_inv
    obtain ⟨g, hg⟩ : ∃ g, g = M.ψ 1001 := ⟨_, rfl⟩
    rw [← hg] at g1 r2 ⊢
    obtain ⟨y1, y2, s1, s2, ry1, ry2⟩ : ∃ y1 y2, S g 0 = some y1 ∧ S g 1 = some y2 ∧ Rep S y1 (x.cells.getD 0 .any) ∧ Rep S y2 (x.cells.getD 1 .any) := by
      generalize hL : ([x] : List PV) = L at r2
      generalize hl1 : (1 : Nat) = l1 at r2
      cases r2 with
      | sl0 a cap => cases hL
      | sl b o cap sz es' vals hsz hcap hS hR =>
        subst hL
        have hz : sz = 2 := by have := hsz 0 (by simp); rw [← this]; exact hxc.1
        subst hz
        exact ⟨_, _, by simpa using hS 0 0 (by simp) (by decide), by simpa using hS 0 1 (by simp) (by decide), hR 0 0 (by simp) (by decide), hR 0 1 (by simp) (by decide)⟩
    have hxl : xs.length = es.length * 2 := o0.1
    have w1 : w.cell? ⟨g, 0, none⟩ = some y1 := hs.stable.s.c _ _ _ s1
    have w2 : w.cell? ⟨g, 1, none⟩ = some y2 := hs.stable.s.c _ _ _ s2
    have c1 : cur2[0]? = some y1 := by rw [← cell_of g1]; exact w1
    have c2 : cur2[1]? = some y2 := by rw [← cell_of g1]; exact w2
    have r2 : ∀ j, j < 2 → Rep S ([y1, y2].getD j undef) (x.cells.getD j .any) := fun j hj => by
      match j, hj with
      | 0, _ => exact ry1
      | 1, _ => exact ry2
    have hgl : g < w.heap.size := (Array.getElem?_eq_some_iff.1 g1).1
    have atomx : ∀ j, j < 2 → (x.cells.getD j .any).atom = true := fun j hj => List.all_eq_true.1 hxc.2 _ (getD_mem (by rw [hxc.1]; exact hj))
    have a1 : y1.oneCell' = true := (RepS.clean (M := M) (q := fun _ => none) (r2 0 (by decide))).atom_inv (atomx 0 (by decide))
    have a2 : y2.oneCell' = true := (RepS.clean (M := M) (q := fun _ => none) (r2 1 (by decide))).atom_inv (atomx 1 (by decide))
    have axs : ∀ u ∈ xs, u.oneCell' = true := fun u hu => by
      obtain ⟨k, hk, rfl⟩ := List.getElem_of_mem hu
      have hk2 : k / 2 < es.length := by omega
      have hm : es.getD (k / 2) .any ∈ es := getD_mem hk2
      have := r0 (k / 2) (k % 2) hk2 (Nat.mod_lt _ (by decide))
      rw [show k / 2 * 2 + k % 2 = k by omega, getD_lt hk] at this
      exact (RepS.clean (M := M) (q := fun _ => none) this).atom_inv (List.all_eq_true.1 (hcell _ hm).2 _ (getD_mem (by rw [(hcell _ hm).1]; exact Nat.mod_lt _ (by decide))))
    have hne : ∀ k, v0.ownBlock = some k → g ≠ k := fun k hk e => by
      obtain ⟨_, _, p1, p2⟩ := k0 k hk
      exact hs.injq 1000 1001 _ _ q0 q2 rfl rfl p1 (by omega) (by decide) (by rw [p2, ← hg]; exact e.symm)
    have hv : ∀ k, v0.ownBlock = some k → ¬ B k ∧ (∀ o, S k o = none) ∧ ∃ c, w.heap[k]? = some (.cells c 53 (0, 0)) := fun k hk => by
      obtain ⟨b1, b2, _, _⟩ := k0 k hk
      obtain ⟨_, _, _, b3, _⟩ := owns_cells o0 hk
      exact ⟨b1, b2, _, b3⟩
    have hfin : ∀ i' j, i' < es.length + 1 → j < 2 → Rep S ((xs.take (i * 2) ++ [y1, y2] ++ xs.drop (i * 2)).getD (i' * 2 + j) undef) (((es.take i ++ x :: es.drop i).getD i' .any).cells.getD j .any) := fun i' j hi' hj => by
      rw [ins2_getD (by omega) hj, ins_getD hi]
      by_cases t1 : i' < i
      · rw [if_pos t1, if_pos t1]; exact r0 _ _ (by omega) hj
      · rw [if_neg t1, if_neg t1]
        by_cases t2 : i' = i
        · rw [if_pos t2, if_pos t2]
          exact r2 j hj
        · rw [if_neg t2, if_neg t2]; exact r0 _ _ (by omega) hj
    have hlen' : (xs.take (i * 2) ++ [y1, y2] ++ xs.drop (i * 2)).length = (es.length + 1) * 2 := by
      simp only [List.length_append, List.length_take, List.length_drop, List.length_cons, List.length_nil]; omega
    by_cases hend : i = es.length
    · subst hend
      have hx2 : xs.take (es.length * 2) = xs := List.take_of_length_le (by omega)
      have hx3 : xs.drop (es.length * 2) = [] := List.drop_of_length_le (by omega)
      have done : ∀ (w' : World) (v' : Value), w'.ownsRow w.heap.size 53 2 v' (es.length + 1) (xs ++ [y1, y2]) → w.grownBy w' none → ∃ v v'_1 xs', Ending.returned v' = Ending.returned v'_1 ∧ w'.ownsRow 0 53 2 v'_1 (es.length + 1) xs' ∧ GrownTo w w' v v'_1 ∧ (∀ k, v.ownBlock = some k → ¬ B k ∧ (∀ o, S k o = none) ∧ ∃ c, w.heap[k]? = some (.cells c 53 (0, 0))) ∧
          ∀ i' j, i' < es.length + 1 → j < 2 → Rep S (xs'.getD (i' * 2 + j) undef) (((es.take es.length ++ x :: es.drop es.length).getD i' .any).cells.getD j .any) := fun w' v' p1 p2 => by
        refine ⟨v0, v', _, rfl, ⟨hlen', ?_⟩, .inl ⟨p2, fun k hk => (p1.lt k hk).1⟩, hv, hfin⟩
        rw [hx2, hx3, List.append_nil]
        rcases p1.2 with h | ⟨g', c', cur', q1, _, q3⟩
        · exact .inl h
        · exact .inr ⟨g', c', cur', q1, Nat.zero_le _, q3⟩
      rcases o0.2 with ⟨hv0, hz⟩ | ⟨b, c, cur, hv0, _, h3, h4, h5, h6, h7⟩
      · have hv0' : v0 = .slice none es.length 0 := by rw [hv0, hz]
        rw [hv0']
        refine (Insert_end_grow none es.length 0 xs w g cu y1 y2 (fun _ => ⟨hz, rfl⟩) hxl (fun b h => by cases h) (by omega) (by omega) hn' w1 w2 a1 a2).mono ?_
        rintro en w' ⟨v', rfl, p1, p2⟩
        exact done w' v' p1 p2
      · rw [hv0]
        by_cases hroom : es.length + 1 ≤ c
        · refine (Insert_end_room b es.length c cur.toList w g cu y1 y2 h3 h6 hroom h5 w1 w2 a1 a2).mono ?_
          rintro en w' ⟨rfl, cur', p1, p2, p3, p4⟩
          refine ⟨v0, _, _, rfl, ⟨hlen', .inr ⟨b, c, ⟨cur'⟩, rfl, Nat.zero_le _, p1, hroom, h5, p2, ?_⟩⟩, .inr ⟨b, by rw [hv0]; rfl, rfl, p4⟩, hv, hfin⟩
          rw [hx2, hx3, List.append_nil]
          show cur'.take _ = _
          rw [p3, h7]
        · refine (Insert_end_grow (some ⟨b, 0, none⟩) es.length c xs w g cu y1 y2 (fun h => by cases h) hxl (fun b' hb' j u hj => ?_) h4 (by omega) hn' w1 w2 a1 a2).mono ?_
          · cases hb'
            rw [add_none, cell_of h3, Nat.zero_add]
            rw [← h7, List.getElem?_take] at hj
            split at hj
            · exact hj
            · cases hj
          · rintro en w' ⟨v', rfl, p1, p2⟩
            exact done w' v' p1 p2
    · rcases o0.2 with ⟨hv0, hz⟩ | ⟨b, c, cur, hv0, _, h3, h4, h5, h6, h7⟩
      · omega
      · have hne' := hne b (by rw [hv0]; rfl)
        rw [hv0]
        have axc : ∀ u ∈ cur.toList.take (es.length * 2), u.oneCell' = true := by rw [h7]; exact axs
        by_cases hroom : es.length + 1 ≤ c
        · refine (Insert_shift b es.length c i cur.toList w g cu cur2 y1 y2 h3 h6 (by omega) hroom h5 hne' g1 c1 c2 a1 a2 axc).mono ?_
          rintro en w' ⟨rfl, cur', p1, p2, p3, p4⟩
          refine ⟨v0, _, _, rfl, ⟨hlen', .inr ⟨b, c, ⟨cur'⟩, rfl, Nat.zero_le _, p1, hroom, h5, p2, ?_⟩⟩, .inr ⟨b, by rw [hv0]; rfl, rfl, p4⟩, hv, hfin⟩
          show cur'.take _ = _
          rw [p3, h7]
        · refine (Insert_grow b es.length c i cur.toList w g cu cur2 y1 y2 h3 h6 (by omega) h4 (by omega) hn' g1 c1 c2 a1 a2 axc).mono ?_
          rintro en w' ⟨G, rfl, p0, p5, cur', p1, p2, p3, p4⟩
          refine ⟨v0, _, _, rfl, ⟨hlen', .inr ⟨w.heap.size, G, ⟨cur'⟩, rfl, Nat.zero_le _, p1, p0, p5, p2, ?_⟩⟩, .inl ⟨p4, fun k hk => by cases hk; exact Nat.le_refl _⟩, hv, hfin⟩
          show cur'.take _ = _
          rw [p3, h7]
end Go.Proofs.Ytmnibpgmcgdfpaa

set_option linter.unusedSimpArgs false
set_option linter.unusedVariables false
set_option linter.unusedSimpArgs false
set_option linter.unusedVariables false
namespace Go.Proofs.Ytmnibpgmcgdfpaa
open Go.PL
set_option maxRecDepth 20000 in
set_option maxHeartbeats 1000000 in
/-- the quote of nothing -/
theorem Quote_nil : PL.Pure Try.prog 95 [.str []] (.tup [.str [34, 34], .int .i64 0]) := by
  have hT := Text_pure []
  refine pov1 Try.func95 rfl Try.ntmps95 Try.results95 ?_
  simp only [go_sem]
  refine vc1 (hT) ?_
  simp only [go_sem]
  refine vLoopM (ι := Unit) 43 (fun x => [(4, .sl (.row 9) [.int .u8 34]), (11, .int .i64 0), (12, .int .i64 0)]) (fun x => []) (fun x => [(9, .live 1 1 5)]) (fun x => 0) ()
    ⟨rfl, (forall_cons rfl (forall_cons rfl (forall_cons rfl (forall_nil)))), forall_nil, (forall_cons rfl (forall_nil))⟩ (fun x => ⟨(forall_cons rfl (forall_cons rfl (forall_cons rfl (forall_nil)))), forall_nil⟩) (fun x => ?_)
  simp only [go_sem, room_small, bytesOf]
  rfl
set_option maxRecDepth 20000 in
set_option maxHeartbeats 4000000 in
theorem Join_one (s : Str) (sep : Str) : PL.Pure Try.prog 96 [.sl .no [.str s], .str sep] (.str s) := by
  refine pov1 Try.func96 rfl Try.ntmps96 Try.results96 ?_
  simp only [go_sem]
theorem print_len (r : Rf) : (printM r).length ≤ 40 := by
  unfold printM
  split
  · rename_i h
    simp only [placeB, Bool.and_eq_true, Bool.or_eq_true, decide_eq_true_eq] at h
    have h1 := (name_len h.2.1).2
    have h2 : r.gr.length ≤ 12 := by
      rcases h.2.2 with h | h
      · rw [h]; decide
      · exact (name_len h).2
    simp only [prefixM, List.length_append, List.length_cons, List.length_nil]
    split <;> split <;> simp only [List.length_append, List.length_cons, List.length_nil] <;> omega
  · decide
set_option maxRecDepth 20000 in
set_option maxHeartbeats 4000000 in
theorem line_one (r : Rf) (n : Int) : PL.Pure Try.prog 64 [ent ⟨r, n, [[]]⟩] (.str (printM r ++ [32] ++ [34, 34])) := by
  have hP := Print_pure r
  have hJ := Join_one [34, 34] [44]
  have hl := print_len r
  have b1 : ((printM r).length : Int) + 1 ≤ 9223372036854775807 := by omega
  have b2 : (((printM r ++ [32]).length : Nat) : Int) + 2 ≤ 9223372036854775807 := by simp; omega
  refine pov1 Try.func64 rfl Try.ntmps64 Try.results64 ?_
  simp only [go_sem, ent]
  refine vc1 (hP) ?_
  simp only [go_sem, b1]
  repeat ((with_reducible refine And.intro ?_ ?_); (focus (first | omega | (simp; done))))
  refine awp_moveRow 4 25 43 0 1 9 [] rfl rfl rfl ?_
  refine vLoopM (ι := { k : Nat // k ≤ 1 }) 49 (fun x => [(3, .str (printM r ++ [32])), (4, .sl (.row 43) ((List.replicate x.1 [34, 34]).map .str)), (27, .sl .no [.str []]), (28, .int .i64 1), (29, .int .i64 (x.1 : Int))]) (fun x => []) (fun x => [(43, .live x.1 1 9)]) (fun x => 1 - x.1) ⟨0, by omega⟩
    ⟨rfl, (forall_cons rfl (forall_cons rfl (forall_cons rfl (forall_cons rfl (forall_cons rfl (forall_nil)))))), forall_nil, (forall_cons rfl (forall_nil))⟩ (fun x => ⟨forall_cons rfl (forall_cons (by simp [PV.ids, refInM]) (forall_cons rfl (forall_cons rfl (forall_cons rfl (forall_nil))))), forall_nil⟩) (fun x => ?_)
  obtain ⟨k, hk⟩ := x
  simp only
  obtain rfl | rfl : k = 0 ∨ k = 1 := by omega
  · simp only [go_sem, List.replicate]
    refine vc1 (Quote_nil) ?_
    simp only [go_sem, room_small]
    exact ⟨⟨1, by omega⟩, by show 1 - 1 < 1 - 0; omega, ⟨rfl, (forall_cons rfl (forall_cons rfl (forall_cons rfl (forall_cons rfl (forall_cons rfl (forall_nil)))))), forall_nil, (forall_cons rfl (forall_nil))⟩⟩
  · simp only [go_sem, List.replicate]
    refine vc1 (hJ) ?_
    simp only [go_sem, b2]
theorem strs_dids (l : List Str) : (strs l).dids = [] := by simp only [strs, PV.dids, didsL_str]
set_option maxRecDepth 20000 in
set_option maxHeartbeats 4000000 in
theorem Lines_one (e : En) (t : Str) (h : PL.Pure Try.prog 64 [ent e] (.str t)) : PL.Pure Try.prog 27 [doc ⟨[e], []⟩] (strs [t]) := by
  refine pov2 Try.func27 rfl Try.ntmps27 Try.results27 (strs_dids _) ?_
  simp only [go_sem, doc]
  refine awp_nilRow 3 21 1 9 rfl rfl ?_
  refine vLoopM (ι := { k : Nat // k ≤ 1 }) 54 (fun x => [(1, .ptr 1 0), (3, .sl (.row 21) ((List.replicate x.1 t).map .str)), (11, .sl .no [ent e]), (12, .int .i64 1), (13, .int .i64 (x.1 : Int))]) (fun x => [(1, [.sl .no [ent e], .sl .no []], false)]) (fun x => [(21, .live x.1 1 9)]) (fun x => 1 - x.1) ⟨0, by omega⟩
    ⟨rfl, (forall_cons rfl (forall_cons rfl (forall_cons rfl (forall_cons rfl (forall_cons rfl (forall_nil)))))), forall_cons ⟨rfl, rfl⟩ forall_nil, (forall_cons rfl (forall_nil))⟩ (fun x => ⟨forall_cons rfl (forall_cons (by simp [PV.ids, refInM]) (forall_cons rfl (forall_cons rfl (forall_cons rfl (forall_nil))))), (forall_cons rfl (forall_nil))⟩) (fun x => ?_)
  obtain ⟨k, hk⟩ := x
  simp only
  obtain rfl | rfl : k = 0 ∨ k = 1 := by omega
  · simp only [go_sem, List.replicate, ent]
    refine vc1 (h) ?_
    simp only [go_sem, room_small]
    exact ⟨⟨1, by omega⟩, by show 1 - 1 < 1 - 0; omega, ⟨rfl, (forall_cons rfl (forall_cons rfl (forall_cons rfl (forall_cons rfl (forall_cons rfl (forall_nil)))))), forall_cons ⟨rfl, rfl⟩ forall_nil, (forall_cons rfl (forall_nil))⟩⟩
  · simp only [go_sem, List.replicate]
    refine vLoopM (ι := Unit) 54 (fun x => [(3, .sl (.row 21) [.str t]), (25, .int .i64 0), (26, .int .i64 0)]) (fun x => []) (fun x => [(21, .live 1 1 9)]) (fun x => 0) ()
      ⟨rfl, (forall_cons rfl (forall_cons rfl (forall_cons rfl (forall_nil)))), forall_nil, (forall_cons rfl (forall_nil))⟩ (fun x => ⟨forall_cons (by simp [PV.ids, refInM]) (forall_cons rfl (forall_cons rfl (forall_nil))), forall_nil⟩) (fun x => ?_)
    simp only [go_sem, strs]
set_option maxRecDepth 20000 in
set_option maxHeartbeats 4000000 in
theorem Awake_pure : PL.Pure Try.prog 22 [] (.bool true) := by
  have h2 := Blank_pure rootL (by decide)
  have e2 : blanksM rootL 0 = [⟨⟨0, [], [99, 111, 117, 112, 111, 110]⟩, 0, [[]]⟩] := by decide
  rw [e2] at h2
  have h3 := Lines_one _ _ (line_one ⟨0, [], [99, 111, 117, 112, 111, 110]⟩ 0)
  have e3 : printM ⟨0, [], [99, 111, 117, 112, 111, 110]⟩ ++ [32] ++ [34, 34] = [104, 101, 97, 100, 46, 99, 111, 117, 112, 111, 110, 32, 34, 34] := by decide
  rw [e3] at h3
  refine pov1 Try.func22 rfl Try.ntmps22 Try.results22 ?_
  simp only [go_sem]
  refine vc1 (Root_pure) ?_
  simp only [go_sem]
  refine vc2 (h2) ?_
  simp only [go_sem]
  refine vc1 (h3) ?_
  simp only [go_sem, strs]
end Go.Proofs.Ytmnibpgmcgdfpaa

set_option linter.unusedSimpArgs false
set_option linter.unusedVariables false
set_option linter.unusedSimpArgs false
set_option linter.unusedVariables false
namespace Go.Proofs.Ytmnibpgmcgdfpaa
open Go.PL
theorem fld_dids (f : Fd) : (fld f).dids = [] := by simp only [fld, PV.dids, PV.didsL, didsL_str, List.append_nil]
theorem idx_any {α : Type} (p : α → Bool) (l : List α) : decide ((0 : Int) ≤ idx p l) = l.any p := by
  unfold idx
  cases h : l.findIdx? p with
  | none =>
    have : l.any p = false := by
      rw [List.any_eq_false]
      intro x hx
      have := List.findIdx?_eq_none_iff.1 h x hx
      simp [this]
    rw [this]; rfl
  | some i =>
    rw [List.findIdx?_eq_some_iff_getElem] at h
    obtain ⟨hi, hp, _⟩ := h
    have : l.any p = true := List.any_eq_true.2 ⟨_, List.getElem_mem hi, hp⟩
    rw [this]; exact decide_eq_true (show (0 : Int) ≤ (i : Int) by omega)
theorem any_comm (l : List Str) (s : Str) : l.any (fun x => s == x) = l.any (· == s) := by
  congr 1; funext x; rw [Bool.eq_iff_iff]; simp only [beq_iff_eq]; exact eq_comm
theorem room1 {n b : Nat} (hn : n ≤ 1000000) (hb : b ≤ 1000) : Room n b := room_small (by omega) hb
set_option maxHeartbeats 1000000 in
theorem FOwn_pure (f : Fd) (hf : f.cases'.length ≤ 1000000) : PL.Pure Try.prog 89 [fld f] (fld f) := by
  have hr := room1 hf (show 16 ≤ 1000 by omega)
  refine pov2 Try.func89 rfl Try.ntmps89 Try.results89 (fld_dids _) ?_
  simp only [go_sem, fld, sized_str, atoms_str, hr]
set_option maxHeartbeats 1000000 in
theorem Less_pure (a b : Rf) : PL.Pure Try.prog 88 [ref a, ref b] (.bool (lessB a b)) := by
  refine pov1 Try.func88 rfl Try.ntmps88 Try.results88 ?_
  simp only [go_sem, ref]
  repeat' ((first | refine vGuard_t (fun h => ?_) (fun h => ?_) | refine vGuard_f (fun h => ?_) (fun h => ?_) | refine vCond_b (fun h => ?_) (fun h => ?_) | refine vDq ?_) <;> first | simp only [go_sem, h] | simp only [go_sem] | skip)
  all_goals (simp_all [lessB])
set_option maxHeartbeats 1000000 in
theorem ConStr_pure (l : List Str) (s : Str) (hl : l.length ≤ maxLen) : PL.Pure Try.prog 119 [strs l, .str s] (.bool (l.any (· == s))) := by
  have hI := IdxStr_pure l s hl
  refine pov1 Try.func119 rfl Try.ntmps119 Try.results119 ?_
  simp only [go_sem, strs]
  refine vc1 (hI) ?_
  simp only [go_sem, idx_any, any_comm]
def casesP (l : List Str) : Bool := decide (1 ≤ l.length ∧ l.length ≤ 6) && casesB l
set_option maxHeartbeats 4000000 in
theorem Cases_pure (l : List Str) : PL.Pure Try.prog 118 [strs l] (.bool (casesP l)) := by
  by_cases h1 : (l.length : Int) < 1
  · have hx : casesP l = false := by simp only [casesP, show ¬ (1 ≤ l.length ∧ l.length ≤ 6) by omega, decide_false, Bool.false_and]
    refine pov1 Try.func118 rfl Try.ntmps118 Try.results118 ?_
    simp only [go_sem, strs, h1, hx]
  · by_cases h2 : (6 : Int) < (l.length : Int)
    · have hx : casesP l = false := by simp only [casesP, show ¬ (1 ≤ l.length ∧ l.length ≤ 6) by omega, decide_false, Bool.false_and]
      refine pov1 Try.func118 rfl Try.ntmps118 Try.results118 ?_
      simp only [go_sem, strs, h1, h2, hx]
    · have hm : l.length ≤ maxLen := by rw [maxLen_eq]; omega
      have hx : casesP l = casesB l := by simp only [casesP, show (1 ≤ l.length ∧ l.length ≤ 6) by omega, and_self, decide_true, Bool.true_and]
      rw [hx]
      refine pov1 Try.func118 rfl Try.ntmps118 Try.results118 ?_
      simp only [go_sem, strs, h1, h2]
      refine vLoopM (ι := { x : Nat // x ≤ (l).length ∧ (∀ j, j < x → caseOk l j = true) }) 31 (fun x => [(0, strs l), (13, strs l), (14, .int .i64 (l.length : Int)), (15, .int .i64 (x.1 : Int))]) (fun x => []) (fun x => []) (fun x => (l).length - x.1) ⟨0, Nat.zero_le _, fun j hj => absurd hj (Nat.not_lt_zero j)⟩ ⟨rfl, (forall_cons rfl (forall_cons rfl (forall_cons rfl (forall_cons rfl forall_nil)))), forall_nil, forall_nil⟩ (fun x => ⟨(forall_cons rfl (forall_cons rfl (forall_cons rfl (forall_cons rfl forall_nil)))), forall_nil⟩) (fun x => ?_); obtain ⟨k, hk, hI⟩ := x; simp only at hk hI ⊢
      by_cases h : (k : Int) < (l.length : Int)
      · (have hka : k < (l).length := by omega); (have w1 := w64s hka (hm)); (have i1 : (0 : Int) ≤ (k : Int) := by omega)
        have i2 : (k : Int) ≤ (l.length : Int) := by omega
        have hN := Name_pure (l.getD k [])
        have hT : (l.take k).length ≤ maxLen := by rw [List.length_take]; omega
        have hH := ConStr_pure (l.take k) (l.getD k []) hT
        cases hn : nameB (l.getD k [])
        · rw [hn] at hN
          have hz := casesB_false hka (by simp only [caseOk, hn, Bool.false_and])
          simp only [go_sem, strs, h, i1, getD_str hka]
          refine vc1 (hN) ?_
          simp only [go_sem, hz]
        · rw [hn] at hN
          cases hh : (l.take k).any (· == l.getD k [])
          · rw [hh] at hH
            have ok : caseOk l k = true := by simp only [caseOk, hn, hh, Bool.not_false, Bool.and_self]
            simp only [go_sem, strs, h, i1, getD_str hka]
            refine vc1 (hN) ?_
            simp only [go_sem, i1, i2, sized_str, cut, Nat.sub_zero, take_str]
            refine vc1 (hH) ?_
            simp only [go_sem, w1]
            exact ⟨⟨k + 1, by (try simp only); omega, below_succ hI ok⟩, by show (l).length - (k + 1) < (l).length - k; omega, ⟨rfl, (forall_cons rfl (forall_cons rfl (forall_cons rfl (forall_cons rfl forall_nil)))), forall_nil, forall_nil⟩⟩
          · rw [hh] at hH
            have hz := casesB_false hka (by simp only [caseOk, hn, hh, Bool.not_true, Bool.and_false])
            simp only [go_sem, strs, h, i1, getD_str hka]
            refine vc1 (hN) ?_
            simp only [go_sem, i1, i2, sized_str, cut, Nat.sub_zero, take_str]
            refine vc1 (hH) ?_
            simp only [go_sem, hz]
      · have hz := casesB_true (l := l) (fun j hj => hI j (by omega))
        simp only [go_sem, strs, h, hz]
theorem any_ne_nil {l : List Str} {s : Str} (h : l.any (· == s) = true) : 1 ≤ l.length := by
  cases l with
  | nil => simp at h
  | cons a l => simp
set_option maxRecDepth 20000 in
set_option maxHeartbeats 8000000 in
theorem Right_pure (f : Fd) (hl : f.cases'.length ≤ maxLen) : PL.Pure Try.prog 87 [fld f] (.bool (rightF f)) := by
  have hP := Place_pure f.at'
  have hT := Text_pure f.df
  have hC := Cases_pure f.cases'
  have hK := ConStr_pure f.cases' f.df hl
  have key : rightF f = (placeB f.at' && (if f.kind = 1 then (f.df == []) && (((f.cases'.length : Int) == 0) && (decide (1 ≤ f.worth) && decide (f.worth ≤ 1048576)))
      else if f.kind = 2 then decide ((f.df.length : Int) ≤ 40) && (((f.cases'.length : Int) == 0) && (f.worth == 0))
      else if f.kind = 3 then casesP f.cases' && (f.cases'.any (· == f.df) && (f.worth == 0))
      else if f.kind = 4 then (f.df == []) && (((f.cases'.length : Int) == 0) && (f.worth == 0)) else false)) := by
    unfold rightF
    congr 1
    by_cases h1 : f.kind = 1
    · rw [if_pos h1, if_pos h1, Bool.eq_iff_iff]; simp; omega
    · rw [if_neg h1, if_neg h1]
      by_cases h3 : f.kind = 3
      · rw [if_pos h3, if_neg (by omega), if_pos h3]
        unfold tail3 casesP
        cases ha : f.cases'.any (· == f.df)
        · simp
        · have := any_ne_nil ha
          rw [Bool.eq_iff_iff]; simp; constructor
          · rintro ⟨a, b, c⟩; exact ⟨⟨⟨this, by omega⟩, b⟩, a⟩
          · rintro ⟨⟨⟨a, b⟩, c⟩, d⟩; exact ⟨d, c, by omega⟩
      · rw [if_neg h3, if_neg h3]
        unfold tail2
        by_cases h2 : f.kind = 2
        · rw [if_pos h2, Bool.eq_iff_iff]; simp [h2]; constructor <;> rintro ⟨a, b, c⟩ <;> refine ⟨?_, ?_, ?_⟩ <;> first | assumption | omega
        · rw [if_neg h2]
          by_cases h4 : f.kind = 4
          · rw [if_pos h4, Bool.eq_iff_iff]; simp [h4]; constructor
            · rintro ⟨a, b, c⟩; exact ⟨c, b, a⟩
            · rintro ⟨a, b, c⟩; exact ⟨c, b, a⟩
          · rw [if_neg h4]; simp [h2, h4]
  rw [key]
  cases hp : placeB f.at'
  · rw [hp] at hP
    refine pov1 Try.func87 rfl Try.ntmps87 Try.results87 ?_
    simp only [go_sem, fld]
    refine vc1 (hP) ?_
    simp only [go_sem, Bool.false_and]
  · rw [hp] at hP
    rw [Bool.true_and]
    by_cases h1 : f.kind = 1
    · have k1 : (f.kind == 1) = true := by rw [h1]; rfl
      rw [if_pos h1]
      refine pov1 Try.func87 rfl Try.ntmps87 Try.results87 ?_
      simp only [go_sem, fld]
      refine vc1 (hP) ?_
      simp only [go_sem, k1]
      repeat' ((first | refine vGuard_t (fun h => ?_) (fun h => ?_) | refine vGuard_f (fun h => ?_) (fun h => ?_) | refine vCond_b (fun h => ?_) (fun h => ?_) | refine vDq ?_) <;> first | simp only [go_sem, h] | simp only [go_sem] | skip)
      all_goals simp_all
    · have k1 : (f.kind == 1) = false := beq_eq_false_iff_ne.2 h1
      rw [if_neg h1]
      by_cases h2 : f.kind = 2
      · have k2 : (f.kind == 2) = true := by rw [h2]; rfl
        rw [if_pos h2]
        refine pov1 Try.func87 rfl Try.ntmps87 Try.results87 ?_
        simp only [go_sem, fld]
        refine vc1 (hP) ?_
        simp only [go_sem, k1, k2]
        refine vc1 (hT) ?_
        simp only [go_sem, k1, k2]
        repeat' ((first | refine vGuard_t (fun h => ?_) (fun h => ?_) | refine vGuard_f (fun h => ?_) (fun h => ?_) | refine vCond_b (fun h => ?_) (fun h => ?_) | refine vDq ?_) <;> first | simp only [go_sem, h] | simp only [go_sem] | skip)
        all_goals simp_all
      · have k2 : (f.kind == 2) = false := beq_eq_false_iff_ne.2 h2
        rw [if_neg h2]
        by_cases h3 : f.kind = 3
        · have k3 : (f.kind == 3) = true := by rw [h3]; rfl
          rw [if_pos h3]
          refine pov1 Try.func87 rfl Try.ntmps87 Try.results87 ?_
          simp only [go_sem, fld]
          refine vc1 (hP) ?_
          simp only [go_sem, k1, k2, k3]
          refine vc1 (hC) ?_
          simp only [go_sem, k1, k2, k3]
          repeat' ((first | refine vGuard_t (fun h => ?_) (fun h => ?_) | refine vGuard_f (fun h => ?_) (fun h => ?_) | refine vCond_b (fun h => ?_) (fun h => ?_) | refine vc1 (hK) ?_ | refine vDq ?_) <;> first | simp only [go_sem, h] | simp only [go_sem] | skip)
          all_goals simp_all
        · have k3 : (f.kind == 3) = false := beq_eq_false_iff_ne.2 h3
          rw [if_neg h3]
          by_cases h4 : f.kind = 4
          · have k4 : (f.kind == 4) = true := by rw [h4]; rfl
            rw [if_pos h4]
            refine pov1 Try.func87 rfl Try.ntmps87 Try.results87 ?_
            simp only [go_sem, fld]
            refine vc1 (hP) ?_
            simp only [go_sem, k1, k2, k3, k4]
            repeat' ((first | refine vGuard_t (fun h => ?_) (fun h => ?_) | refine vGuard_f (fun h => ?_) (fun h => ?_) | refine vCond_b (fun h => ?_) (fun h => ?_) | refine vDq ?_) <;> first | simp only [go_sem, h] | simp only [go_sem] | skip)
            all_goals simp_all
          · have k4 : (f.kind == 4) = false := beq_eq_false_iff_ne.2 h4
            rw [if_neg h4]
            refine pov1 Try.func87 rfl Try.ntmps87 Try.results87 ?_
            simp only [go_sem, fld]
            refine vc1 (hP) ?_
            simp only [go_sem, k1, k2, k3, k4]
end Go.Proofs.Ytmnibpgmcgdfpaa

set_option linter.unusedSimpArgs false
set_option linter.unusedVariables false
set_option linter.unusedSimpArgs false
set_option linter.unusedVariables false
namespace Go.Proofs.Ytmnibpgmcgdfpaa
open Go.PL
def caseM (l : List Pr) (s : Str) : Str × Bool := match l.find? (fun p => p.fr' == s) with | some p => (p.to', true) | none => ([], false)
theorem take_le_len {α : Type} (l : List α) (k : Nat) : (l.take k).length ≤ l.length := by rw [List.length_take]; omega
def fromsM (l : List Pr) : List Str := l.map (·.fr')
end Go.Proofs.Ytmnibpgmcgdfpaa

set_option linter.unusedSimpArgs false
set_option linter.unusedVariables false
set_option linter.unusedSimpArgs false
set_option linter.unusedVariables false
namespace Go.Proofs.Ytmnibpgmcgdfpaa
open Go.PL
def hasFr (l : List Pr) (s : Str) : Bool := l.any fun q => q.fr' == s
def tabOk (t o : List Pr) (i : Nat) : Bool := nameB (t.getD i default).fr' && (!(hasFr (t.take i) (t.getD i default).fr') && hasFr o (t.getD i default).to')
def tableM (t o : List Pr) : Bool := decide (1 ≤ t.length ∧ t.length ≤ 6) && (List.range t.length).all (tabOk t o)
structure OkLn (x : Ln) : Prop where
  c : x.fd.cases'.length ≤ 1000000
  f : x.fo.length ≤ 1000000
  b : x.ba.length ≤ 1000000
end Go.Proofs.Ytmnibpgmcgdfpaa

set_option linter.unusedSimpArgs false
set_option linter.unusedVariables false
set_option linter.unusedSimpArgs false
set_option linter.unusedVariables false
namespace Go.Proofs.Ytmnibpgmcgdfpaa
open Go.PL
def tagB (t : Tg) : Bool := decide (1 ≤ t.r) && (decide (t.r ≤ 6) && (decide (1 ≤ t.n) && decide (t.n ≤ 1099511627776)))
end Go.Proofs.Ytmnibpgmcgdfpaa

set_option linter.unusedSimpArgs false
set_option linter.unusedVariables false
set_option linter.unusedSimpArgs false
set_option linter.unusedVariables false
namespace Go.Proofs.Ytmnibpgmcgdfpaa
open Go.PL
end Go.Proofs.Ytmnibpgmcgdfpaa

set_option linter.unusedSimpArgs false
set_option linter.unusedVariables false
set_option linter.unusedSimpArgs false
set_option linter.unusedVariables false
namespace Go.Proofs.Ytmnibpgmcgdfpaa
open Go.PL
structure Nd where
  e : Eg
  st : Int
  sch : List Fd
  dep : Int
  deriving DecidableEq, Inhabited
def nd (n : Nd) : PV := .agg [.int .i64 n.e.id.r, .int .i64 n.e.id.n, .int .i64 n.e.par.r, .int .i64 n.e.par.n, .int .i64 n.e.ln.kind, .int .i64 n.e.ln.at'.sc, .str n.e.ln.at'.gr, .str n.e.ln.at'.nm, .str n.e.ln.nm, .str n.e.ln.ot, .int .i64 n.e.ln.fac, .int .i64 n.e.ln.fd.at'.sc, .str n.e.ln.fd.at'.gr, .str n.e.ln.fd.at'.nm, .int .i64 n.e.ln.fd.kind, .str n.e.ln.fd.df, .sl .no (n.e.ln.fd.cases'.map .str), .int .i64 n.e.ln.fd.worth, .sl .no (n.e.ln.fo.map pr), .sl .no (n.e.ln.ba.map pr), .int .i64 n.st, .sl .no (n.sch.map fld), .int .i64 n.dep]
def kts (l : List Nd) : List PV := l.map fun n => tg n.e.id
def nds (l : List Nd) : List PV := l.map nd
def mc (l : List Nd) : MapC := ⟨kts l, nds l⟩
end Go.Proofs.Ytmnibpgmcgdfpaa

set_option linter.unusedSimpArgs false
set_option linter.unusedVariables false
set_option linter.unusedSimpArgs false
set_option linter.unusedVariables false
namespace Go.Proofs.Ytmnibpgmcgdfpaa
open Go.PL
end Go.Proofs.Ytmnibpgmcgdfpaa
