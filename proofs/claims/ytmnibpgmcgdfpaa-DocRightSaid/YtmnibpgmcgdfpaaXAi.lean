/- Contracts of functions and laws of this seat, each for every input that it names: lemmas of the proof. -/
import Derived.Test.YtmnibpgmcgdfpaaXAa
set_option linter.unusedSimpArgs false
set_option linter.unusedVariables false
set_option linter.unusedSimpArgs false
set_option linter.unusedVariables false
namespace Go.Proofs.Ytmnibpgmcgdfpaa
open Go.PL
@[go_sem] theorem cast0 : ((0 : Nat) : Int) = 0 := rfl
@[go_sem] theorem cast1 : ((1 : Nat) : Int) = 1 := rfl
attribute [go_sem] Int.cast_ofNat_Int
def nm (s : Str) (i : Nat) : Int := ((s.getD i 0).toNat : Int)
def okAt (s : Str) (i : Nat) : Bool := decide (97 ≤ nm s i ∧ nm s i ≤ 122) || (decide (48 ≤ nm s i ∧ nm s i ≤ 57) && decide (i ≠ 0))
def nameB (s : Str) : Bool := decide (1 ≤ s.length ∧ s.length ≤ 12) && (List.range s.length).all (okAt s)
theorem nm_fold (s : Str) (i : Nat) : ((s.getD i 0).toNat : Int) = nm s i := rfl
set_option maxRecDepth 20000 in
set_option maxHeartbeats 4000000 in
theorem Name_pure (s : Str) : PL.Pure Try.prog 56 [.str s] (.bool (nameB s)) := by
  by_cases h1 : (s.length : Int) < 1
  · have hx : nameB s = false := by simp only [nameB, show ¬ (1 ≤ s.length ∧ s.length ≤ 12) by omega, decide_false, Bool.false_and]
    refine PL.Pure.of_v Try.func56 (by decide) rfl Try.ntmps56 Try.results56 (by simp) rfl ?_
    simp only [go_sem, h1, hx]
  · by_cases h2 : (12 : Int) < (s.length : Int)
    · have hx : nameB s = false := by simp only [nameB, show ¬ (1 ≤ s.length ∧ s.length ≤ 12) by omega, decide_false, Bool.false_and]
      refine PL.Pure.of_v Try.func56 (by decide) rfl Try.ntmps56 Try.results56 (by simp) rfl ?_
      simp only [go_sem, h1, h2, hx]
    · have hn : nameB s = (List.range s.length).all (okAt s) := by simp only [nameB, show (1 ≤ s.length ∧ s.length ≤ 12) by omega, and_self, decide_true, Bool.true_and]
      refine PL.Pure.of_v Try.func56 (by decide) rfl Try.ntmps56 Try.results56 (by simp) rfl ?_
      simp only [go_sem, h1, h2]
      refine vLoopM (ι := { k : Nat // k ≤ s.length ∧ ∀ j, j < k → okAt s j = true }) 50 (fun x => [(0, .str s), (15, .int .i64 (s.length : Int)), (16, .int .i64 (x.1 : Int))]) (fun x => []) (fun x => []) (fun x => s.length - x.1) ⟨0, by omega, fun j hj => by omega⟩
        ⟨rfl, (forall_cons rfl (forall_cons rfl (forall_cons rfl (forall_nil)))), forall_nil, forall_nil⟩ (fun x => ⟨(forall_cons rfl (forall_cons rfl (forall_cons rfl (forall_nil)))), forall_nil⟩) (fun x => ?_)
      obtain ⟨k, hk, hall⟩ := x
      simp only
      by_cases h : (k : Int) < (s.length : Int)
      · have hka : k < s.length := by omega
        have w1 : IntKind.i64.wrap ((k : Int) + 1) = ((k + 1 : Nat) : Int) := by rw [w64 (by omega)]; rfl
        have i1 : (0 : Int) ≤ (k : Int) := by omega
        cases ho : okAt s k
        · have hx : nameB s = false := by
            rw [hn, List.all_eq_false]
            exact ⟨k, by simpa using hka, by simp [ho]⟩
          simp only [okAt, Bool.or_eq_false_iff, decide_eq_false_iff_not, Bool.and_eq_false_iff] at ho
          by_cases g1 : 97 ≤ nm s k
          · have g2 : ¬ nm s k ≤ 122 := by omega
            have g3 : 48 ≤ nm s k := by omega
            have g4 : ¬ nm s k ≤ 57 := by omega
            simp only [go_sem, h, i1, nm_fold, g1, g2, g3, g4, hx]
          · by_cases g3 : 48 ≤ nm s k
            · by_cases g4 : nm s k ≤ 57
              · have hk0 : ((k : Int) == 0) = true := by
                  rw [beq_iff_eq]
                  rcases ho.2 with h' | h' <;> omega
                simp only [go_sem, h, i1, nm_fold, g1, g3, g4, hk0, hx]
              · simp only [go_sem, h, i1, nm_fold, g1, g3, g4, hx]
            · simp only [go_sem, h, i1, nm_fold, g1, g3, hx]
        · have nx : ∀ j, j < k + 1 → okAt s j = true := below_succ hall ho
          simp only [okAt, Bool.or_eq_true, decide_eq_true_eq, Bool.and_eq_true] at ho
          by_cases g1 : 97 ≤ nm s k
          · have g2 : nm s k ≤ 122 := by omega
            have g3 : 48 ≤ nm s k := by omega
            have g4 : ¬ nm s k ≤ 57 := by omega
            simp only [go_sem, h, i1, nm_fold, g1, g2, g3, g4, w1]
            exact ⟨⟨k + 1, by omega, nx⟩, by show s.length - (k + 1) < s.length - k; omega, ⟨rfl, (forall_cons rfl (forall_cons rfl (forall_cons rfl (forall_nil)))), forall_nil, forall_nil⟩⟩
          · have g3 : 48 ≤ nm s k := by omega
            have g4 : nm s k ≤ 57 := by omega
            have hk0 : ((k : Int) == 0) = false := beq_eq_false_iff_ne.2 (by omega)
            simp only [go_sem, h, i1, nm_fold, g1, g3, g4, hk0, w1]
            exact ⟨⟨k + 1, by omega, nx⟩, by show s.length - (k + 1) < s.length - k; omega, ⟨rfl, (forall_cons rfl (forall_cons rfl (forall_cons rfl (forall_nil)))), forall_nil, forall_nil⟩⟩
      · have hx : nameB s = true := by
          rw [hn, List.all_eq_true]
          intro j hj
          exact hall j (by have := List.mem_range.1 hj; omega)
        simp only [go_sem, h, hx]
def placeB (r : Rf) : Bool := (decide (r.sc = 0) || decide (r.sc = 1)) && (nameB r.nm && (decide (r.gr = []) || nameB r.gr))
set_option maxRecDepth 20000 in
set_option maxHeartbeats 4000000 in
theorem Place_pure (r : Rf) : PL.Pure Try.prog 116 [ref r] (.bool (placeB r)) := by
  have hN := Name_pure r.nm
  have hG := Name_pure r.gr
  by_cases hs : r.sc = 0 ∨ r.sc = 1
  · have hs' : (decide (r.sc = 0) || decide (r.sc = 1)) = true := by simpa using hs
    have key : PL.Pure Try.prog 116 [ref r] (.bool (nameB r.nm && (decide (r.gr = []) || nameB r.gr))) := by
      cases hn : nameB r.nm
      · rw [hn] at hN
        rcases hs with h0 | h1
        · have q : (r.sc != 0) = false := by rw [h0]; rfl
          refine PL.Pure.of_v Try.func116 (by decide) rfl Try.ntmps116 Try.results116 (by simp) rfl ?_
          simp only [go_sem, ref, q]
          refine vCall_of (hN) ?_ ?_ ?_; (focus simp only [go_sem]); (focus simp only [go_sem])
          simp only [go_sem, Bool.false_and]
        · have q : (r.sc != 0) = true := by rw [h1]; rfl
          have q1 : (r.sc != 1) = false := by rw [h1]; rfl
          refine PL.Pure.of_v Try.func116 (by decide) rfl Try.ntmps116 Try.results116 (by simp) rfl ?_
          simp only [go_sem, ref, q, q1]
          refine vCall_of (hN) ?_ ?_ ?_; (focus simp only [go_sem]); (focus simp only [go_sem])
          simp only [go_sem, Bool.false_and]
      · rw [hn] at hN
        by_cases hg : r.gr = []
        · have hg' := beq_nil hg
          rcases hs with h0 | h1
          · have q : (r.sc != 0) = false := by rw [h0]; rfl
            refine PL.Pure.of_v Try.func116 (by decide) rfl Try.ntmps116 Try.results116 (by simp) rfl ?_
            simp only [go_sem, ref, q]
            refine vCall_of (hN) ?_ ?_ ?_; (focus simp only [go_sem]); (focus simp only [go_sem])
            simp only [go_sem, Bool.true_and, hg', decide_eq_true hg, Bool.true_or]
          · have q : (r.sc != 0) = true := by rw [h1]; rfl
            have q1 : (r.sc != 1) = false := by rw [h1]; rfl
            refine PL.Pure.of_v Try.func116 (by decide) rfl Try.ntmps116 Try.results116 (by simp) rfl ?_
            simp only [go_sem, ref, q, q1]
            refine vCall_of (hN) ?_ ?_ ?_; (focus simp only [go_sem]); (focus simp only [go_sem])
            simp only [go_sem, Bool.true_and, hg', decide_eq_true hg, Bool.true_or]
        · have hg' := beq_nil' hg
          rcases hs with h0 | h1
          · have q : (r.sc != 0) = false := by rw [h0]; rfl
            refine PL.Pure.of_v Try.func116 (by decide) rfl Try.ntmps116 Try.results116 (by simp) rfl ?_
            simp only [go_sem, ref, q]
            refine vCall_of (hN) ?_ ?_ ?_; (focus simp only [go_sem]); (focus simp only [go_sem])
            simp only [go_sem, hg']
            refine vCall_of (hG) ?_ ?_ ?_; (focus simp only [go_sem]); (focus simp only [go_sem])
            simp only [go_sem, Bool.true_and, decide_eq_false hg, Bool.false_or]
          · have q : (r.sc != 0) = true := by rw [h1]; rfl
            have q1 : (r.sc != 1) = false := by rw [h1]; rfl
            refine PL.Pure.of_v Try.func116 (by decide) rfl Try.ntmps116 Try.results116 (by simp) rfl ?_
            simp only [go_sem, ref, q, q1]
            refine vCall_of (hN) ?_ ?_ ?_; (focus simp only [go_sem]); (focus simp only [go_sem])
            simp only [go_sem, hg']
            refine vCall_of (hG) ?_ ?_ ?_; (focus simp only [go_sem]); (focus simp only [go_sem])
            simp only [go_sem, Bool.true_and, decide_eq_false hg, Bool.false_or]
    simp only [placeB, hs', Bool.true_and]
    exact key
  · have q : (r.sc != 0) = true := bne_iff_ne.2 (by omega)
    have q1 : (r.sc != 1) = true := bne_iff_ne.2 (by omega)
    have hx : placeB r = false := by
      have : (decide (r.sc = 0) || decide (r.sc = 1)) = false := by simp; omega
      simp only [placeB, this, Bool.false_and]
    refine PL.Pure.of_v Try.func116 (by decide) rfl Try.ntmps116 Try.results116 (by simp) rfl ?_
    simp only [go_sem, ref, q, q1, hx]
def prefixM (r : Rf) : Str := (if r.sc = 1 then [108, 105, 110, 101] else [104, 101, 97, 100]) ++ (if r.gr = [] then [] else [46] ++ r.gr)
def printM (r : Rf) : Str := if placeB r = true then prefixM r ++ [46] ++ r.nm else [63]
theorem name_len {s : Str} (h : nameB s = true) : 1 ≤ s.length ∧ s.length ≤ 12 := by
  simp only [nameB, Bool.and_eq_true, decide_eq_true_eq] at h
  exact h.1
set_option maxRecDepth 20000 in
set_option maxHeartbeats 4000000 in
theorem Print_pure (r : Rf) : PL.Pure Try.prog 93 [ref r] (.str (printM r)) := by
  have hP := Place_pure r
  cases hp : placeB r
  · rw [hp] at hP
    refine PL.Pure.of_v Try.func93 (by decide) rfl Try.ntmps93 Try.results93 (by simp) rfl ?_
    simp only [go_sem, ref]
    refine vCall_of (hP) ?_ ?_ ?_; (focus simp only [go_sem, ref]); (focus simp only [go_sem, ref])
    simp only [go_sem, printM, hp]
  · rw [hp] at hP
    have hl : r.nm.length ≤ 12 ∧ r.gr.length ≤ 12 := by
      simp only [placeB, Bool.and_eq_true, Bool.or_eq_true, decide_eq_true_eq] at hp
      refine ⟨(name_len hp.2.1).2, ?_⟩
      rcases hp.2.2 with h | h
      · rw [h]; decide
      · exact (name_len h).2
    by_cases h1 : r.sc = 1
    · have h1' : (r.sc == 1) = true := by rw [h1]; rfl
      by_cases hg : r.gr = []
      · have hg' := beq_nil hg
        refine PL.Pure.of_v Try.func93 (by decide) rfl Try.ntmps93 Try.results93 (by simp) rfl ?_
        simp only [go_sem, ref]
        refine vCall_of (hP) ?_ ?_ ?_; (focus simp only [go_sem, ref]); (focus simp only [go_sem, ref])
        simp only [go_sem, h1', hg', printM, hp, prefixM, h1, hg, List.append_assoc]
        omega
      · have hg' := beq_nil' hg
        refine PL.Pure.of_v Try.func93 (by decide) rfl Try.ntmps93 Try.results93 (by simp) rfl ?_
        simp only [go_sem, ref]
        refine vCall_of (hP) ?_ ?_ ?_; (focus simp only [go_sem, ref]); (focus simp only [go_sem, ref])
        simp only [go_sem, h1', hg', printM, hp, prefixM, h1, hg, List.append_assoc]
        simp only [List.length_append, List.length_cons, List.length_nil]
        refine ⟨?_, ?_, ?_, ?_⟩ <;> omega
    · have h1' : (r.sc == 1) = false := beq_eq_false_iff_ne.2 h1
      by_cases hg : r.gr = []
      · have hg' := beq_nil hg
        refine PL.Pure.of_v Try.func93 (by decide) rfl Try.ntmps93 Try.results93 (by simp) rfl ?_
        simp only [go_sem, ref]
        refine vCall_of (hP) ?_ ?_ ?_; (focus simp only [go_sem, ref]); (focus simp only [go_sem, ref])
        simp only [go_sem, h1', hg', printM, hp, prefixM, h1, hg, List.append_assoc]
        omega
      · have hg' := beq_nil' hg
        refine PL.Pure.of_v Try.func93 (by decide) rfl Try.ntmps93 Try.results93 (by simp) rfl ?_
        simp only [go_sem, ref]
        refine vCall_of (hP) ?_ ?_ ?_; (focus simp only [go_sem, ref]); (focus simp only [go_sem, ref])
        simp only [go_sem, h1', hg', printM, hp, prefixM, h1, hg, List.append_assoc]
        simp only [List.length_append, List.length_cons, List.length_nil]
        refine ⟨?_, ?_, ?_, ?_⟩ <;> omega

set_option maxHeartbeats 1000000 in
theorem Text_pure (s : Str) : PL.Pure Try.prog 117 [.str s] (.bool (decide ((s.length : Int) ≤ 40))) := by
  refine PL.Pure.of_v Try.func117 (by decide) rfl Try.ntmps117 Try.results117 (by simp) rfl ?_
  simp only [go_sem]
end Go.Proofs.Ytmnibpgmcgdfpaa

set_option linter.unusedSimpArgs false
set_option linter.unusedVariables false
set_option linter.unusedSimpArgs false
set_option linter.unusedVariables false
namespace Go.Proofs.Ytmnibpgmcgdfpaa
open Go.PL
set_option maxRecDepth 20000 in
set_option maxHeartbeats 1000000 in
/-- the quote of nothing -/
theorem Quote_nil : PL.Pure Try.prog 95 [.str []] (.tup [.str [34, 34], .int .i64 0]) := by
  have hT := Text_pure []
  refine PL.Pure.of_v Try.func95 (by decide) rfl Try.ntmps95 Try.results95 (by simp) rfl ?_
  simp only [go_sem]
  refine vCall_of (hT) ?_ ?_ ?_; (focus simp only [go_sem]); (focus simp only [go_sem])
  simp only [go_sem, List.length_nil]
  refine vLoopM (ι := Unit) 43 (fun x => [(4, .sl (.row 9) [.int .u8 34]), (11, .int .i64 0), (12, .int .i64 0)]) (fun x => []) (fun x => [(9, .live 1 1 5)]) (fun x => 0) ()
    ⟨rfl, (forall_cons rfl (forall_cons rfl (forall_cons rfl (forall_nil)))), forall_nil, (forall_cons rfl (forall_nil))⟩ (fun x => ⟨(forall_cons rfl (forall_cons rfl (forall_cons rfl (forall_nil)))), forall_nil⟩) (fun x => ?_)
  simp only [go_sem, room_small, bytesOf]
  rfl
set_option maxRecDepth 20000 in
set_option maxHeartbeats 4000000 in
theorem Join_one (s : Str) (sep : Str) : PL.Pure Try.prog 96 [.sl .no [.str s], .str sep] (.str s) := by
  refine PL.Pure.of_v Try.func96 (by decide) rfl Try.ntmps96 Try.results96 (by simp) rfl ?_
  simp only [go_sem]
theorem print_len (r : Rf) : (printM r).length ≤ 40 := by
  unfold printM
  split
  · rename_i h
    simp only [placeB, Bool.and_eq_true, Bool.or_eq_true, decide_eq_true_eq] at h
    have h1 := (name_len h.2.1).2
    have h2 : r.gr.length ≤ 12 := by
      rcases h.2.2 with h | h
      · rw [h]; decide
      · exact (name_len h).2
    simp only [prefixM, List.length_append, List.length_cons, List.length_nil]
    split <;> split <;> simp only [List.length_append, List.length_cons, List.length_nil] <;> omega
  · decide
set_option maxRecDepth 20000 in
set_option maxHeartbeats 4000000 in
theorem line_one (r : Rf) (n : Int) : PL.Pure Try.prog 64 [ent ⟨r, n, [[]]⟩] (.str (printM r ++ [32] ++ [34, 34])) := by
  have hP := Print_pure r
  have hJ := Join_one [34, 34] [44]
  have hl := print_len r
  have b1 : ((printM r).length : Int) + 1 ≤ 9223372036854775807 := by omega
  have b2 : (((printM r ++ [32]).length : Nat) : Int) + 2 ≤ 9223372036854775807 := by simp; omega
  refine PL.Pure.of_v Try.func64 (by decide) rfl Try.ntmps64 Try.results64 (by simp) rfl ?_
  simp only [go_sem, ent]
  refine vCall_of (hP) ?_ ?_ ?_; (focus simp only [go_sem, ref]); (focus simp only [go_sem, ref])
  simp only [go_sem, b1]
  repeat ((with_reducible refine And.intro ?_ ?_); (focus (first | omega | (simp; done))))
  refine awp_moveRow 4 25 43 0 1 9 [] rfl rfl rfl ?_
  refine vLoopM (ι := { k : Nat // k ≤ 1 }) 49 (fun x => [(3, .str (printM r ++ [32])), (4, .sl (.row 43) ((List.replicate x.1 [34, 34]).map .str)), (27, .sl .no [.str []]), (28, .int .i64 1), (29, .int .i64 (x.1 : Int))]) (fun x => []) (fun x => [(43, .live x.1 1 9)]) (fun x => 1 - x.1) ⟨0, by omega⟩
    ⟨rfl, (forall_cons rfl (forall_cons rfl (forall_cons rfl (forall_cons rfl (forall_cons rfl (forall_nil)))))), forall_nil, (forall_cons rfl (forall_nil))⟩ (fun x => ⟨forall_cons rfl (forall_cons (by simp [PV.ids, refInM]) (forall_cons rfl (forall_cons rfl (forall_cons rfl (forall_nil))))), forall_nil⟩) (fun x => ?_)
  obtain ⟨k, hk⟩ := x
  simp only
  obtain rfl | rfl : k = 0 ∨ k = 1 := by omega
  · simp only [go_sem, List.replicate]
    refine vCall_of (Quote_nil) ?_ ?_ ?_; (focus simp only [go_sem]); (focus simp only [go_sem])
    simp only [go_sem, room_small]
    exact ⟨⟨1, by omega⟩, by show 1 - 1 < 1 - 0; omega, ⟨rfl, (forall_cons rfl (forall_cons rfl (forall_cons rfl (forall_cons rfl (forall_cons rfl (forall_nil)))))), forall_nil, (forall_cons rfl (forall_nil))⟩⟩
  · simp only [go_sem, List.replicate]
    refine vCall_of (hJ) ?_ ?_ ?_; (focus simp only [go_sem]); (focus simp only [go_sem])
    simp only [go_sem, b2]
theorem strs_dids (l : List Str) : (strs l).dids = [] := by simp only [strs, PV.dids, didsL_str]
set_option maxRecDepth 20000 in
set_option maxHeartbeats 4000000 in
theorem Lines_one (e : En) (t : Str) (h : PL.Pure Try.prog 64 [ent e] (.str t)) : PL.Pure Try.prog 27 [doc ⟨[e], []⟩] (strs [t]) := by
  refine PL.Pure.of_v Try.func27 (by decide) rfl Try.ntmps27 Try.results27 (by simp) (strs_dids _) ?_
  simp only [go_sem, doc]
  refine awp_nilRow 3 21 1 9 rfl rfl ?_
  refine vLoopM (ι := { k : Nat // k ≤ 1 }) 54 (fun x => [(1, .ptr 1 0), (3, .sl (.row 21) ((List.replicate x.1 t).map .str)), (11, .sl .no [ent e]), (12, .int .i64 1), (13, .int .i64 (x.1 : Int))]) (fun x => [(1, [.sl .no [ent e], .sl .no []], false)]) (fun x => [(21, .live x.1 1 9)]) (fun x => 1 - x.1) ⟨0, by omega⟩
    ⟨rfl, (forall_cons rfl (forall_cons rfl (forall_cons rfl (forall_cons rfl (forall_cons rfl (forall_nil)))))), forall_cons ⟨rfl, rfl⟩ forall_nil, (forall_cons rfl (forall_nil))⟩ (fun x => ⟨forall_cons rfl (forall_cons (by simp [PV.ids, refInM]) (forall_cons rfl (forall_cons rfl (forall_cons rfl (forall_nil))))), (forall_cons rfl (forall_nil))⟩) (fun x => ?_)
  obtain ⟨k, hk⟩ := x
  simp only
  obtain rfl | rfl : k = 0 ∨ k = 1 := by omega
  · simp only [go_sem, List.replicate, ent]
    refine vCall_of (h) ?_ ?_ ?_; (focus simp only [go_sem, ent]); (focus simp only [go_sem, ent])
    simp only [go_sem, room_small]
    exact ⟨⟨1, by omega⟩, by show 1 - 1 < 1 - 0; omega, ⟨rfl, (forall_cons rfl (forall_cons rfl (forall_cons rfl (forall_cons rfl (forall_cons rfl (forall_nil)))))), forall_cons ⟨rfl, rfl⟩ forall_nil, (forall_cons rfl (forall_nil))⟩⟩
  · simp only [go_sem, List.replicate]
    refine vLoopM (ι := Unit) 54 (fun x => [(3, .sl (.row 21) [.str t]), (25, .int .i64 0), (26, .int .i64 0)]) (fun x => []) (fun x => [(21, .live 1 1 9)]) (fun x => 0) ()
      ⟨rfl, (forall_cons rfl (forall_cons rfl (forall_cons rfl (forall_nil)))), forall_nil, (forall_cons rfl (forall_nil))⟩ (fun x => ⟨forall_cons (by simp [PV.ids, refInM]) (forall_cons rfl (forall_cons rfl (forall_nil))), forall_nil⟩) (fun x => ?_)
    simp only [go_sem, strs]
set_option maxRecDepth 20000 in
set_option maxHeartbeats 4000000 in
theorem Awake_pure : PL.Pure Try.prog 22 [] (.bool true) := by
  have h2 := Blank_pure rootL (by decide)
  have e2 : blanksM rootL 0 = [⟨⟨0, [], [99, 111, 117, 112, 111, 110]⟩, 0, [[]]⟩] := by decide
  rw [e2] at h2
  have h3 := Lines_one _ _ (line_one ⟨0, [], [99, 111, 117, 112, 111, 110]⟩ 0)
  have e3 : printM ⟨0, [], [99, 111, 117, 112, 111, 110]⟩ ++ [32] ++ [34, 34] = [104, 101, 97, 100, 46, 99, 111, 117, 112, 111, 110, 32, 34, 34] := by decide
  rw [e3] at h3
  refine PL.Pure.of_v Try.func22 (by decide) rfl Try.ntmps22 Try.results22 (by simp) rfl ?_
  simp only [go_sem]
  refine vCall_of (Root_pure) ?_ ?_ ?_; (focus simp only [go_sem]); (focus simp only [go_sem])
  simp only [go_sem]
  refine vCall_of (h2) ?_ ?_ ?_; (focus simp only [go_sem, flds]); (focus simp only [go_sem, flds])
  simp only [go_sem]
  refine vCall_of (h3) ?_ ?_ ?_; (focus simp only [go_sem, doc]); (focus simp only [go_sem, doc])
  simp only [go_sem, strs]
end Go.Proofs.Ytmnibpgmcgdfpaa

set_option linter.unusedSimpArgs false
set_option linter.unusedVariables false
set_option linter.unusedSimpArgs false
set_option linter.unusedVariables false
namespace Go.Proofs.Ytmnibpgmcgdfpaa
open Go.PL
set_option maxRecDepth 20000 in
set_option maxHeartbeats 4000000 in
theorem RName_pure (s : Str) : PL.Pure Try.prog 60 [.str s] (.bool (nameB s)) := by
  by_cases h1 : (s.length : Int) < 1
  · have hx : nameB s = false := by simp only [nameB, show ¬ (1 ≤ s.length ∧ s.length ≤ 12) by omega, decide_false, Bool.false_and]
    refine PL.Pure.of_v Try.func60 (by decide) rfl Try.ntmps60 Try.results60 (by simp) rfl ?_
    simp only [go_sem, h1, hx]
  · by_cases h2 : (12 : Int) < (s.length : Int)
    · have hx : nameB s = false := by simp only [nameB, show ¬ (1 ≤ s.length ∧ s.length ≤ 12) by omega, decide_false, Bool.false_and]
      refine PL.Pure.of_v Try.func60 (by decide) rfl Try.ntmps60 Try.results60 (by simp) rfl ?_
      simp only [go_sem, h1, h2, hx]
    · have hn : nameB s = (List.range s.length).all (okAt s) := by simp only [nameB, show (1 ≤ s.length ∧ s.length ≤ 12) by omega, and_self, decide_true, Bool.true_and]
      refine PL.Pure.of_v Try.func60 (by decide) rfl Try.ntmps60 Try.results60 (by simp) rfl ?_
      simp only [go_sem, h1, h2]
      refine vLoopM (ι := { k : Nat // k ≤ s.length ∧ ∀ j, j < k → okAt s j = true }) 50 (fun x => [(0, .str s), (3, .int .i64 (x.1 : Int))]) (fun x => []) (fun x => []) (fun x => s.length - x.1) ⟨0, by omega, fun j hj => by omega⟩
        ⟨rfl, (forall_cons rfl (forall_cons rfl (forall_nil))), forall_nil, forall_nil⟩ (fun x => ⟨(forall_cons rfl (forall_cons rfl (forall_nil))), forall_nil⟩) (fun x => ?_)
      obtain ⟨k, hk, hall⟩ := x
      simp only
      by_cases h : (k : Int) < (s.length : Int)
      · have hka : k < s.length := by omega
        have w1 : IntKind.i64.wrap ((k : Int) + 1) = ((k + 1 : Nat) : Int) := by rw [w64 (by omega)]; rfl
        have i1 : (0 : Int) ≤ (k : Int) := by omega
        cases ho : okAt s k
        · have hx : nameB s = false := by
            rw [hn, List.all_eq_false]
            exact ⟨k, by simpa using hka, by simp [ho]⟩
          simp only [okAt, Bool.or_eq_false_iff, decide_eq_false_iff_not, Bool.and_eq_false_iff] at ho
          by_cases g1 : 97 ≤ nm s k
          · have g2 : ¬ nm s k ≤ 122 := by omega
            have g3 : 48 ≤ nm s k := by omega
            have g4 : ¬ nm s k ≤ 57 := by omega
            simp only [go_sem, h, i1, nm_fold, g1, g2, g3, g4, hx]
          · by_cases g3 : 48 ≤ nm s k
            · by_cases g4 : nm s k ≤ 57
              · have hk0 : ((k : Int) == 0) = true := by
                  rw [beq_iff_eq]
                  rcases ho.2 with h' | h' <;> omega
                simp only [go_sem, h, i1, nm_fold, g1, g3, g4, hk0, hx]
              · simp only [go_sem, h, i1, nm_fold, g1, g3, g4, hx]
            · simp only [go_sem, h, i1, nm_fold, g1, g3, hx]
        · have nx : ∀ j, j < k + 1 → okAt s j = true := below_succ hall ho
          simp only [okAt, Bool.or_eq_true, decide_eq_true_eq, Bool.and_eq_true] at ho
          by_cases g1 : 97 ≤ nm s k
          · have g2 : nm s k ≤ 122 := by omega
            have g3 : 48 ≤ nm s k := by omega
            have g4 : ¬ nm s k ≤ 57 := by omega
            simp only [go_sem, h, i1, nm_fold, g1, g2, g3, g4, w1]
            exact ⟨⟨k + 1, by omega, nx⟩, by show s.length - (k + 1) < s.length - k; omega, ⟨rfl, (forall_cons rfl (forall_cons rfl (forall_nil))), forall_nil, forall_nil⟩⟩
          · have g3 : 48 ≤ nm s k := by omega
            have g4 : nm s k ≤ 57 := by omega
            have hk0 : ((k : Int) == 0) = false := beq_eq_false_iff_ne.2 (by omega)
            simp only [go_sem, h, i1, nm_fold, g1, g3, g4, hk0, w1]
            exact ⟨⟨k + 1, by omega, nx⟩, by show s.length - (k + 1) < s.length - k; omega, ⟨rfl, (forall_cons rfl (forall_cons rfl (forall_nil))), forall_nil, forall_nil⟩⟩
      · have hx : nameB s = true := by
          rw [hn, List.all_eq_true]
          intro j hj
          exact hall j (by have := List.mem_range.1 hj; omega)
        simp only [go_sem, h, hx]
theorem place_alt (r : Rf) : placeB r = (decide (0 ≤ r.sc) && (decide (r.sc ≤ 1) && (nameB r.nm && (decide (r.gr = []) || nameB r.gr)))) := by
  have : (decide (r.sc = 0) || decide (r.sc = 1)) = (decide (0 ≤ r.sc) && decide (r.sc ≤ 1)) := by
    rw [Bool.eq_iff_iff]; simp; omega
  rw [placeB, this, Bool.and_assoc]
set_option maxRecDepth 20000 in
set_option maxHeartbeats 4000000 in
theorem RPlace_pure (r : Rf) : PL.Pure Try.prog 120 [ref r] (.bool (placeB r)) := by
  rw [place_alt]
  have hN := RName_pure r.nm
  have hG := RName_pure r.gr
  refine PL.Pure.of_v Try.func120 (by decide) rfl Try.ntmps120 Try.results120 (by simp) rfl ?_
  simp only [go_sem, ref]
  repeat' (first | (refine vGuard_t (fun h => ?_) (fun h => ?_) <;> (try simp only [go_sem, h])) | (refine vGuard_f (fun h => ?_) (fun h => ?_) <;> (try simp only [go_sem, h])) | (refine vCond_b (fun h => ?_) (fun h => ?_) <;> (try simp only [go_sem, h])) | ((refine vCall_of (hN) ?_ ?_ ?_); (focus simp only [go_sem]); (focus exact rfl); (try simp only [go_sem])) | ((refine vCall_of (hG) ?_ ?_ ?_); (focus simp only [go_sem]); (focus exact rfl); (try simp only [go_sem])) | ((refine vDrawQ (by kernel_rfl) (by kernel_rfl) ?_); (try simp only [go_sem])))
  all_goals (simp_all)
set_option maxHeartbeats 1000000 in
theorem RHas_pure (l : List Str) (s : Str) (hl : l.length ≤ maxLen) : PL.Pure Try.prog 121 [strs l, .str s] (.bool (l.any (· == s))) := by
  refine PL.Pure.of_v Try.func121 (by decide) rfl Try.ntmps121 Try.results121 (by simp) rfl ?_
  simp only [go_sem, strs]
  refine vLoopM (ι := { k : Nat // k ≤ l.length ∧ ∀ j, j < k → (l.getD j [] == s) = false }) 18 (fun x => [(0, strs l), (1, .str s), (5, .int .i64 (x.1 : Int))]) (fun x => []) (fun x => []) (fun x => l.length - x.1) ⟨0, by omega, fun j hj => by omega⟩
    ⟨rfl, (forall_cons rfl (forall_cons rfl (forall_cons rfl (forall_nil)))), forall_nil, forall_nil⟩ (fun x => ⟨(forall_cons rfl (forall_cons rfl (forall_cons rfl (forall_nil)))), forall_nil⟩) (fun x => ?_)
  obtain ⟨k, hk, hall⟩ := x
  simp only
  by_cases h : (k : Int) < (l.length : Int)
  · have hka : k < l.length := by omega
    have w1 := w64s hka hl
    have i1 : (0 : Int) ≤ (k : Int) := by omega
    cases he : (l.getD k [] == s)
    · simp only [go_sem, strs, h, getD_str hka, i1, he, w1]
      exact ⟨⟨k + 1, by omega, below_succ hall he⟩, by show l.length - (k + 1) < l.length - k; omega, ⟨rfl, (forall_cons rfl (forall_cons rfl (forall_cons rfl (forall_nil)))), forall_nil, forall_nil⟩⟩
    · have hx := any_true (p := (· == s)) hka he
      simp only [go_sem, strs, h, getD_str hka, i1, he, hx]
  · have hx := any_false (p := (· == s)) (d := []) (l := l) (fun j hj => hall j (by omega))
    simp only [go_sem, strs, h, hx]
def lessB (a b : Rf) : Bool := if a.sc ≠ b.sc then decide (a.sc < b.sc) else if a.gr ≠ b.gr then bytesLt a.gr b.gr else bytesLt a.nm b.nm
set_option maxHeartbeats 1000000 in
theorem RLess_pure (a b : Rf) : PL.Pure Try.prog 91 [ref a, ref b] (.bool (lessB a b)) := by
  refine PL.Pure.of_v Try.func91 (by decide) rfl Try.ntmps91 Try.results91 (by simp) rfl ?_
  simp only [go_sem, ref]
  repeat' (first | (refine vGuard_t (fun h => ?_) (fun h => ?_) <;> (try simp only [go_sem, h])) | (refine vGuard_f (fun h => ?_) (fun h => ?_) <;> (try simp only [go_sem, h])) | (refine vCond_b (fun h => ?_) (fun h => ?_) <;> (try simp only [go_sem, h])) | ((refine vDrawQ (by kernel_rfl) (by kernel_rfl) ?_); (try simp only [go_sem])))
  all_goals (simp_all [lessB])
end Go.Proofs.Ytmnibpgmcgdfpaa

set_option linter.unusedSimpArgs false
set_option linter.unusedVariables false
set_option linter.unusedSimpArgs false
set_option linter.unusedVariables false
namespace Go.Proofs.Ytmnibpgmcgdfpaa
open Go.PL
attribute [go_sem] Option.map_some Option.map_none Option.isNone_none
theorem take_str (l : List Str) (k : Nat) : List.take k (l.map PV.str) = (l.take k).map PV.str := by rw [List.map_take]
def caseOk (l : List Str) (i : Nat) : Bool := nameB (l.getD i []) && !((l.take i).any (· == l.getD i []))
def casesB (l : List Str) : Bool := (List.range l.length).all (caseOk l)
theorem casesB_false {l : List Str} {k : Nat} (hk : k < l.length) (h : caseOk l k = false) : casesB l = false := by
  rw [casesB, List.all_eq_false]; exact ⟨k, by simpa using hk, by simp [h]⟩
theorem casesB_true {l : List Str} (h : ∀ j, j < l.length → caseOk l j = true) : casesB l = true := by
  rw [casesB, List.all_eq_true]; intro j hj; exact h j (List.mem_range.1 hj)
def tail3 (f : Fd) : Bool := casesB f.cases' && (decide ((f.cases'.length : Int) < 7) && f.cases'.any (· == f.df))
def tail2 (f : Fd) : Bool := !decide (0 < (f.cases'.length : Int)) && ((decide (f.kind = 2) && decide ((f.df.length : Int) < 41)) || (decide (f.kind = 4) && decide (f.df = [])))
def rightF (f : Fd) : Bool :=
  placeB f.at' && (if f.kind = 1 then decide (f.df = []) && (decide ((f.cases'.length : Int) = 0) && (decide (0 < f.worth) && decide (f.worth < 1048577)))
    else decide (f.worth = 0) && (if f.kind = 3 then tail3 f else tail2 f))
set_option maxRecDepth 20000 in
set_option maxHeartbeats 8000000 in
theorem RRight_pure (f : Fd) (hl : f.cases'.length ≤ maxLen) : PL.Pure Try.prog 90 [fld f] (.bool (rightF f)) := by
  have hP := RPlace_pure f.at'
  by_cases h3 : f.kind = 3
  · have k1 : (f.kind == 1) = false := by rw [h3]; rfl
    have k3 : (f.kind == 3) = true := by rw [h3]; rfl
    cases hp : placeB f.at'
    · rw [hp] at hP
      refine PL.Pure.of_v Try.func90 (by decide) rfl Try.ntmps90 Try.results90 (by simp) rfl ?_
      simp only [go_sem, fld]
      refine vCall_of (hP) ?_ ?_ ?_; (focus simp only [go_sem, ref]); (focus simp only [go_sem, ref])
      simp only [go_sem, rightF, hp, Bool.false_and]
    · rw [hp] at hP
      by_cases hw : f.worth = 0
      · have hw' : (f.worth != 0) = false := by rw [hw]; rfl
        have hx : rightF f = tail3 f := by
          simp only [rightF, hp, h3, hw, Bool.true_and, decide_true, if_true]
          rfl
        rw [hx]
        refine PL.Pure.of_v Try.func90 (by decide) rfl Try.ntmps90 Try.results90 (by simp) rfl ?_
        simp only [go_sem, fld]
        refine vCall_of (hP) ?_ ?_ ?_; (focus simp only [go_sem, ref]); (focus simp only [go_sem, ref])
        simp only [go_sem, k1, k3, hw']
        refine vLoopM (ι := { k : Nat // k ≤ f.cases'.length ∧ ∀ j, j < k → caseOk f.cases' j = true }) 96 (fun x => [(1, .ptr 1 0), (3, .int .i64 (x.1 : Int))]) (fun x => [(1, [.int .i64 f.at'.sc, .str f.at'.gr, .str f.at'.nm, .int .i64 f.kind, .str f.df, .sl .no (f.cases'.map .str), .int .i64 f.worth], false)]) (fun x => []) (fun x => f.cases'.length - x.1) ⟨0, by omega, fun j hj => by omega⟩
          ⟨rfl, (forall_cons rfl (forall_cons rfl (forall_nil))), forall_cons ⟨rfl, rfl⟩ forall_nil, forall_nil⟩ (fun x => ⟨(forall_cons rfl (forall_cons rfl (forall_nil))), (forall_cons rfl (forall_nil))⟩) (fun x => ?_)
        obtain ⟨k, hk, hall⟩ := x
        simp only
        by_cases h : (k : Int) < (f.cases'.length : Int)
        · have hka : k < f.cases'.length := by omega
          have w1 := w64s hka hl
          have i1 : (0 : Int) ≤ (k : Int) := by omega
          have i2 : (k : Int) ≤ (f.cases'.length : Int) := by omega
          have hN := RName_pure (f.cases'.getD k [])
          have hT : (f.cases'.take k).length ≤ maxLen := by rw [List.length_take]; omega
          have hH := RHas_pure (f.cases'.take k) (f.cases'.getD k []) hT
          cases hn : nameB (f.cases'.getD k [])
          · rw [hn] at hN
            have hz : tail3 f = false := by simp only [tail3, casesB_false hka (by simp only [caseOk, hn, Bool.false_and]), Bool.false_and]
            simp only [go_sem, h, i1]
            refine vDrawQ (by kernel_rfl) (by kernel_rfl) ?_
            simp only [go_sem, getD_str hka, h, i1]
            refine vCall_of (hN) ?_ ?_ ?_; (focus simp only [go_sem]); (focus simp only [go_sem])
            simp only [go_sem, hz]
          · rw [hn] at hN
            cases hh : (f.cases'.take k).any (· == f.cases'.getD k [])
            · rw [hh] at hH
              have ok : caseOk f.cases' k = true := by simp only [caseOk, hn, hh, Bool.not_false, Bool.and_self]
              simp only [go_sem, h, i1]
              refine vDrawQ (by kernel_rfl) (by kernel_rfl) ?_
              simp only [go_sem, getD_str hka, h, i1]
              refine vCall_of (hN) ?_ ?_ ?_; (focus simp only [go_sem]); (focus simp only [go_sem])
              simp only [go_sem, getD_str hka, h, i1, i2, cut, Nat.sub_zero, take_str, sized_str]
              refine vCall_of (hH) ?_ ?_ ?_; (focus simp only [go_sem, strs]); (focus simp only [go_sem, strs])
              simp only [go_sem, w1]
              exact ⟨⟨k + 1, by omega, below_succ hall ok⟩, by show f.cases'.length - (k + 1) < f.cases'.length - k; omega, ⟨rfl, (forall_cons rfl (forall_cons rfl (forall_nil))), forall_cons ⟨rfl, rfl⟩ forall_nil, forall_nil⟩⟩
            · rw [hh] at hH
              have hz : tail3 f = false := by simp only [tail3, casesB_false hka (by simp only [caseOk, hn, hh, Bool.not_true, Bool.and_false]), Bool.false_and]
              simp only [go_sem, h, i1]
              refine vDrawQ (by kernel_rfl) (by kernel_rfl) ?_
              simp only [go_sem, getD_str hka, h, i1]
              refine vCall_of (hN) ?_ ?_ ?_; (focus simp only [go_sem]); (focus simp only [go_sem])
              simp only [go_sem, getD_str hka, h, i1, i2, cut, Nat.sub_zero, take_str, sized_str]
              refine vCall_of (hH) ?_ ?_ ?_; (focus simp only [go_sem, strs]); (focus simp only [go_sem, strs])
              simp only [go_sem, hz]
        · have hc := casesB_true (l := f.cases') (fun j hj => hall j (by omega))
          have hH := RHas_pure f.cases' f.df hl
          by_cases h7 : (f.cases'.length : Int) < 7
          · simp only [go_sem, h, h7]
            refine vCall_of (hH) ?_ ?_ ?_; (focus simp only [go_sem, strs]); (focus simp only [go_sem, strs])
            simp only [go_sem, tail3, hc, h7, Bool.true_and]
          · simp only [go_sem, h, h7, tail3, hc, Bool.true_and, Bool.false_and]
      · have hw' : (f.worth != 0) = true := bne_iff_ne.2 hw
        have hx : rightF f = false := by
          simp only [rightF, hp, h3, hw, Bool.true_and, decide_false, Bool.false_and]
          rfl
        refine PL.Pure.of_v Try.func90 (by decide) rfl Try.ntmps90 Try.results90 (by simp) rfl ?_
        simp only [go_sem, fld]
        refine vCall_of (hP) ?_ ?_ ?_; (focus simp only [go_sem, ref]); (focus simp only [go_sem, ref])
        simp only [go_sem, k1, k3, hw', hx]
  · have k3 : (f.kind == 3) = false := beq_eq_false_iff_ne.2 h3
    have hx : rightF f = (placeB f.at' && (if f.kind = 1 then decide (f.df = []) && (decide ((f.cases'.length : Int) = 0) && (decide (0 < f.worth) && decide (f.worth < 1048577))) else decide (f.worth = 0) && tail2 f)) := by
      simp only [rightF, h3, if_false]
    rw [hx]
    refine PL.Pure.of_v Try.func90 (by decide) rfl Try.ntmps90 Try.results90 (by simp) rfl ?_
    simp only [go_sem, fld]
    refine vCall_of (hP) ?_ ?_ ?_; (focus simp only [go_sem, ref]); (focus simp only [go_sem, ref])
    simp only [go_sem]
    repeat' (first | (refine vGuard_t (fun h => ?_) (fun h => ?_) <;> (try simp only [go_sem, h, k3])) | (refine vGuard_f (fun h => ?_) (fun h => ?_) <;> (try simp only [go_sem, h, k3])) | (refine vCond_b (fun h => ?_) (fun h => ?_) <;> (try simp only [go_sem, h, k3])) | ((refine vDrawQ (by kernel_rfl) (by kernel_rfl) ?_); (try simp only [go_sem, k3])))
    all_goals (simp_all [tail2])
    all_goals (cases f.df <;> simp)

def fitsF (f : Fd) (s : Str) : Bool := (rightF f && !decide (f.kind = 1)) && (if f.kind = 3 then f.cases'.any (· == s) else decide ((s.length : Int) < 41))
set_option maxRecDepth 20000 in
set_option maxHeartbeats 8000000 in
theorem RFits_pure (f : Fd) (s : Str) (hl : f.cases'.length ≤ maxLen) : PL.Pure Try.prog 110 [fld f, .str s] (.bool (fitsF f s)) := by
  have hR := RRight_pure f hl
  have hH := RHas_pure f.cases' s hl
  refine PL.Pure.of_v Try.func110 (by decide) rfl Try.ntmps110 Try.results110 (by simp) rfl ?_
  simp only [go_sem, fld]
  repeat' (first | (refine vGuard_t (fun h => ?_) (fun h => ?_) <;> (try simp only [go_sem, h])) | (refine vGuard_f (fun h => ?_) (fun h => ?_) <;> (try simp only [go_sem, h])) | (refine vCond_b (fun h => ?_) (fun h => ?_) <;> (try simp only [go_sem, h])) | ((refine vCall_of (hR) ?_ ?_ ?_); (focus simp only [go_sem, fld, strs]); (focus exact rfl); (try simp only [go_sem])) | ((refine vCall_of (hH) ?_ ?_ ?_); (focus simp only [go_sem, fld, strs]); (focus exact rfl); (try simp only [go_sem])) | ((refine vDrawQ (by kernel_rfl) (by kernel_rfl) ?_); (try simp only [go_sem])))
  all_goals (simp_all [fitsF])
end Go.Proofs.Ytmnibpgmcgdfpaa
