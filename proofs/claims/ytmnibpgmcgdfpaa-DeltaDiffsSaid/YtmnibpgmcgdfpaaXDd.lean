/- Contracts of functions and laws of this seat, each for every input that it names: lemmas of the proof. -/
import Derived.Test.YtmnibpgmcgdfpaaXDb
import Derived.Test.YtmnibpgmcgdfpaaXAm
set_option linter.unusedSimpArgs false
set_option linter.unusedVariables false
set_option linter.unusedSimpArgs false
set_option linter.unusedVariables false
namespace Go.PL
open Go.RowKit
theorem wp_block_loop {P : Program} {id : Nat} {c : Code} {R : Act → World → Prop} {a : Act} {w : World} (h : (Code.loop c).wp P (fun e a w => e = .exit id ∧ R a w) a w) : (Code.block id (.loop c)).wp P (nrm R) a w :=
  wp_block (wp_mono h fun e a w ⟨he, hr⟩ => by subst he; simp [Exit.inBlock, nrm, hr])
theorem wp_block_nrm {P : Program} {id : Nat} {c : Code} {R : Act → World → Prop} {a : Act} {w : World} (h : c.wp P (nrm R) a w) : (Code.block id c).wp P (nrm R) a w :=
  wp_block (wp_mono h fun e a w ⟨he, hr⟩ => by subst he; exact ⟨rfl, hr⟩)
/-- a round of a loop: a test, then what is done, then the next number -/
theorem wp_round {P : Program} {id : Nat} {r : Code} {t : Operand} {y : Code} {b : Bool} {R K : Act → World → Prop} {T : Act → World → Prop} {a : Act} {w : World} (h1 : r.wp P (nrm T) a w) (hb : ∀ a w, T a w → a.eval t = .bool b)
    (h2 : b = true → ∀ a w, T a w → y.wp P (nrm K) a w) (h3 : b = false → ∀ a w, T a w → R a w) :
    (Code.seq (.seq r (.cond t .skip (.exit id))) y).wp P (Exit.then K fun e a w => e = .exit id ∧ R a w) a w := by
  refine wp_seq (wp_seqN h1 fun a w hT => ?_)
  cases b with
  | true => exact wp_cond_true (hb a w hT) (wp_skip (wp_mono (h2 rfl a w hT) fun e a w ⟨he, hk⟩ => by subst he; exact hk))
  | false => exact wp_cond_false (hb a w hT) (wp_exit ⟨rfl, h3 rfl a w hT⟩)
theorem cell_at {w : World} {b x : Nat} {vs : List Value} {t : TypeId} (hb : w.heap[b]? = some (Obj.cells ⟨vs⟩ t (0, 0))) (hx : x < vs.length) : w.cell? ⟨b, x, none⟩ = some (vs.getD x undef) := by
  rw [cell_of hb, List.getElem?_eq_getElem hx, getD_lt hx]
end Go.PL
namespace Go.Proofs.Ytmnibpgmcgdfpaa
open Go.PL Go.RowKit
/-- what the rounds leave alone -/
def DJ (f0 : Nat → Value) (n : Nat) (w0 : World) (f : Nat → Value) (w : World) : Prop := f 4 = f0 4 ∧ f 5 = f0 5 ∧ f 7 = f0 7 ∧ f 8 = f0 8 ∧ f 9 = f0 9 ∧ KeepW n w0 w
set_option maxRecDepth 100000 in
set_option maxHeartbeats 64000000 in
theorem diffs_tail (cs : List Cg) (hcl : cs.length ≤ 100000) (hel : ∀ c ∈ cs, c.l.length ≤ 100000 ∧ c.now.l.length ≤ 1000000) (n : Nat) (w0 : World) (f0 : Nat → Value) (hY : YCs n w0 (f0 9) cs) (c : Code) (hc : Try.f4.body = some c) (a0 : Act) (hR0 : RS 124 a0 f0) {Q : Exit → Act → World → Prop}
    (hend : ∀ a' w' f', RS 124 a' f' → f' 4 = f0 4 → f' 5 = f0 5 → f' 7 = f0 7 → f' 8 = f0 8 → KeepW n w0 w' → (dropC 1 (dropC 3 (dropC 4 c))).wp Try.prog Q a' w') : (dropC 3 (dropC 4 c)).wp Try.prog Q a0 w0 := by
  cases hc
  simp only [dropC] at hend ⊢
  refine wp_seqN (R := fun a' w' => ∃ f', RS 124 a' f' ∧ DJ f0 n w0 f' w') ?_ (fun a' w' ⟨f', h1, h2⟩ => hend a' w' f' h1 h2.1 h2.2.1 h2.2.2.1 h2.2.2.2.1 h2.2.2.2.2.2)
  refine wp_seqN (R := fun a' w' => w0 = w' ∧ RS 124 a' (upd f0 13 (.int .i64 0))) (wp_region ?_) ?_
  · refine ops_look hR0 rfl rfl rfl (by decide) (v := .int .i64 0) rx_assign fun a hR => ops_end ⟨rfl, rfl, hR⟩
  rintro a w ⟨rfl, hR⟩
  refine wp_block_loop (wp_loop_inv (fun m a w => ∃ (f : Nat → Value) (i : Nat), RS 124 a f ∧ DJ f0 n w0 f w ∧ f 13 = .int .i64 (i : Int) ∧ i ≤ cs.length ∧ m = cs.length - i) (fun a w h => by cases h.1) ?_ (m := cs.length) ⟨_, 0, hR, ⟨by simp [upd], by simp [upd], by simp [upd], by simp [upd], by simp [upd], .refl _ _⟩, by simp [upd], Nat.zero_le _, rfl⟩)
  rintro m a w ⟨f, i, hR, hJ, h13, hil, rfl⟩
  have h9 := hJ.2.2.2.2.1
  obtain ⟨A9, c9, hv9, hC⟩ := hY.keep hJ.2.2.2.2.2
  refine wp_round (T := fun a' w' => w = w' ∧ ∃ f', RS 124 a' f' ∧ DJ f0 n w0 f' w ∧ f' 13 = .int .i64 (i : Int) ∧ f' 66 = .bool (decide ((i : Int) < (cs.length : Int)))) (b := decide ((i : Int) < (cs.length : Int))) (wp_region ?_) (fun a' w' ⟨_, f', h1, _, _, h2⟩ => by rw [h1.tmp]; exact h2) ?_ ?_
  · refine ops_look hR rfl rfl rfl (by decide) (v := .int .i64 (i : Int)) (rx_move.trans (by rw [show a.eval (.tmp 13) = .int .i64 (i : Int) from (by rw [hR.tmp]; simp [upd, h9, h13])])) fun a hR => ?_
    refine ops_look hR rfl rfl rfl (by decide) (v := f0 9) (rx_move.trans (by rw [show a.eval (.tmp 9) = f0 9 from (by rw [hR.tmp]; simp [upd, h9, h13])])) fun a hR => ?_
    refine ops_look hR rfl rfl rfl (by decide) (v := .int .i64 (cs.length : Int)) (rx_len tlen_22 (by rw [hR.tmp]; simp [upd, h9]; exact hv9)) fun a hR => ?_
    refine ops_look hR rfl rfl rfl (by decide) (v := .bool (decide ((i : Int) < (cs.length : Int)))) (rx_lss (by rw [hR.tmp]; simp [upd, h9, h13]) (by rw [hR.tmp]; simp [upd, h9, h13])) fun a hR => ?_
    exact ops_end ⟨rfl, rfl, _, hR, ⟨by simp [upd, hJ.1], by simp [upd, hJ.2.1], by simp [upd, hJ.2.2.1], by simp [upd, hJ.2.2.2.1], by simp [upd, hJ.2.2.2.2.1], hJ.2.2.2.2.2⟩, (by simp [upd, h13]), (by simp [upd])⟩
  · rintro hlt a w1 ⟨rfl, f1, hR, hJ, h13, _⟩
    clear h9
    have h9' := hJ.2.2.2.2.1
    have hlt : i < cs.length := by have := of_decide_eq_true hlt; omega
    obtain ⟨b, o, vs, t, rfl, hbn, hb, hbl, hin⟩ := hC (by omega)
    obtain ⟨hT0, hE0⟩ := hin i hlt
    have hci := hel _ (getD_mem (d := default) hlt)
    have hil3 : o + i * 13 + 12 < vs.length := by omega
    have hi : i < cs.length := hlt
    have w1 : IntKind.i64.wrap ((i : Int) + 1) = ((i + 1 : Nat) : Int) := by rw [w64 (by omega)]; rfl
    generalize hTL : vs.getD (o + i * 13 + 11) undef = TL at hT0
    generalize hEL0 : vs.getD (o + i * 13 + 12) undef = EL at hE0
    generalize hN3 : (cs.getD i default).now.l.length = N3 at hT0 hci
    generalize hN2 : (cs.getD i default).l.length = N2 at hE0 hci
    have hkw0 := hJ.2.2.2.2.2
    -- what stands in the row of changes stays
    have cells : ∀ w2, KeepW n w w2 → w2.cell? ⟨b, o + i * 13 + 12, none⟩ = some EL ∧ w2.cell? ⟨b, o + i * 13 + 7 + 4, none⟩ = some TL := fun w2 hk => by
      obtain ⟨vs', e1, e2, e3⟩ := hk.k b vs t hb
      have q1 := e3 (o + i * 13 + 12)
      have q2 := e3 (o + i * 13 + 11)
      rw [hEL0] at q1
      rw [hTL] at q2
      obtain ⟨_, _, hs1, _⟩ := id hE0
      obtain ⟨_, _, hs2, _⟩ := id hT0
      rw [hs1] at q1
      rw [hs2] at q2
      refine ⟨?_, ?_⟩
      · rw [cell_at e1 (by omega), q1.slice, ← hs1]
      · have ee : o + i * 13 + 7 + 4 = o + i * 13 + 11 := by omega
        rw [ee, cell_at e1 (by omega), q2.slice, ← hs2]
    rw [hv9] at h9'
    have h9 := h9'
    refine wp_seqN (R := fun a' w' => ∃ f', RS 124 a' f' ∧ DJ f0 n w0 f' w' ∧ f' 13 = .int .i64 (i : Int)) (wp_block_nrm ?_) ?_
    · refine wp_seqN (R := fun a' w' => KeepW n w w' ∧ ∃ f', RS 124 a' f' ∧ DJ f0 n w0 f' w' ∧ f' 13 = .int .i64 (i : Int)) ?_ ?_
      · refine wp_seqN (R := fun a' w' => w = w' ∧ RS 124 a' (upd f1 14 (.int .i64 0))) (wp_region ?_) ?_
        · exact ops_look hR rfl rfl rfl (by decide) (v := .int .i64 0) rx_assign fun a hR => ops_end ⟨rfl, rfl, hR⟩
        rintro a w2 ⟨rfl, hR⟩
        refine wp_block_loop (wp_loop_inv (fun m a w' => ∃ (f : Nat → Value) (k : Nat), RS 124 a f ∧ DJ f0 n w0 f w' ∧ KeepW n w w' ∧ f 13 = .int .i64 (i : Int) ∧ f 14 = .int .i64 (k : Int) ∧ k ≤ N2 ∧ m = N2 - k) (fun a w h => by cases h.1) ?_ (m := N2) ⟨_, 0, hR, ⟨by simp [upd, hJ.1], by simp [upd, hJ.2.1], by simp [upd, hJ.2.2.1], by simp [upd, hJ.2.2.2.1], by simp [upd, hJ.2.2.2.2.1], hkw0⟩, .refl _ _, (by simp [upd, h13]), (by simp [upd]), Nat.zero_le _, rfl⟩)
        rintro m a w2 ⟨f, k, hR, hJ, hkw, h13, h14, hkl, rfl⟩
        have h9 := hJ.2.2.2.2.1
        rw [hv9] at h9
        have hce := (cells w2 hkw).1
        have hct := (cells w2 hkw).2
        have hW := hE0.keep hkw
        refine wp_round (T := fun a' w' => w2 = w' ∧ ∃ f', RS 124 a' f' ∧ DJ f0 n w0 f' w2 ∧ f' 13 = .int .i64 (i : Int) ∧ f' 14 = .int .i64 (k : Int) ∧ f' 76 = .bool (decide ((k : Int) < (N2 : Int)))) (b := decide ((k : Int) < (N2 : Int))) (wp_region ?_) (fun a' w' ⟨_, f', h1, _, _, _, h2⟩ => by rw [h1.tmp]; exact h2) ?_ ?_
        · obtain ⟨_, _, hEL, _⟩ := id hW
          refine ops_look hR rfl rfl rfl (by decide) (v := .int .i64 (k : Int)) (rx_move.trans (by rw [show a.eval (.tmp 14) = .int .i64 (k : Int) from (by rw [hR.tmp]; simp [upd, h9, h13, h14])])) fun a hR => ?_
          refine ops_look hR rfl rfl rfl (by decide) (v := .slice (some ⟨b, o, none⟩) cs.length c9) (rx_move.trans (by rw [show a.eval (.tmp 9) = .slice (some ⟨b, o, none⟩) cs.length c9 from (by rw [hR.tmp]; simp [upd, h9, h13, h14])])) fun a hR => ?_
          refine ops_look hR rfl rfl rfl (by decide) (v := .int .i64 (i : Int)) (rx_move.trans (by rw [show a.eval (.tmp 13) = .int .i64 (i : Int) from (by rw [hR.tmp]; simp [upd, h9, h13, h14])])) fun a hR => ?_
          refine ops_look hR rfl rfl rfl (by decide) (v := .pointer (some ⟨b, o + i * 13, none⟩)) (rx_index (c := c9) tix_22 (by rw [hR.tmp]; simp [upd, h9, h13, h14]) (by rw [hR.tmp]; simp [upd, h9, h13, h14]) hi) fun a hR => ?_
          refine ops_look hR rfl rfl rfl (by decide) (v := .pointer (some ⟨b, o + i * 13 + 12, none⟩)) (rx_field tfld_30_4 (by decide) (by rw [hR.tmp]; simp [upd, h9, h13, h14])) fun a hR => ?_
          refine ops_look hR rfl rfl rfl (by decide) (v := EL) (rx_load tkn_28 tagg_28 (by rw [hR.tmp]; simp [upd, h9, h13, h14]) hce) fun a hR => ?_
          refine ops_look hR rfl rfl rfl (by decide) (v := .int .i64 (N2 : Int)) (rx_len tlen_28 (by rw [hR.tmp]; simp [upd]; exact hEL)) fun a hR => ?_
          refine ops_look hR rfl rfl rfl (by decide) (v := .bool (decide ((k : Int) < (N2 : Int)))) (rx_lss (by rw [hR.tmp]; simp [upd, h9, h13, h14]) (by rw [hR.tmp]; simp [upd, h9, h13, h14])) fun a hR => ?_
          exact ops_end ⟨rfl, rfl, _, hR, ⟨by simp [upd, hJ.1], by simp [upd, hJ.2.1], by simp [upd, hJ.2.2.1], by simp [upd, hJ.2.2.2.1], by simp [upd, hJ.2.2.2.2.1], hJ.2.2.2.2.2⟩, (by simp [upd, h13]), (by simp [upd, h14]), (by simp [upd])⟩
        · rintro hlt2 a w3 ⟨rfl, f2, hR, hJ, h13, h14, _⟩
          have hlt2 : k < N2 := by have := of_decide_eq_true hlt2; omega
          have h9 := hJ.2.2.2.2.1
          rw [hv9] at h9
          have hk2 := hlt2
          have w1 : IntKind.i64.wrap ((k : Int) + 1) = ((k + 1 : Nat) : Int) := by rw [w64 (by omega)]; rfl
          obtain ⟨A2, c2, hEL2, hW⟩ := hW
          obtain ⟨b2, o2, vs2, t2, rfl, hb2n, hb2, hb2l, hin2⟩ := hW (by omega)
          obtain ⟨m0, hm0⟩ := hin2 k hlt2
          refine wp_seqN (R := fun a' w' => KeepW n w w' ∧ ∃ f', RS 124 a' f' ∧ DJ f0 n w0 f' w' ∧ f' 13 = .int .i64 (i : Int) ∧ f' 14 = .int .i64 (k : Int)) (wp_block_nrm ?_) ?_
          · have hcn : w2.cell? ⟨b2, o2 + k * 5 + 3, none⟩ = some (.int .i64 m0) := by rw [cell_at hb2 (by omega), hm0]
            refine wp_region_one (l := [_, _, _, _, _, _, _, _, _, _, _, _, _, _, _, _, _, _]) rfl (by kernel_rfl) (by kernel_rfl) rfl (fun c a w h => by cases h.1) ?_
            refine held_look hR rfl rfl (by decide) (v := .slice (some ⟨b, o, none⟩) cs.length c9) (rx_move.trans (by rw [show a.eval (.tmp 9) = .slice (some ⟨b, o, none⟩) cs.length c9 from (by rw [hR.tmp]; simp [upd, h9, h13, h14])])) fun a hR => ?_
            refine held_look hR rfl rfl (by decide) (v := .int .i64 (i : Int)) (rx_move.trans (by rw [show a.eval (.tmp 13) = .int .i64 (i : Int) from (by rw [hR.tmp]; simp [upd, h9, h13, h14])])) fun a hR => ?_
            refine held_look hR rfl rfl (by decide) (v := .pointer (some ⟨b, o + i * 13, none⟩)) (rx_index (c := c9) tix_22 (by rw [hR.tmp]; simp [upd, h9, h13, h14]) (by rw [hR.tmp]; simp [upd, h9, h13, h14]) hi) fun a hR => ?_
            refine held_look hR rfl rfl (by decide) (v := .pointer (some ⟨b, o + i * 13 + 12, none⟩)) (rx_field tfld_30_4 (by decide) (by rw [hR.tmp]; simp [upd, h9, h13, h14])) fun a hR => ?_
            refine held_look hR rfl rfl (by decide) (v := EL) (rx_load tkn_28 tagg_28 (by rw [hR.tmp]; simp [upd, h9, h13, h14]) hce) fun a hR => ?_
            refine held_look hR rfl rfl (by decide) (v := .int .i64 (k : Int)) (rx_move.trans (by rw [show a.eval (.tmp 14) = .int .i64 (k : Int) from (by rw [hR.tmp]; simp [upd, h9, h13, h14])])) fun a hR => ?_
            refine held_look hR rfl rfl (by decide) (v := .slice (some ⟨b, o, none⟩) cs.length c9) (rx_move.trans (by rw [show a.eval (.tmp 9) = .slice (some ⟨b, o, none⟩) cs.length c9 from (by rw [hR.tmp]; simp [upd, h9, h13, h14])])) fun a hR => ?_
            refine held_look hR rfl rfl (by decide) (v := .int .i64 (i : Int)) (rx_move.trans (by rw [show a.eval (.tmp 13) = .int .i64 (i : Int) from (by rw [hR.tmp]; simp [upd, h9, h13, h14])])) fun a hR => ?_
            refine held_look hR rfl rfl (by decide) (v := .pointer (some ⟨b, o + i * 13, none⟩)) (rx_index (c := c9) tix_22 (by rw [hR.tmp]; simp [upd, h9, h13, h14]) (by rw [hR.tmp]; simp [upd, h9, h13, h14]) hi) fun a hR => ?_
            refine held_look hR rfl rfl (by decide) (v := .pointer (some ⟨b, o + i * 13 + 12, none⟩)) (rx_field tfld_30_4 (by decide) (by rw [hR.tmp]; simp [upd, h9, h13, h14])) fun a hR => ?_
            refine held_look hR rfl rfl (by decide) (v := EL) (rx_load tkn_28 tagg_28 (by rw [hR.tmp]; simp [upd, h9, h13, h14]) hce) fun a hR => ?_
            refine held_look hR rfl rfl (by decide) (v := .int .i64 (k : Int)) (rx_move.trans (by rw [show a.eval (.tmp 14) = .int .i64 (k : Int) from (by rw [hR.tmp]; simp [upd, h9, h13, h14])])) fun a hR => ?_
            refine held_look hR rfl rfl (by decide) (v := .pointer (some ⟨b2, o2 + k * 5, none⟩)) (rx_index tix_28 (by rw [hR.tmp]; simp [upd]; exact hEL2) (by rw [hR.tmp]; simp [upd, h9, h13, h14]) hk2) fun a hR => ?_
            refine held_look hR rfl rfl (by decide) (v := .pointer (some ⟨b2, o2 + k * 5 + 3, none⟩)) (rx_field tfld_27_1 (by decide) (by rw [hR.tmp]; simp [upd, h9, h13, h14])) fun a hR => ?_
            refine held_look hR rfl rfl (by decide) (v := .int .i64 m0) (rx_load tkn_2 tagg_2 (by rw [hR.tmp]; simp [upd, h9, h13, h14]) hcn) fun a hR => ?_
            refine held_look hR rfl rfl (by decide) (v := .int .i64 (xorV m0 1)) (rx_xor_eq (by rw [hR.tmp]; simp [upd, h9, h13, h14]) rfl) fun a hR => ?_
            refine held_look hR rfl rfl (by decide) (v := .pointer (some ⟨b2, o2 + k * 5, none⟩)) (rx_index tix_28 (by rw [hR.tmp]; simp [upd]; exact hEL2) (by rw [hR.tmp]; simp [upd, h9, h13, h14]) hk2) fun a hR => ?_
            refine held_look hR rfl rfl (by decide) (v := .pointer (some ⟨b2, o2 + k * 5 + 3, none⟩)) (rx_field tfld_27_1 (by decide) (by rw [hR.tmp]; simp [upd, h9, h13, h14])) fun a hR => ?_
            refine op_store hR rfl (rx_store (v := .int .i64 (xorV m0 1)) (o := o2 + k * 5 + 3) tkn_2 tsz_2 (by rw [hR.tmp]; simp [upd, h9, h13, h14]) (by rw [hR.tmp]; simp [upd, h9, h13, h14]) rfl rfl hb2 (by omega)) fun a hR => ?_
            have hks : KeepW n w2 _ := (KeepW.drew w2).trans (KeepW.store (w := { w2 with drawn := w2.drawn + 1 }) (v := .int .i64 (xorV m0 1)) hb2n hb2 (show o2 + k * 5 + 3 < vs2.length by omega) (by rw [hm0]; exact .inr (.inl ⟨_, _, rfl, rfl⟩)))
            exact ⟨rfl, hkw.trans hks, _, hR, ⟨by simp [upd, hJ.1], by simp [upd, hJ.2.1], by simp [upd, hJ.2.2.1], by simp [upd, hJ.2.2.2.1], by simp [upd, hJ.2.2.2.2.1], hJ.2.2.2.2.2.trans hks⟩, (by simp [upd, h13]), (by simp [upd, h14])⟩
          · rintro a w4 ⟨hkw4, f3, hR, hJ, h13, h14⟩
            refine wp_region ?_
            refine ops_look hR rfl rfl rfl (by decide) (v := .int .i64 (k : Int)) (rx_move.trans (by rw [show a.eval (.tmp 14) = .int .i64 (k : Int) from (by rw [hR.tmp]; simp [upd, h9, h13, h14])])) fun a hR => ?_
            refine ops_look hR rfl rfl rfl (by decide) (v := .int .i64 ((k + 1 : Nat) : Int)) ((rx_add (m := (k : Int)) (n := 1) (by rw [hR.tmp]; simp [upd, h9, h13, h14]) rfl).trans (by rw [w1])) fun a hR => ?_
            refine ops_look hR rfl rfl rfl (by decide) (v := .int .i64 ((k + 1 : Nat) : Int)) (rx_assign.trans (by rw [show a.eval (.tmp 78) = .int .i64 ((k + 1 : Nat) : Int) from (by rw [hR.tmp]; simp [upd, h9, h13, h14])])) fun a hR => ?_
            exact ops_end ⟨rfl, _, by omega, _, k + 1, hR, ⟨by simp [upd, hJ.1], by simp [upd, hJ.2.1], by simp [upd, hJ.2.2.1], by simp [upd, hJ.2.2.2.1], by simp [upd, hJ.2.2.2.2.1], hJ.2.2.2.2.2⟩, hkw4, (by simp [upd, h13]), (by simp [upd]), by omega, rfl⟩
        · rintro hge a w3 ⟨rfl, f2, hR, hJ, h13, h14, _⟩
          exact ⟨hkw, f2, hR, hJ, h13⟩
      · rintro a w2 ⟨hkw1, f2, hR, hJ, h13⟩
        refine wp_seqN (R := fun a' w' => w2 = w' ∧ RS 124 a' (upd f2 15 (.int .i64 0))) (wp_region ?_) ?_
        · exact ops_look hR rfl rfl rfl (by decide) (v := .int .i64 0) rx_assign fun a hR => ops_end ⟨rfl, rfl, hR⟩
        rintro a w3 ⟨rfl, hR⟩
        refine wp_block_loop (wp_loop_inv (fun m a w' => ∃ (f : Nat → Value) (k : Nat), RS 124 a f ∧ DJ f0 n w0 f w' ∧ KeepW n w w' ∧ f 13 = .int .i64 (i : Int) ∧ f 15 = .int .i64 (k : Int) ∧ k ≤ N3 ∧ m = N3 - k) (fun a w h => by cases h.1) ?_ (m := N3) ⟨_, 0, hR, ⟨by simp [upd, hJ.1], by simp [upd, hJ.2.1], by simp [upd, hJ.2.2.1], by simp [upd, hJ.2.2.2.1], by simp [upd, hJ.2.2.2.2.1], hJ.2.2.2.2.2⟩, hkw1, (by simp [upd, h13]), (by simp [upd]), Nat.zero_le _, rfl⟩)
        rintro m a w2 ⟨f, k, hR, hJ, hkw, h13, h15, hkl, rfl⟩
        have h9 := hJ.2.2.2.2.1
        rw [hv9] at h9
        have hce := (cells w2 hkw).1
        have hct := (cells w2 hkw).2
        have hW := hT0.keep hkw
        refine wp_round (T := fun a' w' => w2 = w' ∧ ∃ f', RS 124 a' f' ∧ DJ f0 n w0 f' w2 ∧ f' 13 = .int .i64 (i : Int) ∧ f' 15 = .int .i64 (k : Int) ∧ f' 105 = .bool (decide ((k : Int) < (N3 : Int)))) (b := decide ((k : Int) < (N3 : Int))) (wp_region ?_) (fun a' w' ⟨_, f', h1, _, _, _, h2⟩ => by rw [h1.tmp]; exact h2) ?_ ?_
        · obtain ⟨_, _, hTL, _⟩ := id hW
          refine ops_look hR rfl rfl rfl (by decide) (v := .int .i64 (k : Int)) (rx_move.trans (by rw [show a.eval (.tmp 15) = .int .i64 (k : Int) from (by rw [hR.tmp]; simp [upd, h9, h13, h15])])) fun a hR => ?_
          refine ops_look hR rfl rfl rfl (by decide) (v := .slice (some ⟨b, o, none⟩) cs.length c9) (rx_move.trans (by rw [show a.eval (.tmp 9) = .slice (some ⟨b, o, none⟩) cs.length c9 from (by rw [hR.tmp]; simp [upd, h9, h13, h15])])) fun a hR => ?_
          refine ops_look hR rfl rfl rfl (by decide) (v := .int .i64 (i : Int)) (rx_move.trans (by rw [show a.eval (.tmp 13) = .int .i64 (i : Int) from (by rw [hR.tmp]; simp [upd, h9, h13, h15])])) fun a hR => ?_
          refine ops_look hR rfl rfl rfl (by decide) (v := .pointer (some ⟨b, o + i * 13, none⟩)) (rx_index (c := c9) tix_22 (by rw [hR.tmp]; simp [upd, h9, h13, h15]) (by rw [hR.tmp]; simp [upd, h9, h13, h15]) hi) fun a hR => ?_
          refine ops_look hR rfl rfl rfl (by decide) (v := .pointer (some ⟨b, o + i * 13 + 7, none⟩)) (rx_field tfld_30_3 (by decide) (by rw [hR.tmp]; simp [upd, h9, h13, h15])) fun a hR => ?_
          refine ops_look hR rfl rfl rfl (by decide) (v := .pointer (some ⟨b, o + i * 13 + 7 + 4, none⟩)) (rx_field tfld_27_2 (by decide) (by rw [hR.tmp]; simp [upd, h9, h13, h15])) fun a hR => ?_
          refine ops_look hR rfl rfl rfl (by decide) (v := TL) (rx_load tkn_25 tagg_25 (by rw [hR.tmp]; simp [upd, h9, h13, h15]) hct) fun a hR => ?_
          refine ops_look hR rfl rfl rfl (by decide) (v := .int .i64 (N3 : Int)) (rx_len tlen_25 (by rw [hR.tmp]; simp [upd]; exact hTL)) fun a hR => ?_
          refine ops_look hR rfl rfl rfl (by decide) (v := .bool (decide ((k : Int) < (N3 : Int)))) (rx_lss (by rw [hR.tmp]; simp [upd, h9, h13, h15]) (by rw [hR.tmp]; simp [upd, h9, h13, h15])) fun a hR => ?_
          exact ops_end ⟨rfl, rfl, _, hR, ⟨by simp [upd, hJ.1], by simp [upd, hJ.2.1], by simp [upd, hJ.2.2.1], by simp [upd, hJ.2.2.2.1], by simp [upd, hJ.2.2.2.2.1], hJ.2.2.2.2.2⟩, (by simp [upd, h13]), (by simp [upd, h15]), (by simp [upd])⟩
        · rintro hlt2 a w3 ⟨rfl, f2, hR, hJ, h13, h15, _⟩
          have hlt2 : k < N3 := by have := of_decide_eq_true hlt2; omega
          have h9 := hJ.2.2.2.2.1
          rw [hv9] at h9
          have hk2 := hlt2
          have w1 : IntKind.i64.wrap ((k : Int) + 1) = ((k + 1 : Nat) : Int) := by rw [w64 (by omega)]; rfl
          obtain ⟨A2, c2, hTL2, hW⟩ := hW
          obtain ⟨b3, o3, vs2, t2, rfl, hb2n, hb2, hb2l, hin2⟩ := hW (by omega)
          obtain ⟨m0, hm0⟩ := hin2 k hlt2
          refine wp_seqN (R := fun a' w' => KeepW n w w' ∧ ∃ f', RS 124 a' f' ∧ DJ f0 n w0 f' w' ∧ f' 13 = .int .i64 (i : Int) ∧ f' 15 = .int .i64 (k : Int)) (wp_block_nrm ?_) ?_
          · refine wp_region ?_
            refine ops_look hR rfl rfl rfl (by decide) (v := .slice (some ⟨b, o, none⟩) cs.length c9) (rx_move.trans (by rw [show a.eval (.tmp 9) = .slice (some ⟨b, o, none⟩) cs.length c9 from (by rw [hR.tmp]; simp [upd, h9, h13, h15])])) fun a hR => ?_
            refine ops_look hR rfl rfl rfl (by decide) (v := .int .i64 (i : Int)) (rx_move.trans (by rw [show a.eval (.tmp 13) = .int .i64 (i : Int) from (by rw [hR.tmp]; simp [upd, h9, h13, h15])])) fun a hR => ?_
            refine ops_look hR rfl rfl rfl (by decide) (v := .pointer (some ⟨b, o + i * 13, none⟩)) (rx_index (c := c9) tix_22 (by rw [hR.tmp]; simp [upd, h9, h13, h15]) (by rw [hR.tmp]; simp [upd, h9, h13, h15]) hi) fun a hR => ?_
            refine ops_look hR rfl rfl rfl (by decide) (v := .pointer (some ⟨b, o + i * 13 + 7, none⟩)) (rx_field tfld_30_3 (by decide) (by rw [hR.tmp]; simp [upd, h9, h13, h15])) fun a hR => ?_
            refine ops_look hR rfl rfl rfl (by decide) (v := .pointer (some ⟨b, o + i * 13 + 7 + 4, none⟩)) (rx_field tfld_27_2 (by decide) (by rw [hR.tmp]; simp [upd, h9, h13, h15])) fun a hR => ?_
            refine ops_look hR rfl rfl rfl (by decide) (v := TL) (rx_load tkn_25 tagg_25 (by rw [hR.tmp]; simp [upd, h9, h13, h15]) hct) fun a hR => ?_
            refine ops_look hR rfl rfl rfl (by decide) (v := .int .i64 (k : Int)) (rx_move.trans (by rw [show a.eval (.tmp 15) = .int .i64 (k : Int) from (by rw [hR.tmp]; simp [upd, h9, h13, h15])])) fun a hR => ?_
            refine ops_look hR rfl rfl rfl (by decide) (v := .pointer (some ⟨b3, o3 + k * 1, none⟩)) (rx_index tix_25 (by rw [hR.tmp]; simp [upd]; exact hTL2) (by rw [hR.tmp]; simp [upd, h9, h13, h15]) hk2) fun a hR => ?_
            refine ops_store hR rfl rfl rfl (rx_store (v := .string ⟨⟨[63]⟩⟩) (o := o3 + k * 1) tkn_9 tsz_9 (by rw [hR.tmp]; simp [upd, h9, h13, h15]) rfl rfl rfl hb2 (by omega)) fun a hR => ops_end ?_
            have ek : o3 + k * 1 = o3 + k := by omega
            have hks : KeepW n w2 _ := KeepW.store (v := .string ⟨⟨[63]⟩⟩) hb2n hb2 (show o3 + k * 1 < vs2.length by omega) (by rw [ek, hm0]; exact .inr (.inr ⟨_, _, rfl, rfl⟩))
            exact ⟨rfl, hkw.trans hks, _, hR, ⟨by simp [upd, hJ.1], by simp [upd, hJ.2.1], by simp [upd, hJ.2.2.1], by simp [upd, hJ.2.2.2.1], by simp [upd, hJ.2.2.2.2.1], hJ.2.2.2.2.2.trans hks⟩, (by simp [upd, h13]), (by simp [upd, h15])⟩
          · rintro a w4 ⟨hkw4, f3, hR, hJ, h13, h15⟩
            refine wp_region ?_
            refine ops_look hR rfl rfl rfl (by decide) (v := .int .i64 (k : Int)) (rx_move.trans (by rw [show a.eval (.tmp 15) = .int .i64 (k : Int) from (by rw [hR.tmp]; simp [upd, h9, h13, h15])])) fun a hR => ?_
            refine ops_look hR rfl rfl rfl (by decide) (v := .int .i64 ((k + 1 : Nat) : Int)) ((rx_add (m := (k : Int)) (n := 1) (by rw [hR.tmp]; simp [upd, h9, h13, h15]) rfl).trans (by rw [w1])) fun a hR => ?_
            refine ops_look hR rfl rfl rfl (by decide) (v := .int .i64 ((k + 1 : Nat) : Int)) (rx_assign.trans (by rw [show a.eval (.tmp 107) = .int .i64 ((k + 1 : Nat) : Int) from (by rw [hR.tmp]; simp [upd, h9, h13, h15])])) fun a hR => ?_
            exact ops_end ⟨rfl, _, by omega, _, k + 1, hR, ⟨by simp [upd, hJ.1], by simp [upd, hJ.2.1], by simp [upd, hJ.2.2.1], by simp [upd, hJ.2.2.2.1], by simp [upd, hJ.2.2.2.2.1], hJ.2.2.2.2.2⟩, hkw4, (by simp [upd, h13]), (by simp [upd]), by omega, rfl⟩
        · rintro hge a w3 ⟨rfl, f2, hR, hJ, h13, h15, _⟩
          exact ⟨f2, hR, hJ, h13⟩
    · rintro a w2 ⟨f2, hR, hJ, h13⟩
      have h9 := h9'
      refine wp_region ?_
      refine ops_look hR rfl rfl rfl (by decide) (v := .int .i64 (i : Int)) (rx_move.trans (by rw [show a.eval (.tmp 13) = .int .i64 (i : Int) from (by rw [hR.tmp]; simp [upd, h13])])) fun a hR => ?_
      refine ops_look hR rfl rfl rfl (by decide) (v := .int .i64 ((i + 1 : Nat) : Int)) ((rx_add (m := (i : Int)) (n := 1) (by rw [hR.tmp]; simp [upd, h13]) rfl).trans (by rw [w1])) fun a hR => ?_
      refine ops_look hR rfl rfl rfl (by decide) (v := .int .i64 ((i + 1 : Nat) : Int)) (rx_assign.trans (by rw [show a.eval (.tmp 68) = .int .i64 ((i + 1 : Nat) : Int) from (by rw [hR.tmp]; simp [upd, h13])])) fun a hR => ?_
      exact ops_end ⟨rfl, _, by omega, _, i + 1, hR, ⟨by simp [upd, hJ.1], by simp [upd, hJ.2.1], by simp [upd, hJ.2.2.1], by simp [upd, hJ.2.2.2.1], by simp [upd, hJ.2.2.2.2.1], hJ.2.2.2.2.2⟩, (by simp [upd]), by omega, rfl⟩
  · rintro hge a w1 ⟨rfl, f1, hR, hJ, h13, _⟩
    exact ⟨f1, hR, hJ⟩
end Go.Proofs.Ytmnibpgmcgdfpaa

set_option linter.unusedSimpArgs false
set_option linter.unusedVariables false
set_option linter.unusedSimpArgs false
set_option linter.unusedVariables false
namespace Go.Proofs.Ytmnibpgmcgdfpaa
open Go.PL Go.RowKit
theorem nofr_strs (l : List Str) : PV.nofrL (l.map .str) = true := nofrL_of fun c hc => by obtain ⟨x, _, rfl⟩ := List.mem_map.1 hc; rfl
theorem nofr_ents (l : List En) : PV.nofrL (l.map ent) = true := nofrL_of fun c hc => by
  obtain ⟨x, _, rfl⟩ := List.mem_map.1 hc
  simp [ent, PV.nofr, PV.nofrL, nofr_strs]
theorem nofr_rows (l : List Rw) : PV.nofrL (l.map row) = true := nofrL_of fun c hc => by
  obtain ⟨x, _, rfl⟩ := List.mem_map.1 hc
  simp [row, PV.nofr, PV.nofrL, nofr_ents]
theorem nofr_flds (l : List Fd) : (flds l).nofr = true := by
  have : PV.nofrL (l.map fld) = true := nofrL_of fun c hc => by
    obtain ⟨x, _, rfl⟩ := List.mem_map.1 hc
    simp [fld, PV.nofr, PV.nofrL, nofr_strs]
  simp [flds, PV.nofr, this]
/-- a document's cells -/
def docc (d : Dc) : List PV := [.sl .no (d.head.map ent), .sl .no (d.rows.map row)]
theorem docc_nofr (d : Dc) : PV.nofrL (docc d) = true := by simp [docc, PV.nofr, PV.nofrL, nofr_ents, nofr_rows]
theorem docc_ids (d : Dc) : ∀ p ∈ docc d, p.ids = [] := fun p hp => by
  simp only [docc, List.mem_cons, List.not_mem_nil, or_false] at hp
  rcases hp with rfl | rfl <;> rfl
theorem pub_docc {m : Hp} {i : Nat} {d : Dc} (hh : m.h i = some (docc d)) (hz : m.z i = false) : Pub (fun _ => False) m (.ptr i 0) (.rptr (docc d)) := by
  have := Pub.blk (K := fun _ => False) (m := m) i 0 (docc d) (docc d) (by simp) hh hz rfl (docc_ids d) fun j hj => .clean (docc_ids d _ (getD_mem hj))
  simpa using this
theorem dull_strs (l : List Str) : PV.dullL (l.map .str) = l.map .str := by rw [PV.dullL_map, List.map_map]; rfl
theorem dull_entF (e : En) : (entF e).dull = ent e := by simp [entF, ent, PV.dull, PV.dullL, PV.frl, dull_strs]
theorem dull_entsF (l : List En) : PV.dullL (l.map entF) = l.map ent := by
  rw [PV.dullL_map, List.map_map]; exact List.map_congr_left fun e _ => dull_entF e
theorem dull_chgF (c : Cg) : (chgF c).dull = chg c := by simp [chgF, chg, PV.dull, PV.dullL, PV.frl, dull_strs, dull_entsF]
theorem dull_chgsF (l : List Cg) : (chgsF l).dull = chgs l := by
  simp only [chgsF, chgs, PV.dull, PV.dullL_map, List.map_map]
  congr 1
  exact List.map_congr_left fun e _ => dull_chgF e
theorem dull_ent (e : En) : (ent e).dull = ent e := by simp [ent, PV.dull, PV.dullL, dull_strs]
theorem dull_ents (l : List En) : PV.dullL (l.map ent) = l.map ent := by
  rw [PV.dullL_map, List.map_map]; exact List.map_congr_left fun e _ => dull_ent e
theorem dull_chg (c : Cg) : (chg c).dull = chg c := by simp [chg, PV.dull, PV.dullL, dull_strs, dull_ents]
theorem dull_chgs (l : List Cg) : (chgs l).dull = chgs l := by
  simp only [chgs, PV.dull, PV.dullL_map, List.map_map]
  congr 1
  exact List.map_congr_left fun e _ => dull_chg e
/-! the difference is small -/
def okR (r : Rw) : Prop := r.l.length ≤ 100000 ∧ ∀ e ∈ r.l, e.l.length ≤ 1000000
theorem getD_len {l : List En} {i : Nat} (h : ∀ e ∈ l, e.l.length ≤ 1000000) : (l.getD i default).l.length ≤ 1000000 := by
  by_cases hi : i < l.length
  · exact h _ (getD_mem' hi)
  · rw [getD_ge (by omega)]; exact Nat.zero_le _
theorem others_fineB {it : Str} {a b : List En} (ha : ∀ e ∈ a, e.l.length ≤ 1000000) (hb : ∀ e ∈ b, e.l.length ≤ 1000000) : ∀ c ∈ othersL it a b, FineB c := fun c hc => by
  obtain ⟨i, _, rfl⟩ := List.mem_map.1 hc
  exact ⟨getD_len ha, getD_len hb, Nat.zero_le _, fun e h => by cases h⟩
theorem diffR_fine : ∀ (n : Nat) (P Q : List Rw), P.length + Q.length ≤ n → (∀ r ∈ P, okR r) → (∀ r ∈ Q, okR r) → ∀ c ∈ diffR P Q, FineB c
  | _, [], [], _, _, _ => by rw [diffR]; simp
  | 0, p :: ps, Q, h, _, _ => by simp at h
  | 0, [], q :: qs, h, _, _ => by simp at h
  | n + 1, p :: ps, [], h, hP, hQ => fun c hc => by
    rw [diffR, List.mem_cons] at hc
    rcases hc with rfl | hc
    · exact ⟨Nat.zero_le _, Nat.zero_le _, (hP p (by simp)).1, (hP p (by simp)).2⟩
    · exact diffR_fine n ps [] (by simp at h ⊢; omega) (fun r hr => hP r (by simp [hr])) hQ c hc
  | n + 1, [], q :: qs, h, hP, hQ => fun c hc => by
    rw [diffR, List.mem_cons] at hc
    rcases hc with rfl | hc
    · exact ⟨Nat.zero_le _, Nat.zero_le _, (hQ q (by simp)).1, (hQ q (by simp)).2⟩
    · exact diffR_fine n [] qs (by simp at h ⊢; omega) hP (fun r hr => hQ r (by simp [hr])) c hc
  | n + 1, p :: ps, q :: qs, h, hP, hQ => fun c hc => by
    have hP' : ∀ r ∈ ps, okR r := fun r hr => hP r (by simp [hr])
    have hQ' : ∀ r ∈ qs, okR r := fun r hr => hQ r (by simp [hr])
    rw [diffR] at hc
    split at hc
    · rcases List.mem_cons.1 hc with rfl | hc
      · exact ⟨Nat.zero_le _, Nat.zero_le _, (hP p (by simp)).1, (hP p (by simp)).2⟩
      · exact diffR_fine n ps (q :: qs) (by simp at h ⊢; omega) hP' hQ c hc
    · split at hc
      · rcases List.mem_cons.1 hc with rfl | hc
        · exact ⟨Nat.zero_le _, Nat.zero_le _, (hQ q (by simp)).1, (hQ q (by simp)).2⟩
        · exact diffR_fine n (p :: ps) qs (by simp at h ⊢; omega) hP hQ' c hc
      · rcases List.mem_append.1 hc with hc | hc
        · exact others_fineB (hP p (by simp)).2 (hQ q (by simp)).2 c hc
        · exact diffR_fine n ps qs (by simp at h ⊢; omega) hP' hQ' c hc
theorem diffR_len : ∀ (n : Nat) (P Q : List Rw), P.length + Q.length ≤ n → (∀ r ∈ P, r.l.length ≤ 40) → (diffR P Q).length ≤ 41 * n
  | n, [], [], _, _ => by rw [diffR]; simp
  | 0, p :: ps, Q, h, _ => by simp at h
  | 0, [], q :: qs, h, _ => by simp at h
  | n + 1, p :: ps, [], h, hP => by
    rw [diffR, List.length_cons]
    have := diffR_len n ps [] (by simp at h ⊢; omega) (fun r hr => hP r (by simp [hr]))
    omega
  | n + 1, [], q :: qs, h, hP => by
    rw [diffR, List.length_cons]
    have := diffR_len n [] qs (by simp at h ⊢; omega) hP
    omega
  | n + 1, p :: ps, q :: qs, h, hP => by
    have hP' : ∀ r ∈ ps, r.l.length ≤ 40 := fun r hr => hP r (by simp [hr])
    rw [diffR]
    split
    · rw [List.length_cons]
      have := diffR_len n ps (q :: qs) (by simp at h ⊢; omega) hP'
      omega
    · split
      · rw [List.length_cons]
        have := diffR_len n (p :: ps) qs (by simp at h ⊢; omega) hP
        omega
      · rw [List.length_append]
        have h1 := diffR_len n ps qs (by simp at h ⊢; omega) hP'
        have h2 := othersL_len q.item p.l q.l
        have h3 := hP p (by simp)
        omega
structure SmallD (d : Dc) : Prop where
  h : d.head.length ≤ 40
  r : d.rows.length ≤ 410
  e : ∀ e ∈ d.head, e.l.length ≤ 410
  s : ∀ r ∈ d.rows, r.l.length ≤ 40 ∧ ∀ e ∈ r.l, e.l.length ≤ 410
theorem smallD {d : Dc} (h : heavyD d = false) : SmallD d := by
  simp only [heavyD, Bool.or_eq_false_iff, List.any_eq_false, decide_eq_false_iff_not] at h
  obtain ⟨h1, h2⟩ := heavyEs_len37 h.2.1
  refine ⟨h1, by omega, h2, fun r hr => ?_⟩
  have h3 : rowH r = false := by simpa using h.2.2 r hr
  simp only [rowH, Bool.or_eq_false_iff] at h3
  exact heavyEs_len37 h3.2
theorem SmallD.ok {d : Dc} (h : SmallD d) : OkDd d := ⟨by have := h.h; omega, by have := h.r; omega, fun e he => by have := h.e e he; omega, fun r hr => ⟨by have := (h.s r hr).1; omega, fun e he => by have := (h.s r hr).2 e he; omega⟩⟩
theorem diffM_small {l : List Fd} {a b : Dc} (ha : SmallD a) (hb : SmallD b) : (diffM l a b).1.length ≤ 100000 ∧ ∀ c ∈ (diffM l a b).1, FineB c := by
  unfold diffM
  split
  · exact ⟨Nat.zero_le _, fun c hc => by cases hc⟩
  · have h1 := othersL_len [] a.head b.head
    have h2 := diffR_len _ a.rows b.rows (Nat.le_refl _) (fun r hr => (ha.s r hr).1)
    have h3 := ha.h
    have h4 := ha.r
    have h5 := hb.r
    refine ⟨by simp only [List.length_append]; omega, fun c hc => ?_⟩
    rcases List.mem_append.1 hc with hc | hc
    · exact others_fineB ha.ok.e hb.ok.e c hc
    · exact diffR_fine _ a.rows b.rows (Nat.le_refl _) ha.ok.s hb.ok.s c hc
end Go.Proofs.Ytmnibpgmcgdfpaa

set_option linter.unusedSimpArgs false
set_option linter.unusedVariables false
set_option linter.unusedSimpArgs false
set_option linter.unusedVariables false
namespace Go.Proofs.Ytmnibpgmcgdfpaa
open Go.PL Go.RowKit
theorem heavyL_small {l : List Fd} (h : heavyL l = false) : l.length ≤ 40 ∧ ∀ f ∈ l, f.cases'.length ≤ 1000000 := by
  simp only [heavyL, Bool.or_eq_false_iff, List.any_eq_false, decide_eq_false_iff_not] at h
  refine ⟨by omega, fun f hf => ?_⟩
  have h1 : heavyF f = false := by simpa using h.2 f hf
  simp only [heavyF, fldTop, Bool.or_eq_false_iff, decide_eq_false_iff_not] at h1
  omega
/-- behind the copies: the documents and their copies -/
structure DdQ (l : List Fd) (a b : Dc) (s : St) : Prop where
  n : s.n = 124
  f0 : s.fr 0 = flds l
  f4 : s.fr 4 = .ptr 4 0
  f5 : s.fr 5 = .ptr 5 0
  f7 : s.fr 7 = .ptr 7 0
  f8 : s.fr 8 = .ptr 8 0
  h4 : s.m.h 4 = some (docc a) ∧ s.m.z 4 = false
  h5 : s.m.h 5 = some (docc b) ∧ s.m.z 5 = false
  h7 : s.m.h 7 = some (docc a) ∧ s.m.z 7 = false
  h8 : s.m.h 8 = some (docc b) ∧ s.m.z 8 = false
structure DdQ2 (cs : List Cg) (φ : Nat → Nat) (s : St) : Prop where
  n : s.n = 124
  f9 : s.fr 9 = PV.frl (cs.map chgF)
  f4 : s.fr 4 = .ptr 4 0 ∧ s.m.ph 4 = some (φ 4)
  f5 : s.fr 5 = .ptr 5 0 ∧ s.m.ph 5 = some (φ 5)
  f7 : s.fr 7 = .ptr 7 0 ∧ s.m.ph 7 = some (φ 7)
  f8 : s.fr 8 = .ptr 8 0 ∧ s.m.ph 8 = some (φ 8)
set_option maxRecDepth 100000 in
set_option maxHeartbeats 64000000 in
theorem DeltaDiffs_pure (l : List Fd) (a b : Dc) (hl : l.length ≤ maxLen) (hl' : ∀ f ∈ l, f.cases'.length ≤ maxLen) (ha : Fine a) (hb : Fine b) : PL.Pure Try.prog 4 [flds l, doc a, doc b] (.bool true) := by
  have hW := awake37_pure
  have c1 := RHeavyL_pure l hl hl'
  have c2 := Heavy_pure a ha
  have c3 := Heavy_pure b hb
  cases g1 : heavyL l
  · rw [g1] at c1
    cases g2 : heavyD a
    · rw [g2] at c2
      cases g3 : heavyD b
      · rw [g3] at c3
        have sa := smallD g2
        have sb := smallD g3
        obtain ⟨l1, l2⟩ := heavyL_small g1
        have oa := sa.ok
        have ob := sb.ok
        have hO1 := DOwn_pure a oa.h oa.r oa.e oa.s
        have hO2 := DOwn_pure b ob.h ob.r ob.e ob.s
        have hD := DDiff_fr l a b hl l2 oa ob
        have hE := RDiff_pure l a b hl hl' oa ob
        obtain ⟨k1, k2⟩ := diffM_small (l := l) sa sb
        have hS1 := RSameD_pure a a ha ha
        have hS2 := RSameD_pure b b hb hb
        rw [decide_eq_true rfl] at hS1 hS2
        generalize diffM l a b = y at *
        obtain ⟨cs, c⟩ := y
        simp only at k1 k2
        have me := maxLen_eq
        have hA := RSameAllC_pure cs cs (by omega) (by omega) (fun c h => (k2 c h).fine) (fun c h => (k2 c h).fine)
        have hB := DBack_pure cs k1 k2
        have hC := RBackC_pure cs k1
        have hbl := backC_len cs
        have hf2 := fineB_back k2
        have hF := RSameAllC_pure (backC cs) (backC cs) (by omega) (by omega) (fun c h => (hf2 c h).fine) (fun c h => (hf2 c h).fine)
        rw [decide_eq_true rfl] at hA hF
        have hA' : PL.Pure Try.prog 12 [chgsF cs, chgs cs] (.bool true) := PL.Pure.dull (by simp only [List.map_cons, List.map_nil, dull_chgsF, dull_chgs]; exact hA)
        have hB' : PL.Pure Try.prog 11 [chgsF cs] (chgs (backC cs)) := PL.Pure.dull (by simp only [List.map_cons, List.map_nil, dull_chgsF]; exact hB)
        have hcc : (c != c) = false := by simp
        refine PL.Pure.raw2 (r := true) 4 3 124 [(0, flds l)] [(4, docc a), (5, docc b), (7, docc a), (8, docc b)] [(9, PV.frl (cs.map chgF))] (Q1 := DdQ l a b) (Q2 := DdQ2 cs) Try.func4 (by decide) rfl (by simp [Try.ntmps4]) ?_ ?_ ?_ ?_ ?_
        · refine tawp_seq ?_
          simp only [go_sem, flds, doc, Try.ntmps4]
          refine tawp_seq ?_
          simp only [go_sem]
          refine vCall_of (hW) ?_ ?_ ?_; (focus simp only [go_sem]); (focus simp only [go_sem])
          simp only [go_sem]
          refine tawp_seq ?_
          simp only [go_sem]
          refine vCall_of (c1) ?_ ?_ ?_; (focus simp only [go_sem, flds]); (focus simp only [go_sem, flds])
          simp only [go_sem]
          refine vCall_of (c2) ?_ ?_ ?_; (focus simp only [go_sem, doc]); (focus simp only [go_sem, doc])
          simp only [go_sem]
          refine vCall_of (c3) ?_ ?_ ?_; (focus simp only [go_sem, doc]); (focus simp only [go_sem, doc])
          simp only [go_sem]
          refine tawp_seq ?_
          simp only [go_sem]
          refine vDrawA [] [(4, 7), (4, 8), (5, 7), (5, 8)] (by kernel_rfl) (by kernel_rfl) (by exact rfl) (by exact rfl) ?_
          simp only [go_sem]
          refine vCall_of (hO1) ?_ ?_ ?_; (focus simp only [go_sem, doc]); (focus simp only [go_sem, doc])
          simp only [go_sem, doc]
          refine vCall_of (hO2) ?_ ?_ ?_; (focus simp only [go_sem, doc]); (focus simp only [go_sem, doc])
          simp only [go_sem, doc]
          exact tawp_end ⟨rfl, rfl, rfl, rfl, rfl, rfl, ⟨rfl, rfl⟩, ⟨rfl, rfl⟩, ⟨rfl, rfl⟩, ⟨rfl, rfl⟩⟩
        · intro s h
          refine ⟨h.n, forall_cons ⟨by rw [h.f0]; exact Pub.clean rfl, rfl, nofr_flds l⟩ forall_nil, forall_cons ⟨h.f4, pub_docc h.h4.1 h.h4.2, docc_ids a, docc_nofr a⟩ (forall_cons ⟨h.f5, pub_docc h.h5.1 h.h5.2, docc_ids b, docc_nofr b⟩ (forall_cons ⟨h.f7, pub_docc h.h7.1 h.h7.2, docc_ids a, docc_nofr a⟩ (forall_cons ⟨h.f8, pub_docc h.h8.1 h.h8.2, docc_ids b, docc_nofr b⟩ forall_nil)))⟩
        · intro φ
          refine tawp_seq ?_
          simp only [go_sem, yst, List.map_cons, List.map_nil, flds, docc]
          refine vCall_of (hD) ?_ ?_ ?_; (focus simp only [go_sem, flds, doc]); (focus simp only [go_sem, flds, doc])
          simp only [go_sem]
          refine tawp_seq ?_
          simp only [go_sem]
          refine vCall_of (hE) ?_ ?_ ?_; (focus simp only [go_sem, flds, doc]); (focus simp only [go_sem, flds, doc])
          simp only [go_sem, chgsc, chgs]
          refine tawp_seq ?_
          simp only [go_sem, hcc]
          refine vCall_of (hA') ?_ ?_ ?_; (focus simp only [go_sem, chgsF, chgs]); (focus simp only [go_sem, chgsF, chgs])
          simp only [go_sem]
          refine vCall_of (hB') ?_ ?_ ?_; (focus simp only [go_sem, chgsF]); (focus simp only [go_sem, chgsF])
          simp only [go_sem, chgs]
          refine vCall_of (hC) ?_ ?_ ?_; (focus simp only [go_sem, chgs]); (focus simp only [go_sem, chgs])
          simp only [go_sem, chgs]
          refine vCall_of (hF) ?_ ?_ ?_; (focus simp only [go_sem, chgs]); (focus simp only [go_sem, chgs])
          simp only [go_sem]
          exact tawp_end ⟨rfl, rfl, ⟨rfl, rfl⟩, ⟨rfl, rfl⟩, ⟨rfl, rfl⟩, ⟨rfl, rfl⟩⟩
        · intro φ s h
          exact ⟨h.n, forall_cons ⟨h.f9, frl_ids⟩ forall_nil, forall_cons h.f4 (forall_cons h.f5 (forall_cons h.f7 (forall_cons h.f8 forall_nil)))⟩
        · intro n S2 S3 a1 w hkeep hnw hz2 hst3 hz3 hd hN hL3 hH
          have hv9 := hL3 _ (List.mem_singleton.2 rfl)
          have r4 := hH (4, docc a) (by simp)
          have r5 := hH (5, docc b) (by simp)
          have r7 := hH (7, docc a) (by simp)
          have r8 := hH (8, docc b) (by simp)
          have hY := ycs_of hst3 (fun b h => (hz3 b).1 h) hv9
          refine diffs_tail cs k1 (fun c h => ⟨(k2 c h).l, (k2 c h).n⟩) n w (fun i => a1.tmps.getD i undef) hY _ rfl a1 ⟨hd, hN, fun _ => rfl⟩ fun a' w' f' hR e4 e5 e7 e8 hk => ?_
          have hsz : n ≤ w'.heap.size := Nat.le_trans hnw hk.b.size
          simp only [dropC]
          refine wp_mono (wp_last (L := [(4, .rptr (docc a)), (5, .rptr (docc b)), (7, .rptr (docc a)), (8, .rptr (docc b))]) (fn := Try.f4) Try.results4 (hkeep w' hk.b) (fun b hb => (hz2 b).2 (by omega)) hR.d hR.n ?_ ?_ ?_) fun e a2 w2 ⟨h1, h2, h3, h4⟩ => ⟨h1, h2, h3, hk.b.trans (h4.mono fun k hk' => by omega)⟩
          · refine forall_cons ?_ (forall_cons ?_ (forall_cons ?_ (forall_cons ?_ forall_nil)))
            · show Rep S2 (a'.tmps.getD 4 undef) _; rw [hR.f, e4]; exact r4
            · show Rep S2 (a'.tmps.getD 5 undef) _; rw [hR.f, e5]; exact r5
            · show Rep S2 (a'.tmps.getD 7 undef) _; rw [hR.f, e7]; exact r7
            · show Rep S2 (a'.tmps.getD 8 undef) _; rw [hR.f, e8]; exact r8
          · exact forall_cons rfl (forall_cons rfl (forall_cons rfl (forall_cons rfl forall_nil)))
          · simp only [go_sem, docc]
            refine vCall_of (hS1) ?_ ?_ ?_; (focus simp only [go_sem, doc]); (focus simp only [go_sem, doc])
            simp only [go_sem]
            refine vCall_of (hS2) ?_ ?_ ?_; (focus simp only [go_sem, doc]); (focus simp only [go_sem, doc])
            simp only [go_sem]
      · rw [g3] at c3
        refine PL.Pure.of_v Try.func4 (by decide) rfl Try.ntmps4 Try.results4 (by simp) rfl ?_
        simp only [go_sem, flds, doc]
        refine vCall_of (hW) ?_ ?_ ?_; (focus simp only [go_sem]); (focus simp only [go_sem])
        simp only [go_sem]
        refine vCall_of (c1) ?_ ?_ ?_; (focus simp only [go_sem, flds]); (focus simp only [go_sem, flds])
        simp only [go_sem]
        refine vCall_of (c2) ?_ ?_ ?_; (focus simp only [go_sem, doc]); (focus simp only [go_sem, doc])
        simp only [go_sem]
        refine vCall_of (c3) ?_ ?_ ?_; (focus simp only [go_sem, doc]); (focus simp only [go_sem, doc])
        simp only [go_sem]
    · rw [g2] at c2
      refine PL.Pure.of_v Try.func4 (by decide) rfl Try.ntmps4 Try.results4 (by simp) rfl ?_
      simp only [go_sem, flds, doc]
      refine vCall_of (hW) ?_ ?_ ?_; (focus simp only [go_sem]); (focus simp only [go_sem])
      simp only [go_sem]
      refine vCall_of (c1) ?_ ?_ ?_; (focus simp only [go_sem, flds]); (focus simp only [go_sem, flds])
      simp only [go_sem]
      refine vCall_of (c2) ?_ ?_ ?_; (focus simp only [go_sem, doc]); (focus simp only [go_sem, doc])
      simp only [go_sem]
  · rw [g1] at c1
    refine PL.Pure.of_v Try.func4 (by decide) rfl Try.ntmps4 Try.results4 (by simp) rfl ?_
    simp only [go_sem, flds, doc]
    refine vCall_of (hW) ?_ ?_ ?_; (focus simp only [go_sem]); (focus simp only [go_sem])
    simp only [go_sem]
    refine vCall_of (c1) ?_ ?_ ?_; (focus simp only [go_sem, flds]); (focus simp only [go_sem, flds])
    simp only [go_sem]
end Go.Proofs.Ytmnibpgmcgdfpaa
