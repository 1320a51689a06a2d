/- Contracts of functions and laws of this seat, each for every input that it names: lemmas of the proof. -/
import Derived.Test.YtmnibpgmcgdfpaaXDo
import Derived.Test.YtmnibpgmcgdfpaaXDh
set_option linter.unusedSimpArgs false
set_option linter.unusedVariables false
set_option linter.unusedSimpArgs false
set_option linter.unusedVariables false
namespace Go.Proofs.Ytmnibpgmcgdfpaa
open Go.PL Go.RowKit
def XJ (f0 : Nat → Value) (n : Nat) (w0 : World) (b8 o8 : Nat) (d : Dc) (B : Nat) (f : Nat → Value) (w : World) : Prop := f 4 = f0 4 ∧ f 7 = f0 7 ∧ f 8 = .pointer (some ⟨b8, o8, none⟩) ∧ BelowF (fun k => k < n) w0 w ∧ XD n B w b8 o8 d
set_option maxRecDepth 100000 in
set_option maxHeartbeats 64000000 in
theorem right_tail (d : Dc) (sd : SmallD d) (n : Nat) (w0 : World) (f0 : Nat → Value) (b8 o8 : Nat) (h8 : f0 8 = .pointer (some ⟨b8, o8, none⟩)) (hX : XD n 200 w0 b8 o8 d) (c : Code) (hc : Try.f5.body = some c) (a0 : Act) (hR0 : RS 158 a0 f0) {Q : Exit → Act → World → Prop}
    (hend : ∀ a' w' f', RS 158 a' f' → f' 4 = f0 4 → f' 7 = f0 7 → BelowF (fun k => k < n) w0 w' → (dropC 2 (dropC 2 (dropC 5 c))).wp Try.prog Q a' w') : (dropC 2 (dropC 5 c)).wp Try.prog Q a0 w0 := by
  cases hc
  simp only [dropC] at hend ⊢
  have hs1 := sd.h
  have hs2 := sd.r
  refine wp_seqN (R := fun a' w' => ∃ f', RS 158 a' f' ∧ XJ f0 n w0 b8 o8 d (50200) f' w') ?_ ?_
  · refine wp_seqN (R := fun a' w' => w0 = w' ∧ RS 158 a' (upd f0 9 (.int .i64 0))) (wp_region ?_) ?_
    · exact ops_look hR0 rfl rfl rfl (by decide) (v := .int .i64 0) rx_assign fun a hR => ops_end ⟨rfl, rfl, hR⟩
    rintro a w ⟨rfl, hR⟩
    refine wp_block_loop (wp_loop_inv (fun m a w => ∃ (f : Nat → Value) (i : Nat), RS 158 a f ∧ XJ f0 n w0 b8 o8 d (200 + 1000 * i) f w ∧ f 9 = .int .i64 (i : Int) ∧ i ≤ d.head.length ∧ m = d.head.length - i) (fun a w h => by cases h.1) ?_ (m := d.head.length) ⟨_, 0, hR, ⟨by simp [upd], by simp [upd], by simp [upd, h8], BelowF.refl _ _, hX⟩, by simp [upd], Nat.zero_le _, rfl⟩)
    rintro m a w ⟨f, i, hR, hJ, h9, hil, rfl⟩
    have h8c := hJ.2.2.1
    refine wp_round (T := fun a' w' => w = w' ∧ ∃ f', RS 158 a' f' ∧ XJ f0 n w0 b8 o8 d (200 + 1000 * i) f' w ∧ f' 9 = .int .i64 (i : Int) ∧ f' 61 = .bool (decide ((i : Int) < (d.head.length : Int)))) (b := decide ((i : Int) < (d.head.length : Int))) (wp_region ?_) (fun a' w' ⟨_, f', h1, _, _, h2⟩ => by rw [h1.tmp]; exact h2) ?_ ?_
    · obtain ⟨HV, RV, e0, e1, hH, hRr⟩ := id hJ.2.2.2.2
      obtain ⟨A, cp, rfl⟩ := hH.slice_of
      refine ops_look hR rfl rfl rfl (by decide) (v := .int .i64 (i : Int)) (rx_move.trans (by rw [show a.eval (.tmp 9) = .int .i64 (i : Int) from (by rw [hR.tmp]; simp [upd, h8c, h9])])) fun a hR => ?_
      refine ops_look hR rfl rfl rfl (by decide) (v := .pointer (some ⟨b8, o8 + 0, none⟩)) (rx_field tfld_40_0 (by decide) (by rw [hR.tmp]; simp [upd, h8c, h9])) fun a hR => ?_
      refine ops_look hR rfl rfl rfl (by decide) (v := .slice A d.head.length cp) (rx_load tkn_28 tagg_28 (by rw [hR.tmp]; simp [upd, h8c, h9]) e0) fun a hR => ?_
      refine ops_look hR rfl rfl rfl (by decide) (v := .int .i64 (d.head.length : Int)) (rx_len (A := A) (c := cp) tlen_28 (by rw [hR.tmp]; simp [upd, h8c, h9])) fun a hR => ?_
      refine ops_look hR rfl rfl rfl (by decide) (v := .bool (decide ((i : Int) < (d.head.length : Int)))) (rx_lss (by rw [hR.tmp]; simp [upd, h8c, h9]) (by rw [hR.tmp]; simp [upd, h8c, h9])) fun a hR => ?_
      exact ops_end ⟨rfl, rfl, _, hR, ⟨by simp [upd, hJ.1], by simp [upd, hJ.2.1], by simp [upd, hJ.2.2.1], hJ.2.2.2⟩, (by simp [upd, h9]), (by simp [upd])⟩
    · rintro hlt a w1 ⟨rfl, f1, hR, hJ, h9, _⟩
      have hlt : i < d.head.length := by have := of_decide_eq_true hlt; omega
      have hi : i < d.head.length := hlt
      have h8c := hJ.2.2.1
      have hN2 := sd.e _ (getD_mem' (d := default) hlt)
      have w1 : IntKind.i64.wrap ((i : Int) + 1) = ((i + 1 : Nat) : Int) := by rw [w64 (by omega)]; rfl
      refine wp_seqN (R := fun a' w' => ∃ f', RS 158 a' f' ∧ XJ f0 n w0 b8 o8 d (200 + 1000 * (i + 1)) f' w' ∧ f' 9 = .int .i64 (i : Int)) (wp_block_nrm ?_) ?_
      · refine wp_seqN (R := fun a' w' => ∃ f', RS 158 a' f' ∧ XJ f0 n w0 b8 o8 d (200 + 1000 * i) f' w' ∧ f' 9 = .int .i64 (i : Int)) ?_ ?_
        · obtain ⟨HV, RV, e0, e1, hH, hRr⟩ := id hJ.2.2.2.2
          obtain ⟨A, cp, rfl, hC⟩ := hH
          obtain ⟨b, o, vs, t, rfl, hbn, hb, hbl, hin⟩ := hC (by omega)
          obtain ⟨hE, hT⟩ := hin i hlt
          obtain ⟨m0, hm0⟩ := hE
          have hm0 : vs.getD (o + i * 5 + 3) undef = .int .i64 m0 := hm0
          have hcn : w.cell? ⟨b, o + i * 5 + 3, none⟩ = some (.int .i64 m0) := by rw [cell_at hb (by omega), hm0]
          refine wp_region_one (l := [_, _, _, _, _, _, _, _, _, _, _, _]) rfl (by kernel_rfl) (by kernel_rfl) rfl (fun c a w h => by cases h.1) ?_
          refine held_look hR rfl rfl (by decide) (v := .pointer (some ⟨b8, o8 + 0, none⟩)) (rx_field tfld_40_0 (by decide) (by rw [hR.tmp]; simp [upd, h8c, h9])) fun a hR => ?_
          refine held_look hR rfl rfl (by decide) (v := .slice (some ⟨b, o, none⟩) d.head.length cp) (rx_load tkn_28 tagg_28 (by rw [hR.tmp]; simp [upd, h8c, h9]) e0) fun a hR => ?_
          refine held_look hR rfl rfl (by decide) (v := .int .i64 (i : Int)) (rx_move.trans (by rw [show a.eval (.tmp 9) = .int .i64 (i : Int) from (by rw [hR.tmp]; simp [upd, h8c, h9])])) fun a hR => ?_
          refine held_look hR rfl rfl (by decide) (v := .pointer (some ⟨b8, o8 + 0, none⟩)) (rx_field tfld_40_0 (by decide) (by rw [hR.tmp]; simp [upd, h8c, h9])) fun a hR => ?_
          refine held_look hR rfl rfl (by decide) (v := .slice (some ⟨b, o, none⟩) d.head.length cp) (rx_load tkn_28 tagg_28 (by rw [hR.tmp]; simp [upd, h8c, h9]) e0) fun a hR => ?_
          refine held_look hR rfl rfl (by decide) (v := .int .i64 (i : Int)) (rx_move.trans (by rw [show a.eval (.tmp 9) = .int .i64 (i : Int) from (by rw [hR.tmp]; simp [upd, h8c, h9])])) fun a hR => ?_
          refine held_look hR rfl rfl (by decide) (v := .pointer (some ⟨b, o + i * 5, none⟩)) (rx_index (c := cp) tix_28 (by rw [hR.tmp]; simp [upd, h8c, h9]) (by rw [hR.tmp]; simp [upd, h8c, h9]) hi) fun a hR => ?_
          refine held_look hR rfl rfl (by decide) (v := .pointer (some ⟨b, o + i * 5 + 3, none⟩)) (rx_field tfld_27_1 (by decide) (by rw [hR.tmp]; simp [upd, h8c, h9])) fun a hR => ?_
          refine held_look hR rfl rfl (by decide) (v := .int .i64 m0) (rx_load tkn_2 tagg_2 (by rw [hR.tmp]; simp [upd, h8c, h9]) hcn) fun a hR => ?_
          refine held_look hR rfl rfl (by decide) (v := .int .i64 (xorV m0 1)) (rx_xor_eq (by rw [hR.tmp]; simp [upd, h8c, h9]) rfl) fun a hR => ?_
          refine held_look hR rfl rfl (by decide) (v := .pointer (some ⟨b, o + i * 5, none⟩)) (rx_index (c := cp) tix_28 (by rw [hR.tmp]; simp [upd, h8c, h9]) (by rw [hR.tmp]; simp [upd, h8c, h9]) hi) fun a hR => ?_
          refine held_look hR rfl rfl (by decide) (v := .pointer (some ⟨b, o + i * 5 + 3, none⟩)) (rx_field tfld_27_1 (by decide) (by rw [hR.tmp]; simp [upd, h8c, h9])) fun a hR => ?_
          refine op_store hR rfl (rx_store (v := .int .i64 (xorV m0 1)) (o := o + i * 5 + 3) tkn_2 tsz_2 (by rw [hR.tmp]; simp [upd, h8c, h9]) (by rw [hR.tmp]; simp [upd, h8c, h9]) rfl rfl hb (by omega)) fun a hR => ?_
          have hks : KeepC n 0 w _ := KeepC.store (w1 := { w with drawn := w.drawn + 1 }) (v := .int .i64 (xorV m0 1)) (.inr rfl) hbn hb (show o + i * 5 + 3 < vs.length by omega) (by rw [hm0]; exact .inr (.inl ⟨_, _, rfl, rfl⟩))
          exact ⟨rfl, _, hR, ⟨by simp [upd, hJ.1], by simp [upd, hJ.2.1], by simp [upd, hJ.2.2.1], hJ.2.2.2.1.trans hks.b, hJ.2.2.2.2.keep hks⟩, (by simp [upd, h9])⟩
        · rintro a w2 ⟨f2, hR, hJ, h9⟩
          refine wp_seqN (R := fun a' w' => w2 = w' ∧ RS 158 a' (upd f2 10 (.int .i64 0))) (wp_region ?_) ?_
          · exact ops_look hR rfl rfl rfl (by decide) (v := .int .i64 0) rx_assign fun a hR => ops_end ⟨rfl, rfl, hR⟩
          rintro a w3 ⟨rfl, hR⟩
          refine wp_block_loop (wp_loop_inv (fun m a w' => ∃ (f : Nat → Value) (k : Nat), RS 158 a f ∧ XJ f0 n w0 b8 o8 d (200 + 1000 * i + k) f w' ∧ f 9 = .int .i64 (i : Int) ∧ f 10 = .int .i64 (k : Int) ∧ k ≤ (d.head.getD i default).l.length ∧ m = (d.head.getD i default).l.length - k) (fun a w h => by cases h.1) ?_ (m := (d.head.getD i default).l.length) ⟨_, 0, hR, ⟨by simp [upd, hJ.1], by simp [upd, hJ.2.1], by simp [upd, hJ.2.2.1], hJ.2.2.2⟩, (by simp [upd, h9]), (by simp [upd]), Nat.zero_le _, rfl⟩)
          rintro m a w3 ⟨f, k, hR, hJ, h9, h10, hkl, rfl⟩
          have h8c := hJ.2.2.1
          refine wp_round (T := fun a' w' => w3 = w' ∧ ∃ f', RS 158 a' f' ∧ XJ f0 n w0 b8 o8 d (200 + 1000 * i + k) f' w3 ∧ f' 9 = .int .i64 (i : Int) ∧ f' 10 = .int .i64 (k : Int) ∧ f' 84 = .bool (decide ((k : Int) < ((d.head.getD i default).l.length : Int)))) (b := decide ((k : Int) < ((d.head.getD i default).l.length : Int))) (wp_region ?_) (fun a' w' ⟨_, f', h1, _, _, _, h2⟩ => by rw [h1.tmp]; exact h2) ?_ ?_
          · obtain ⟨HV, RV, e0, e1, hH, hRr⟩ := id hJ.2.2.2.2
            obtain ⟨A, cp, rfl, hC⟩ := hH
            obtain ⟨b, o, vs, t, rfl, hbn, hb, hbl, hin⟩ := hC (by omega)
            obtain ⟨hE, hT⟩ := hin i hlt
            obtain ⟨A2, c2, hTL⟩ := hT.slice_of
            have hct : w3.cell? ⟨b, o + i * 5 + 4, none⟩ = some (.slice A2 (d.head.getD i default).l.length c2) := by rw [cell_at hb (by omega)]; exact congrArg some hTL
            refine ops_look hR rfl rfl rfl (by decide) (v := .int .i64 (k : Int)) (rx_move.trans (by rw [show a.eval (.tmp 10) = .int .i64 (k : Int) from (by rw [hR.tmp]; simp [upd, h8c, h9, h10])])) fun a hR => ?_
            refine ops_look hR rfl rfl rfl (by decide) (v := .pointer (some ⟨b8, o8 + 0, none⟩)) (rx_field tfld_40_0 (by decide) (by rw [hR.tmp]; simp [upd, h8c, h9, h10])) fun a hR => ?_
            refine ops_look hR rfl rfl rfl (by decide) (v := .slice (some ⟨b, o, none⟩) d.head.length cp) (rx_load tkn_28 tagg_28 (by rw [hR.tmp]; simp [upd, h8c, h9, h10]) e0) fun a hR => ?_
            refine ops_look hR rfl rfl rfl (by decide) (v := .int .i64 (i : Int)) (rx_move.trans (by rw [show a.eval (.tmp 9) = .int .i64 (i : Int) from (by rw [hR.tmp]; simp [upd, h8c, h9, h10])])) fun a hR => ?_
            refine ops_look hR rfl rfl rfl (by decide) (v := .pointer (some ⟨b, o + i * 5, none⟩)) (rx_index (c := cp) tix_28 (by rw [hR.tmp]; simp [upd, h8c, h9, h10]) (by rw [hR.tmp]; simp [upd, h8c, h9, h10]) hi) fun a hR => ?_
            refine ops_look hR rfl rfl rfl (by decide) (v := .pointer (some ⟨b, o + i * 5 + 4, none⟩)) (rx_field tfld_27_2 (by decide) (by rw [hR.tmp]; simp [upd, h8c, h9, h10])) fun a hR => ?_
            refine ops_look hR rfl rfl rfl (by decide) (v := .slice A2 (d.head.getD i default).l.length c2) (rx_load tkn_25 tagg_25 (by rw [hR.tmp]; simp [upd, h8c, h9, h10]) hct) fun a hR => ?_
            refine ops_look hR rfl rfl rfl (by decide) (v := .int .i64 ((d.head.getD i default).l.length : Int)) (rx_len (A := A2) (c := c2) tlen_25 (by rw [hR.tmp]; simp [upd, h8c, h9, h10])) fun a hR => ?_
            refine ops_look hR rfl rfl rfl (by decide) (v := .bool (decide ((k : Int) < ((d.head.getD i default).l.length : Int)))) (rx_lss (by rw [hR.tmp]; simp [upd, h8c, h9, h10]) (by rw [hR.tmp]; simp [upd, h8c, h9, h10])) fun a hR => ?_
            exact ops_end ⟨rfl, rfl, _, hR, ⟨by simp [upd, hJ.1], by simp [upd, hJ.2.1], by simp [upd, hJ.2.2.1], hJ.2.2.2⟩, (by simp [upd, h9]), (by simp [upd, h10]), (by simp [upd])⟩
          · rintro hlt2 a w4 ⟨rfl, f3, hR, hJ, h9, h10, _⟩
            have hlt2 : k < (d.head.getD i default).l.length := by have := of_decide_eq_true hlt2; omega
            have hk2 := hlt2
            have h8c := hJ.2.2.1
            have w1 : IntKind.i64.wrap ((k : Int) + 1) = ((k + 1 : Nat) : Int) := by rw [w64 (by omega)]; rfl
            refine wp_seqN (R := fun a' w' => ∃ f', RS 158 a' f' ∧ XJ f0 n w0 b8 o8 d (200 + 1000 * i + (k + 1)) f' w' ∧ f' 9 = .int .i64 (i : Int) ∧ f' 10 = .int .i64 (k : Int)) (wp_block_nrm ?_) ?_
            · obtain ⟨HV, RV, e0, e1, hH, hRr⟩ := id hJ.2.2.2.2
              obtain ⟨A, cp, rfl, hC⟩ := hH
              obtain ⟨b, o, vs, t, rfl, hbn, hb, hbl, hin⟩ := hC (by omega)
              obtain ⟨hE, hT⟩ := hin i hlt
              obtain ⟨A2, c2, hTL, hC2⟩ := hT
              obtain ⟨b2, o2, vs2, t2, rfl, hb2n, hb2, hb2l, hin2⟩ := hC2 (by omega)
              obtain ⟨s, hs, hsz⟩ := hin2 k hlt2
              have hs : vs2.getD (o2 + k * 1) undef = .string s := hs
              have hsum : s.size + (⟨⟨[120]⟩⟩ : ByteArray).size ≤ 1000000000 := by show s.size + 1 ≤ _; omega
              have hct : w3.cell? ⟨b, o + i * 5 + 4, none⟩ = some (.slice (some ⟨b2, o2, none⟩) (d.head.getD i default).l.length c2) := by rw [cell_at hb (by omega)]; exact congrArg some hTL
              have hcs : w3.cell? ⟨b2, o2 + k * 1, none⟩ = some (.string s) := by rw [cell_at hb2 (by omega), hs]
              refine wp_region_one (l := [_, _, _, _, _, _, _, _, _, _, _, _, _, _, _, _, _, _]) rfl (by kernel_rfl) (by kernel_rfl) rfl (fun c a w h => by cases h.1) ?_
              refine held_look hR rfl rfl (by decide) (v := .pointer (some ⟨b8, o8 + 0, none⟩)) (rx_field tfld_40_0 (by decide) (by rw [hR.tmp]; simp [upd, h8c, h9, h10])) fun a hR => ?_
              refine held_look hR rfl rfl (by decide) (v := .slice (some ⟨b, o, none⟩) d.head.length cp) (rx_load tkn_28 tagg_28 (by rw [hR.tmp]; simp [upd, h8c, h9, h10]) e0) fun a hR => ?_
              refine held_look hR rfl rfl (by decide) (v := .int .i64 (i : Int)) (rx_move.trans (by rw [show a.eval (.tmp 9) = .int .i64 (i : Int) from (by rw [hR.tmp]; simp [upd, h8c, h9, h10])])) fun a hR => ?_
              refine held_look hR rfl rfl (by decide) (v := .pointer (some ⟨b, o + i * 5, none⟩)) (rx_index (c := cp) tix_28 (by rw [hR.tmp]; simp [upd, h8c, h9, h10]) (by rw [hR.tmp]; simp [upd, h8c, h9, h10]) hi) fun a hR => ?_
              refine held_look hR rfl rfl (by decide) (v := .pointer (some ⟨b, o + i * 5 + 4, none⟩)) (rx_field tfld_27_2 (by decide) (by rw [hR.tmp]; simp [upd, h8c, h9, h10])) fun a hR => ?_
              refine held_look hR rfl rfl (by decide) (v := .slice (some ⟨b2, o2, none⟩) (d.head.getD i default).l.length c2) (rx_load tkn_25 tagg_25 (by rw [hR.tmp]; simp [upd, h8c, h9, h10]) hct) fun a hR => ?_
              refine held_look hR rfl rfl (by decide) (v := .int .i64 (k : Int)) (rx_move.trans (by rw [show a.eval (.tmp 10) = .int .i64 (k : Int) from (by rw [hR.tmp]; simp [upd, h8c, h9, h10])])) fun a hR => ?_
              refine held_look hR rfl rfl (by decide) (v := .pointer (some ⟨b8, o8 + 0, none⟩)) (rx_field tfld_40_0 (by decide) (by rw [hR.tmp]; simp [upd, h8c, h9, h10])) fun a hR => ?_
              refine held_look hR rfl rfl (by decide) (v := .slice (some ⟨b, o, none⟩) d.head.length cp) (rx_load tkn_28 tagg_28 (by rw [hR.tmp]; simp [upd, h8c, h9, h10]) e0) fun a hR => ?_
              refine held_look hR rfl rfl (by decide) (v := .int .i64 (i : Int)) (rx_move.trans (by rw [show a.eval (.tmp 9) = .int .i64 (i : Int) from (by rw [hR.tmp]; simp [upd, h8c, h9, h10])])) fun a hR => ?_
              refine held_look hR rfl rfl (by decide) (v := .pointer (some ⟨b, o + i * 5, none⟩)) (rx_index (c := cp) tix_28 (by rw [hR.tmp]; simp [upd, h8c, h9, h10]) (by rw [hR.tmp]; simp [upd, h8c, h9, h10]) hi) fun a hR => ?_
              refine held_look hR rfl rfl (by decide) (v := .pointer (some ⟨b, o + i * 5 + 4, none⟩)) (rx_field tfld_27_2 (by decide) (by rw [hR.tmp]; simp [upd, h8c, h9, h10])) fun a hR => ?_
              refine held_look hR rfl rfl (by decide) (v := .slice (some ⟨b2, o2, none⟩) (d.head.getD i default).l.length c2) (rx_load tkn_25 tagg_25 (by rw [hR.tmp]; simp [upd, h8c, h9, h10]) hct) fun a hR => ?_
              refine held_look hR rfl rfl (by decide) (v := .int .i64 (k : Int)) (rx_move.trans (by rw [show a.eval (.tmp 10) = .int .i64 (k : Int) from (by rw [hR.tmp]; simp [upd, h8c, h9, h10])])) fun a hR => ?_
              refine held_look hR rfl rfl (by decide) (v := .pointer (some ⟨b2, o2 + k * 1, none⟩)) (rx_index (c := c2) tix_25 (by rw [hR.tmp]; simp [upd, h8c, h9, h10]) (by rw [hR.tmp]; simp [upd, h8c, h9, h10]) hk2) fun a hR => ?_
              refine held_look hR rfl rfl (by decide) (v := .string s) (rx_load tkn_9 tagg_9 (by rw [hR.tmp]; simp [upd, h8c, h9, h10]) hcs) fun a hR => ?_
              refine held_look hR rfl rfl (by decide) (v := .string (s ++ ⟨⟨[120]⟩⟩)) (rx_cat_eq (m := s) (n := ⟨⟨[120]⟩⟩) hsum (by rw [hR.tmp]; simp [upd, h8c, h9, h10]) rfl) fun a hR => ?_
              refine held_look hR rfl rfl (by decide) (v := .pointer (some ⟨b2, o2 + k * 1, none⟩)) (rx_index (c := c2) tix_25 (by rw [hR.tmp]; simp [upd, h8c, h9, h10]) (by rw [hR.tmp]; simp [upd, h8c, h9, h10]) hk2) fun a hR => ?_
              refine op_store hR rfl (rx_store (v := .string (s ++ ⟨⟨[120]⟩⟩)) (o := o2 + k * 1) tkn_9 tsz_9 (by rw [hR.tmp]; simp [upd, h8c, h9, h10]) (by rw [hR.tmp]; simp [upd, h8c, h9, h10]) rfl rfl hb2 (by omega)) fun a hR => ?_
              have hks : KeepC n 1 w3 _ := KeepC.store (w1 := { w3 with drawn := w3.drawn + 1 }) (v := .string (s ++ ⟨⟨[120]⟩⟩)) (.inr rfl) hb2n hb2 (show o2 + k * 1 < vs2.length by omega) (by rw [hs]; exact .inr (.inr ⟨_, _, rfl, rfl, by rw [ByteArray.size_append]; exact Nat.le_refl _⟩))
              exact ⟨rfl, _, hR, ⟨by simp [upd, hJ.1], by simp [upd, hJ.2.1], by simp [upd, hJ.2.2.1], hJ.2.2.2.1.trans hks.b, hJ.2.2.2.2.keep hks⟩, (by simp [upd, h9]), (by simp [upd, h10])⟩
            · rintro a w4 ⟨f4, hR, hJ, h9, h10⟩
              have h8c := hJ.2.2.1
              refine wp_region ?_
              refine ops_look hR rfl rfl rfl (by decide) (v := .int .i64 (k : Int)) (rx_move.trans (by rw [show a.eval (.tmp 10) = .int .i64 (k : Int) from (by rw [hR.tmp]; simp [upd, h8c, h9, h10])])) fun a hR => ?_
              refine ops_look hR rfl rfl rfl (by decide) (v := .int .i64 ((k + 1 : Nat) : Int)) ((rx_add (m := (k : Int)) (n := 1) (by rw [hR.tmp]; simp [upd, h8c, h9, h10]) rfl).trans (by rw [w1])) fun a hR => ?_
              refine ops_look hR rfl rfl rfl (by decide) (v := .int .i64 ((k + 1 : Nat) : Int)) (rx_assign.trans (by rw [show a.eval (.tmp 86) = .int .i64 ((k + 1 : Nat) : Int) from (by rw [hR.tmp]; simp [upd, h8c, h9, h10])])) fun a hR => ?_
              exact ops_end ⟨rfl, _, by omega, _, k + 1, hR, ⟨by simp [upd, hJ.1], by simp [upd, hJ.2.1], by simp [upd, hJ.2.2.1], hJ.2.2.2⟩, (by simp [upd, h9]), (by simp [upd]), by omega, rfl⟩
          · rintro hge a w4 ⟨rfl, f3, hR, hJ, h9, h10, _⟩
            exact ⟨f3, hR, ⟨hJ.1, hJ.2.1, hJ.2.2.1, hJ.2.2.2.1, hJ.2.2.2.2.mono (by omega)⟩, h9⟩
      · rintro a w2 ⟨f2, hR, hJ, h9⟩
        have h8c := hJ.2.2.1
        refine wp_region ?_
        refine ops_look hR rfl rfl rfl (by decide) (v := .int .i64 (i : Int)) (rx_move.trans (by rw [show a.eval (.tmp 9) = .int .i64 (i : Int) from (by rw [hR.tmp]; simp [upd, h8c, h9])])) fun a hR => ?_
        refine ops_look hR rfl rfl rfl (by decide) (v := .int .i64 ((i + 1 : Nat) : Int)) ((rx_add (m := (i : Int)) (n := 1) (by rw [hR.tmp]; simp [upd, h8c, h9]) rfl).trans (by rw [w1])) fun a hR => ?_
        refine ops_look hR rfl rfl rfl (by decide) (v := .int .i64 ((i + 1 : Nat) : Int)) (rx_assign.trans (by rw [show a.eval (.tmp 63) = .int .i64 ((i + 1 : Nat) : Int) from (by rw [hR.tmp]; simp [upd, h8c, h9])])) fun a hR => ?_
        exact ops_end ⟨rfl, _, by omega, _, i + 1, hR, ⟨by simp [upd, hJ.1], by simp [upd, hJ.2.1], by simp [upd, hJ.2.2.1], hJ.2.2.2⟩, (by simp [upd]), by omega, rfl⟩
    · rintro hge a w1 ⟨rfl, f1, hR, hJ, h9, _⟩
      exact ⟨f1, hR, ⟨hJ.1, hJ.2.1, hJ.2.2.1, hJ.2.2.2.1, hJ.2.2.2.2.mono (by omega)⟩⟩
  · rintro a w ⟨f1, hR, hJ⟩
    refine wp_seqN (R := fun a' w' => ∃ f', RS 158 a' f' ∧ XJ f0 n w0 b8 o8 d (60200) f' w') ?_ (fun a' w' ⟨f', h1, h2⟩ => hend a' w' f' h1 h2.1 h2.2.1 h2.2.2.2.1)
    refine wp_seqN (R := fun a' w' => w = w' ∧ RS 158 a' (upd f1 11 (.int .i64 0))) (wp_region ?_) ?_
    · exact ops_look hR rfl rfl rfl (by decide) (v := .int .i64 0) rx_assign fun a hR => ops_end ⟨rfl, rfl, hR⟩
    rintro a w1 ⟨rfl, hR⟩
    refine wp_block_loop (wp_loop_inv (fun m a w => ∃ (f : Nat → Value) (i : Nat), RS 158 a f ∧ XJ f0 n w0 b8 o8 d (50200 + i) f w ∧ f 11 = .int .i64 (i : Int) ∧ i ≤ d.rows.length ∧ m = d.rows.length - i) (fun a w h => by cases h.1) ?_ (m := d.rows.length) ⟨_, 0, hR, ⟨by simp [upd, hJ.1], by simp [upd, hJ.2.1], by simp [upd, hJ.2.2.1], hJ.2.2.2⟩, by simp [upd], Nat.zero_le _, rfl⟩)
    clear hJ
    rintro m a w ⟨f, i, hR, hJ, h11, hil, rfl⟩
    have h8c := hJ.2.2.1
    refine wp_round (T := fun a' w' => w = w' ∧ ∃ f', RS 158 a' f' ∧ XJ f0 n w0 b8 o8 d (50200 + i) f' w ∧ f' 11 = .int .i64 (i : Int) ∧ f' 109 = .bool (decide ((i : Int) < (d.rows.length : Int)))) (b := decide ((i : Int) < (d.rows.length : Int))) (wp_region ?_) (fun a' w' ⟨_, f', h1, _, _, h2⟩ => by rw [h1.tmp]; exact h2) ?_ ?_
    · obtain ⟨HV, RV, e0, e1, hH, hRr⟩ := id hJ.2.2.2.2
      obtain ⟨A, cp, rfl⟩ := hRr.slice_of
      refine ops_look hR rfl rfl rfl (by decide) (v := .int .i64 (i : Int)) (rx_move.trans (by rw [show a.eval (.tmp 11) = .int .i64 (i : Int) from (by rw [hR.tmp]; simp [upd, h8c, h11])])) fun a hR => ?_
      refine ops_look hR rfl rfl rfl (by decide) (v := .pointer (some ⟨b8, o8 + 1, none⟩)) (rx_field tfld_40_1 (by decide) (by rw [hR.tmp]; simp [upd, h8c, h11])) fun a hR => ?_
      refine ops_look hR rfl rfl rfl (by decide) (v := .slice A d.rows.length cp) (rx_load tkn_38 tagg_38 (by rw [hR.tmp]; simp [upd, h8c, h11]) e1) fun a hR => ?_
      refine ops_look hR rfl rfl rfl (by decide) (v := .int .i64 (d.rows.length : Int)) (rx_len (A := A) (c := cp) tlen_38 (by rw [hR.tmp]; simp [upd, h8c, h11])) fun a hR => ?_
      refine ops_look hR rfl rfl rfl (by decide) (v := .bool (decide ((i : Int) < (d.rows.length : Int)))) (rx_lss (by rw [hR.tmp]; simp [upd, h8c, h11]) (by rw [hR.tmp]; simp [upd, h8c, h11])) fun a hR => ?_
      exact ops_end ⟨rfl, rfl, _, hR, ⟨by simp [upd, hJ.1], by simp [upd, hJ.2.1], by simp [upd, hJ.2.2.1], hJ.2.2.2⟩, (by simp [upd, h11]), (by simp [upd])⟩
    · rintro hlt a w1 ⟨rfl, f2, hR, hJ, h11, _⟩
      have hlt : i < d.rows.length := by have := of_decide_eq_true hlt; omega
      have hi : i < d.rows.length := hlt
      have hN3 := (sd.s _ (getD_mem' (d := default) hlt)).1
      have w1 : IntKind.i64.wrap ((i : Int) + 1) = ((i + 1 : Nat) : Int) := by rw [w64 (by omega)]; rfl
      refine wp_seqN (R := fun a' w' => ∃ f', RS 158 a' f' ∧ XJ f0 n w0 b8 o8 d (50200 + (i + 1)) f' w' ∧ f' 11 = .int .i64 (i : Int)) (wp_block_nrm ?_) ?_
      · refine wp_seqN (R := fun a' w' => ∃ f', RS 158 a' f' ∧ XJ f0 n w0 b8 o8 d (50200 + i) f' w' ∧ f' 11 = .int .i64 (i : Int)) ?_ ?_
        · refine wp_seqN (R := fun a' w' => w = w' ∧ RS 158 a' (upd f2 12 (.int .i64 0))) (wp_region ?_) ?_
          · exact ops_look hR rfl rfl rfl (by decide) (v := .int .i64 0) rx_assign fun a hR => ops_end ⟨rfl, rfl, hR⟩
          rintro a w3 ⟨rfl, hR⟩
          refine wp_block_loop (wp_loop_inv (fun m a w' => ∃ (f : Nat → Value) (k : Nat), RS 158 a f ∧ XJ f0 n w0 b8 o8 d (50200 + i) f w' ∧ f 11 = .int .i64 (i : Int) ∧ f 12 = .int .i64 (k : Int) ∧ k ≤ (d.rows.getD i default).l.length ∧ m = (d.rows.getD i default).l.length - k) (fun a w h => by cases h.1) ?_ (m := (d.rows.getD i default).l.length) ⟨_, 0, hR, ⟨by simp [upd, hJ.1], by simp [upd, hJ.2.1], by simp [upd, hJ.2.2.1], hJ.2.2.2⟩, (by simp [upd, h11]), (by simp [upd]), Nat.zero_le _, rfl⟩)
          clear hJ
          rintro m a w3 ⟨f, k, hR, hJ, h11, h12, hkl, rfl⟩
          have h8c := hJ.2.2.1
          refine wp_round (T := fun a' w' => w3 = w' ∧ ∃ f', RS 158 a' f' ∧ XJ f0 n w0 b8 o8 d (50200 + i) f' w3 ∧ f' 11 = .int .i64 (i : Int) ∧ f' 12 = .int .i64 (k : Int) ∧ f' 120 = .bool (decide ((k : Int) < ((d.rows.getD i default).l.length : Int)))) (b := decide ((k : Int) < ((d.rows.getD i default).l.length : Int))) (wp_region ?_) (fun a' w' ⟨_, f', h1, _, _, _, h2⟩ => by rw [h1.tmp]; exact h2) ?_ ?_
          · obtain ⟨HV, RV, e0, e1, hH, hRr⟩ := id hJ.2.2.2.2
            obtain ⟨A, cp, rfl, hC⟩ := hRr
            obtain ⟨b, o, vs, t, rfl, hbn, hb, hbl, hin⟩ := hC (by omega)
            obtain ⟨hE, hT⟩ := hin i hlt
            obtain ⟨A2, c2, hTL⟩ := hT.slice_of
            have hct : w3.cell? ⟨b, o + i * 2 + 1, none⟩ = some (.slice A2 (d.rows.getD i default).l.length c2) := by rw [cell_at hb (by omega)]; exact congrArg some hTL
            refine ops_look hR rfl rfl rfl (by decide) (v := .int .i64 (k : Int)) (rx_move.trans (by rw [show a.eval (.tmp 12) = .int .i64 (k : Int) from (by rw [hR.tmp]; simp [upd, h8c, h11, h12])])) fun a hR => ?_
            refine ops_look hR rfl rfl rfl (by decide) (v := .pointer (some ⟨b8, o8 + 1, none⟩)) (rx_field tfld_40_1 (by decide) (by rw [hR.tmp]; simp [upd, h8c, h11, h12])) fun a hR => ?_
            refine ops_look hR rfl rfl rfl (by decide) (v := .slice (some ⟨b, o, none⟩) d.rows.length cp) (rx_load tkn_38 tagg_38 (by rw [hR.tmp]; simp [upd, h8c, h11, h12]) e1) fun a hR => ?_
            refine ops_look hR rfl rfl rfl (by decide) (v := .int .i64 (i : Int)) (rx_move.trans (by rw [show a.eval (.tmp 11) = .int .i64 (i : Int) from (by rw [hR.tmp]; simp [upd, h8c, h11, h12])])) fun a hR => ?_
            refine ops_look hR rfl rfl rfl (by decide) (v := .pointer (some ⟨b, o + i * 2, none⟩)) (rx_index (c := cp) tix_38 (by rw [hR.tmp]; simp [upd, h8c, h11, h12]) (by rw [hR.tmp]; simp [upd, h8c, h11, h12]) hi) fun a hR => ?_
            refine ops_look hR rfl rfl rfl (by decide) (v := .pointer (some ⟨b, o + i * 2 + 1, none⟩)) (rx_field tfld_53_1 (by decide) (by rw [hR.tmp]; simp [upd, h8c, h11, h12])) fun a hR => ?_
            refine ops_look hR rfl rfl rfl (by decide) (v := .slice A2 (d.rows.getD i default).l.length c2) (rx_load tkn_28 tagg_28 (by rw [hR.tmp]; simp [upd, h8c, h11, h12]) hct) fun a hR => ?_
            refine ops_look hR rfl rfl rfl (by decide) (v := .int .i64 ((d.rows.getD i default).l.length : Int)) (rx_len (A := A2) (c := c2) tlen_28 (by rw [hR.tmp]; simp [upd, h8c, h11, h12])) fun a hR => ?_
            refine ops_look hR rfl rfl rfl (by decide) (v := .bool (decide ((k : Int) < ((d.rows.getD i default).l.length : Int)))) (rx_lss (by rw [hR.tmp]; simp [upd, h8c, h11, h12]) (by rw [hR.tmp]; simp [upd, h8c, h11, h12])) fun a hR => ?_
            exact ops_end ⟨rfl, rfl, _, hR, ⟨by simp [upd, hJ.1], by simp [upd, hJ.2.1], by simp [upd, hJ.2.2.1], hJ.2.2.2⟩, (by simp [upd, h11]), (by simp [upd, h12]), (by simp [upd])⟩
          · rintro hlt2 a w4 ⟨rfl, f3, hR, hJ, h11, h12, _⟩
            have hlt2 : k < (d.rows.getD i default).l.length := by have := of_decide_eq_true hlt2; omega
            have hk2 := hlt2
            have h8c := hJ.2.2.1
            have w1 : IntKind.i64.wrap ((k : Int) + 1) = ((k + 1 : Nat) : Int) := by rw [w64 (by omega)]; rfl
            refine wp_seqN (R := fun a' w' => ∃ f', RS 158 a' f' ∧ XJ f0 n w0 b8 o8 d (50200 + i) f' w' ∧ f' 11 = .int .i64 (i : Int) ∧ f' 12 = .int .i64 (k : Int)) (wp_block_nrm ?_) ?_
            · obtain ⟨HV, RV, e0, e1, hH, hRr⟩ := id hJ.2.2.2.2
              obtain ⟨A, cp, rfl, hC⟩ := hRr
              obtain ⟨b, o, vs, t, rfl, hbn, hb, hbl, hin⟩ := hC (by omega)
              obtain ⟨hE, hT⟩ := hin i hlt
              obtain ⟨A2, c2, hTL, hC2⟩ := hT
              obtain ⟨b2, o2, vs2, t2, rfl, hb2n, hb2, hb2l, hin2⟩ := hC2 (by omega)
              obtain ⟨m0, hm0⟩ := hin2 k hlt2
              have hm0 : vs2.getD (o2 + k * 5 + 3) undef = .int .i64 m0 := hm0
              have hct : w3.cell? ⟨b, o + i * 2 + 1, none⟩ = some (.slice (some ⟨b2, o2, none⟩) (d.rows.getD i default).l.length c2) := by rw [cell_at hb (by omega)]; exact congrArg some hTL
              have hcn : w3.cell? ⟨b2, o2 + k * 5 + 3, none⟩ = some (.int .i64 m0) := by rw [cell_at hb2 (by omega), hm0]
              refine wp_region_one (l := [_, _, _, _, _, _, _, _, _, _, _, _, _, _, _, _, _, _, _, _]) rfl (by kernel_rfl) (by kernel_rfl) rfl (fun c a w h => by cases h.1) ?_
              refine held_look hR rfl rfl (by decide) (v := .pointer (some ⟨b8, o8 + 1, none⟩)) (rx_field tfld_40_1 (by decide) (by rw [hR.tmp]; simp [upd, h8c, h11, h12])) fun a hR => ?_
              refine held_look hR rfl rfl (by decide) (v := .slice (some ⟨b, o, none⟩) d.rows.length cp) (rx_load tkn_38 tagg_38 (by rw [hR.tmp]; simp [upd, h8c, h11, h12]) e1) fun a hR => ?_
              refine held_look hR rfl rfl (by decide) (v := .int .i64 (i : Int)) (rx_move.trans (by rw [show a.eval (.tmp 11) = .int .i64 (i : Int) from (by rw [hR.tmp]; simp [upd, h8c, h11, h12])])) fun a hR => ?_
              refine held_look hR rfl rfl (by decide) (v := .pointer (some ⟨b, o + i * 2, none⟩)) (rx_index (c := cp) tix_38 (by rw [hR.tmp]; simp [upd, h8c, h11, h12]) (by rw [hR.tmp]; simp [upd, h8c, h11, h12]) hi) fun a hR => ?_
              refine held_look hR rfl rfl (by decide) (v := .pointer (some ⟨b, o + i * 2 + 1, none⟩)) (rx_field tfld_53_1 (by decide) (by rw [hR.tmp]; simp [upd, h8c, h11, h12])) fun a hR => ?_
              refine held_look hR rfl rfl (by decide) (v := .slice (some ⟨b2, o2, none⟩) (d.rows.getD i default).l.length c2) (rx_load tkn_28 tagg_28 (by rw [hR.tmp]; simp [upd, h8c, h11, h12]) hct) fun a hR => ?_
              refine held_look hR rfl rfl (by decide) (v := .int .i64 (k : Int)) (rx_move.trans (by rw [show a.eval (.tmp 12) = .int .i64 (k : Int) from (by rw [hR.tmp]; simp [upd, h8c, h11, h12])])) fun a hR => ?_
              refine held_look hR rfl rfl (by decide) (v := .pointer (some ⟨b8, o8 + 1, none⟩)) (rx_field tfld_40_1 (by decide) (by rw [hR.tmp]; simp [upd, h8c, h11, h12])) fun a hR => ?_
              refine held_look hR rfl rfl (by decide) (v := .slice (some ⟨b, o, none⟩) d.rows.length cp) (rx_load tkn_38 tagg_38 (by rw [hR.tmp]; simp [upd, h8c, h11, h12]) e1) fun a hR => ?_
              refine held_look hR rfl rfl (by decide) (v := .int .i64 (i : Int)) (rx_move.trans (by rw [show a.eval (.tmp 11) = .int .i64 (i : Int) from (by rw [hR.tmp]; simp [upd, h8c, h11, h12])])) fun a hR => ?_
              refine held_look hR rfl rfl (by decide) (v := .pointer (some ⟨b, o + i * 2, none⟩)) (rx_index (c := cp) tix_38 (by rw [hR.tmp]; simp [upd, h8c, h11, h12]) (by rw [hR.tmp]; simp [upd, h8c, h11, h12]) hi) fun a hR => ?_
              refine held_look hR rfl rfl (by decide) (v := .pointer (some ⟨b, o + i * 2 + 1, none⟩)) (rx_field tfld_53_1 (by decide) (by rw [hR.tmp]; simp [upd, h8c, h11, h12])) fun a hR => ?_
              refine held_look hR rfl rfl (by decide) (v := .slice (some ⟨b2, o2, none⟩) (d.rows.getD i default).l.length c2) (rx_load tkn_28 tagg_28 (by rw [hR.tmp]; simp [upd, h8c, h11, h12]) hct) fun a hR => ?_
              refine held_look hR rfl rfl (by decide) (v := .int .i64 (k : Int)) (rx_move.trans (by rw [show a.eval (.tmp 12) = .int .i64 (k : Int) from (by rw [hR.tmp]; simp [upd, h8c, h11, h12])])) fun a hR => ?_
              refine held_look hR rfl rfl (by decide) (v := .pointer (some ⟨b2, o2 + k * 5, none⟩)) (rx_index (c := c2) tix_28 (by rw [hR.tmp]; simp [upd, h8c, h11, h12]) (by rw [hR.tmp]; simp [upd, h8c, h11, h12]) hk2) fun a hR => ?_
              refine held_look hR rfl rfl (by decide) (v := .pointer (some ⟨b2, o2 + k * 5 + 3, none⟩)) (rx_field tfld_27_1 (by decide) (by rw [hR.tmp]; simp [upd, h8c, h11, h12])) fun a hR => ?_
              refine held_look hR rfl rfl (by decide) (v := .int .i64 m0) (rx_load tkn_2 tagg_2 (by rw [hR.tmp]; simp [upd, h8c, h11, h12]) hcn) fun a hR => ?_
              refine held_look hR rfl rfl (by decide) (v := .int .i64 (xorV m0 1)) (rx_xor_eq (by rw [hR.tmp]; simp [upd, h8c, h11, h12]) rfl) fun a hR => ?_
              refine held_look hR rfl rfl (by decide) (v := .pointer (some ⟨b2, o2 + k * 5, none⟩)) (rx_index (c := c2) tix_28 (by rw [hR.tmp]; simp [upd, h8c, h11, h12]) (by rw [hR.tmp]; simp [upd, h8c, h11, h12]) hk2) fun a hR => ?_
              refine held_look hR rfl rfl (by decide) (v := .pointer (some ⟨b2, o2 + k * 5 + 3, none⟩)) (rx_field tfld_27_1 (by decide) (by rw [hR.tmp]; simp [upd, h8c, h11, h12])) fun a hR => ?_
              refine op_store hR rfl (rx_store (v := .int .i64 (xorV m0 1)) (o := o2 + k * 5 + 3) tkn_2 tsz_2 (by rw [hR.tmp]; simp [upd, h8c, h11, h12]) (by rw [hR.tmp]; simp [upd, h8c, h11, h12]) rfl rfl hb2 (by omega)) fun a hR => ?_
              have hks : KeepC n 0 w3 _ := KeepC.store (w1 := { w3 with drawn := w3.drawn + 1 }) (v := .int .i64 (xorV m0 1)) (.inr rfl) hb2n hb2 (show o2 + k * 5 + 3 < vs2.length by omega) (by rw [hm0]; exact .inr (.inl ⟨_, _, rfl, rfl⟩))
              exact ⟨rfl, _, hR, ⟨by simp [upd, hJ.1], by simp [upd, hJ.2.1], by simp [upd, hJ.2.2.1], hJ.2.2.2.1.trans hks.b, hJ.2.2.2.2.keep hks⟩, (by simp [upd, h11]), (by simp [upd, h12])⟩
            · rintro a w4 ⟨f4, hR, hJ, h11, h12⟩
              have h8c := hJ.2.2.1
              refine wp_region ?_
              refine ops_look hR rfl rfl rfl (by decide) (v := .int .i64 (k : Int)) (rx_move.trans (by rw [show a.eval (.tmp 12) = .int .i64 (k : Int) from (by rw [hR.tmp]; simp [upd, h8c, h11, h12])])) fun a hR => ?_
              refine ops_look hR rfl rfl rfl (by decide) (v := .int .i64 ((k + 1 : Nat) : Int)) ((rx_add (m := (k : Int)) (n := 1) (by rw [hR.tmp]; simp [upd, h8c, h11, h12]) rfl).trans (by rw [w1])) fun a hR => ?_
              refine ops_look hR rfl rfl rfl (by decide) (v := .int .i64 ((k + 1 : Nat) : Int)) (rx_assign.trans (by rw [show a.eval (.tmp 122) = .int .i64 ((k + 1 : Nat) : Int) from (by rw [hR.tmp]; simp [upd, h8c, h11, h12])])) fun a hR => ?_
              exact ops_end ⟨rfl, _, by omega, _, k + 1, hR, ⟨by simp [upd, hJ.1], by simp [upd, hJ.2.1], by simp [upd, hJ.2.2.1], hJ.2.2.2⟩, (by simp [upd, h11]), (by simp [upd]), by omega, rfl⟩
          · rintro hge a w4 ⟨rfl, f3, hR, hJ, h11, h12, _⟩
            exact ⟨f3, hR, hJ, h11⟩
        · rintro a w2 ⟨f3, hR, hJ, h11⟩
          have h8c := hJ.2.2.1
          obtain ⟨HV, RV, e0, e1, hH, hRr⟩ := id hJ.2.2.2.2
          obtain ⟨A, cp, rfl, hC⟩ := hRr
          obtain ⟨b, o, vs, t, rfl, hbn, hb, hbl, hin⟩ := hC (by omega)
          obtain ⟨hE, hT⟩ := hin i hlt
          obtain ⟨s, hs, hsz⟩ := hE
          have hs : vs.getD (o + i * 2 + 0) undef = .string s := hs
          have hsum : s.size + (⟨⟨[120]⟩⟩ : ByteArray).size ≤ 1000000000 := by show s.size + 1 ≤ _; omega
          have hcs : w2.cell? ⟨b, o + i * 2 + 0, none⟩ = some (.string s) := by rw [cell_at hb (by omega), hs]
          refine wp_region_one (l := [_, _, _, _, _, _, _, _, _, _, _, _]) rfl (by kernel_rfl) (by kernel_rfl) rfl (fun c a w h => by cases h.1) ?_
          refine held_look hR rfl rfl (by decide) (v := .pointer (some ⟨b8, o8 + 1, none⟩)) (rx_field tfld_40_1 (by decide) (by rw [hR.tmp]; simp [upd, h8c, h11])) fun a hR => ?_
          refine held_look hR rfl rfl (by decide) (v := .slice (some ⟨b, o, none⟩) d.rows.length cp) (rx_load tkn_38 tagg_38 (by rw [hR.tmp]; simp [upd, h8c, h11]) e1) fun a hR => ?_
          refine held_look hR rfl rfl (by decide) (v := .int .i64 (i : Int)) (rx_move.trans (by rw [show a.eval (.tmp 11) = .int .i64 (i : Int) from (by rw [hR.tmp]; simp [upd, h8c, h11])])) fun a hR => ?_
          refine held_look hR rfl rfl (by decide) (v := .pointer (some ⟨b8, o8 + 1, none⟩)) (rx_field tfld_40_1 (by decide) (by rw [hR.tmp]; simp [upd, h8c, h11])) fun a hR => ?_
          refine held_look hR rfl rfl (by decide) (v := .slice (some ⟨b, o, none⟩) d.rows.length cp) (rx_load tkn_38 tagg_38 (by rw [hR.tmp]; simp [upd, h8c, h11]) e1) fun a hR => ?_
          refine held_look hR rfl rfl (by decide) (v := .int .i64 (i : Int)) (rx_move.trans (by rw [show a.eval (.tmp 11) = .int .i64 (i : Int) from (by rw [hR.tmp]; simp [upd, h8c, h11])])) fun a hR => ?_
          refine held_look hR rfl rfl (by decide) (v := .pointer (some ⟨b, o + i * 2, none⟩)) (rx_index (c := cp) tix_38 (by rw [hR.tmp]; simp [upd, h8c, h11]) (by rw [hR.tmp]; simp [upd, h8c, h11]) hi) fun a hR => ?_
          refine held_look hR rfl rfl (by decide) (v := .pointer (some ⟨b, o + i * 2 + 0, none⟩)) (rx_field tfld_53_0 (by decide) (by rw [hR.tmp]; simp [upd, h8c, h11])) fun a hR => ?_
          refine held_look hR rfl rfl (by decide) (v := .string s) (rx_load tkn_9 tagg_9 (by rw [hR.tmp]; simp [upd, h8c, h11]) hcs) fun a hR => ?_
          refine held_look hR rfl rfl (by decide) (v := .string (s ++ ⟨⟨[120]⟩⟩)) (rx_cat_eq (m := s) (n := ⟨⟨[120]⟩⟩) hsum (by rw [hR.tmp]; simp [upd, h8c, h11]) rfl) fun a hR => ?_
          refine held_look hR rfl rfl (by decide) (v := .pointer (some ⟨b, o + i * 2, none⟩)) (rx_index (c := cp) tix_38 (by rw [hR.tmp]; simp [upd, h8c, h11]) (by rw [hR.tmp]; simp [upd, h8c, h11]) hi) fun a hR => ?_
          refine held_look hR rfl rfl (by decide) (v := .pointer (some ⟨b, o + i * 2 + 0, none⟩)) (rx_field tfld_53_0 (by decide) (by rw [hR.tmp]; simp [upd, h8c, h11])) fun a hR => ?_
          refine op_store hR rfl (rx_store (v := .string (s ++ ⟨⟨[120]⟩⟩)) (o := o + i * 2 + 0) tkn_9 tsz_9 (by rw [hR.tmp]; simp [upd, h8c, h11]) (by rw [hR.tmp]; simp [upd, h8c, h11]) rfl rfl hb (by omega)) fun a hR => ?_
          have hks : KeepC n 1 w2 _ := KeepC.store (w1 := { w2 with drawn := w2.drawn + 1 }) (v := .string (s ++ ⟨⟨[120]⟩⟩)) (.inr rfl) hbn hb (show o + i * 2 + 0 < vs.length by omega) (by rw [hs]; exact .inr (.inr ⟨_, _, rfl, rfl, by rw [ByteArray.size_append]; exact Nat.le_refl _⟩))
          exact ⟨rfl, _, hR, ⟨by simp [upd, hJ.1], by simp [upd, hJ.2.1], by simp [upd, hJ.2.2.1], hJ.2.2.2.1.trans hks.b, hJ.2.2.2.2.keep hks⟩, (by simp [upd, h11])⟩
      · rintro a w2 ⟨f3, hR, hJ, h11⟩
        have h8c := hJ.2.2.1
        refine wp_region ?_
        refine ops_look hR rfl rfl rfl (by decide) (v := .int .i64 (i : Int)) (rx_move.trans (by rw [show a.eval (.tmp 11) = .int .i64 (i : Int) from (by rw [hR.tmp]; simp [upd, h8c, h11])])) fun a hR => ?_
        refine ops_look hR rfl rfl rfl (by decide) (v := .int .i64 ((i + 1 : Nat) : Int)) ((rx_add (m := (i : Int)) (n := 1) (by rw [hR.tmp]; simp [upd, h8c, h11]) rfl).trans (by rw [w1])) fun a hR => ?_
        refine ops_look hR rfl rfl rfl (by decide) (v := .int .i64 ((i + 1 : Nat) : Int)) (rx_assign.trans (by rw [show a.eval (.tmp 111) = .int .i64 ((i + 1 : Nat) : Int) from (by rw [hR.tmp]; simp [upd, h8c, h11])])) fun a hR => ?_
        exact ops_end ⟨rfl, _, by omega, _, i + 1, hR, ⟨by simp [upd, hJ.1], by simp [upd, hJ.2.1], by simp [upd, hJ.2.2.1], hJ.2.2.2⟩, (by simp [upd]), by omega, rfl⟩
    · rintro hge a w1 ⟨rfl, f2, hR, hJ, h11, _⟩
      exact ⟨f2, hR, ⟨hJ.1, hJ.2.1, hJ.2.2.1, hJ.2.2.2.1, hJ.2.2.2.2.mono (by omega)⟩⟩
end Go.Proofs.Ytmnibpgmcgdfpaa
