/- Contracts of functions and laws of this seat, each for every input that it names: lemmas of the proof. -/
import Derived.Test.YtmnibpgmcgdfpaaXDs
import Derived.Test.YtmnibpgmcgdfpaaXDh
import Derived.Test.YtmnibpgmcgdfpaaXAv
import Derived.Test.YtmnibpgmcgdfpaaRows
import Derived.ProofKit
import Derived.Test.YtmnibpgmcgdfpaaXAa
set_option linter.unusedSimpArgs false
set_option linter.unusedVariables false
set_option linter.unusedSimpArgs false
set_option linter.unusedVariables false
namespace Go.PL
open Go.RowKit
theorem YLst.imp {lo n sz : Nat} {w : World} {v : Value} {E E' : Nat → (Nat → Value) → Prop} (h : YLst lo w v n sz E) (hE : ∀ k g, k < n → E k g → E' k g) : YLst lo w v n sz E' := by
  obtain ⟨A, c, hv, h⟩ := h
  refine ⟨A, c, hv, fun hn => ?_⟩
  obtain ⟨b, o, vs, t, h1, h2, h3, h4, h5⟩ := h hn
  exact ⟨b, o, vs, t, h1, h2, h3, h4, fun k hk => hE k _ hk (h5 k hk)⟩
theorem ylst_of {S : Stable} {w : World} {v : Value} {es : List PV} {sz lo : Nat} (hst : StabS S w) (hlo : ∀ b, S.z b → lo ≤ b) (r : Rep S v (PV.frl es)) (hz : ∀ i, i < es.length → (es.getD i .any).cells.length = sz) (hsz : 0 < sz) :
    YLst lo w v es.length sz (fun k g => ∀ j, j < sz → Rep S (g j) ((es.getD k .any).cells.getD j .any)) := by
  obtain ⟨A, c, hv, h⟩ := r.young_cells hst hlo hz hsz
  refine ⟨A, c, hv, fun hn => ?_⟩
  obtain ⟨b, o, vs, t, h1, h2, h3, h4, h5⟩ := h hn
  exact ⟨b, o, vs, t, h1, h2, h3, h4, fun k hk j hj => h5 k j hk hj⟩
theorem estr_of {S : Stable} {g : Nat → Value} {s : List UInt8} {B : Nat} (r : Rep S (g 0) (.str s)) (h : s.length ≤ B) : EStr B g := by
  show ∃ t : ByteArray, g 0 = .string t ∧ t.size ≤ B
  generalize g 0 = u at r ⊢
  cases r; exact ⟨_, rfl, h⟩
theorem eint_of {S : Stable} {g : Nat → Value} {m : Int} (r : Rep S (g 3) (.int .i64 m)) : EInt g := by
  show ∃ k, g 3 = .int .i64 k
  generalize g 3 = u at r ⊢
  cases r; exact ⟨_, rfl⟩
end Go.PL
namespace Go.Proofs.Ytmnibpgmcgdfpaa
open Go.PL Go.RowKit
/-- texts are short, numbers are numbers of 64 bits -/
structure TxtD (d : Dc) : Prop where
  h : ∀ e ∈ d.head, ∀ s ∈ e.l, s.length ≤ 200
  i : ∀ r ∈ d.rows, r.item.length ≤ 200
def NumE (e : En) : Prop := -9223372036854775808 ≤ e.n ∧ e.n ≤ 9223372036854775807
structure NumD (d : Dc) : Prop where
  h : ∀ e ∈ d.head, NumE e
  r : ∀ r ∈ d.rows, ∀ e ∈ r.l, NumE e
theorem txtD {d : Dc} (h : heavyD d = false) : TxtD d := by
  simp only [heavyD, Bool.or_eq_false_iff, List.any_eq_false, decide_eq_false_iff_not] at h
  refine ⟨fun e he s hs => ?_, fun r hr => ?_⟩
  · have h1 := h.2.1
    simp only [heavyEs, Bool.or_eq_false_iff, List.any_eq_false] at h1
    have h2 : entH e = false := by simpa using h1.2 e he
    simp only [entH, Bool.or_eq_false_iff, List.any_eq_false] at h2
    have h3 : longB 200 s = false := by simpa using h2.2.2.2 s hs
    simp only [longB, decide_eq_false_iff_not] at h3
    omega
  · have h3 : rowH r = false := by simpa using h.2.2 r hr
    simp only [rowH, Bool.or_eq_false_iff, longB, decide_eq_false_iff_not] at h3
    omega
theorem lnOkN {d : Dc} (h : SmallD d) (ht : TxtD d) (hn : NumD d) : LnOk d := ⟨by have := h.h; omega, by have := h.r; omega, fun e he => ⟨by have := h.e e he; omega, hn.h e he⟩, fun r hr => ⟨by have := ht.i r hr; omega, by have := (h.s r hr).1; omega, fun e he => ⟨by have := (h.s r hr).2 e he; omega, hn.r r hr e he⟩⟩⟩
theorem lines_lenN {d : Dc} (h : LnOk d) : (linesM d).length ≤ maxLen := by
  have h1 := flat_len d.rows h.re
  have h2 := h.hl
  have h3 := h.rl
  rw [maxLen_eq]
  simp only [linesM, List.length_append, List.length_map]
  omega
section
variable {S : Stable} {w : World} {lo : Nat} (hst : StabS S w) (hlo : ∀ b, S.z b → lo ≤ b)
include hst hlo
theorem ystr_of {v : Value} {l : List Str} (r : Rep S v (PV.frl (l.map .str))) (hl : ∀ s ∈ l, s.length ≤ 200) : YLst lo w v l.length 1 (fun _ => EStr 200) := by
  have := ylst_of hst hlo r (sz := 1) (fun i hi => by
    have hi' : i < l.length := by simpa using hi
    rw [getD_str hi']; rfl) (by omega)
  rw [List.length_map] at this
  refine this.imp fun k g hk h => ?_
  have h0 := h 0 (by omega)
  rw [getD_str hk] at h0
  exact estr_of h0 (hl _ (getD_mem hk))
theorem yent_of {v : Value} {l : List En} (r : Rep S v (PV.frl (l.map entF))) : YLst lo w v l.length 5 (fun k g => Rep S (g 3) (.int .i64 (l.getD k default).n) ∧ Rep S (g 4) (PV.frl ((l.getD k default).l.map .str))) := by
  have hg : ∀ {i}, i < l.length → (l.map entF).getD i .any = entF (l.getD i default) := fun h => getD_map h
  have := ylst_of hst hlo r (sz := 5) (fun i hi => by
    have hi' : i < l.length := by simpa using hi
    rw [hg hi']; rfl) (by omega)
  rw [List.length_map] at this
  refine this.imp fun k g hk h => ?_
  have h3 := h 3 (by omega)
  have h4 := h 4 (by omega)
  rw [hg hk] at h3 h4
  exact ⟨h3, h4⟩
theorem xd_of {v : Value} {d : Dc} (ht : TxtD d) (r : Rep S v (.rptr [PV.frl (d.head.map entF), rowsF d.rows])) : ∃ b8 o8, v = .pointer (some ⟨b8, o8, none⟩) ∧ XD lo 200 w b8 o8 d := by
  generalize hcs : [PV.frl (d.head.map entF), rowsF d.rows] = cs at r
  cases r with
  | rptr b o cs vals hS hR =>
    subst hcs
    refine ⟨b, o, rfl, vals 0, vals 1, hst.c _ _ _ (hS 0 (by simp)), hst.c _ _ _ (hS 1 (by simp)), ?_, ?_⟩
    · have r0 : Rep S (vals 0) (PV.frl (d.head.map entF)) := hR 0 (by simp)
      exact (yent_of hst hlo r0).imp fun k g hk ⟨h3, h4⟩ => ⟨eint_of h3, ystr_of hst hlo h4 (ht.h _ (getD_mem' hk))⟩
    · have r1 : Rep S (vals 1) (rowsF d.rows) := hR 1 (by simp)
      have hi := ht.i
      generalize d.rows = l at r1 hi
      generalize vals 1 = u at r1
      cases l with
      | nil =>
        have r1 : Rep S u (.sl .nil []) := r1
        cases r1
        exact ⟨none, 0, rfl, fun h => absurd h (by simp)⟩
      | cons x l =>
        have r1 : Rep S u (PV.frl ((x :: l).map rowF)) := r1
        generalize x :: l = l at r1 hi
        have hg : ∀ {i}, i < l.length → (l.map rowF).getD i .any = rowF (l.getD i default) := fun h => getD_map h
        have := ylst_of hst hlo r1 (sz := 2) (fun i hi => by
          have hi' : i < l.length := by simpa using hi
          rw [hg hi']; rfl) (by omega)
        rw [List.length_map] at this
        refine this.imp fun k g hk h => ?_
        have h0 := h 0 (by omega)
        have h1 := h 1 (by omega)
        rw [hg hk] at h0 h1
        exact ⟨estr_of h0 (hi _ (getD_mem' hk)), (yent_of hst hlo (v := g 1) h1).imp fun k g hk h => eint_of h.1⟩
end
end Go.Proofs.Ytmnibpgmcgdfpaa

set_option linter.unusedSimpArgs false
set_option linter.unusedVariables false
set_option linter.unusedSimpArgs false
set_option linter.unusedVariables false
namespace Go.Proofs.Ytmnibpgmcgdfpaa
open Go.PL Go.RowKit
/-- behind the first copy -/
structure DrQ (d : Dc) (s : St) : Prop where
  n : s.n = 158
  f4 : s.fr 4 = .ptr 4 0
  f7 : s.fr 7 = .ptr 7 0
  h4 : s.m.h 4 = some (docc d) ∧ s.m.z 4 = false
  h7 : s.m.h 7 = some (docc d) ∧ s.m.z 7 = false
def cellsF (d : Dc) : List PV := [PV.frl (d.head.map entF), rowsF d.rows]
structure DrQ2 (d : Dc) (φ : Nat → Nat) (s : St) : Prop where
  n : s.n = 158
  f8 : s.fr 8 = .ptr 8 0
  h8 : s.m.h 8 = some (cellsF d) ∧ s.m.z 8 = false
  f4 : s.fr 4 = .ptr 4 0 ∧ s.m.ph 4 = some (φ 4)
  f7 : s.fr 7 = .ptr 7 0 ∧ s.m.ph 7 = some (φ 7)
theorem rowsF_ids (l : List Rw) : (rowsF l).ids = [] := by
  cases l with
  | nil => rfl
  | cons r l => exact frl_ids
theorem cellsF_ids (d : Dc) : ∀ p ∈ cellsF d, p.ids = [] := forall_cons frl_ids (forall_cons (rowsF_ids _) forall_nil)
theorem dull_rowF (r : Rw) : (rowF r).dull = row r := by simp [rowF, row, PV.dull, PV.dullL, PV.frl, dull_entsF]
theorem dull_rowsF (l : List Rw) : PV.dullL (l.map rowF) = l.map row := by
  rw [PV.dullL_map, List.map_map]; exact List.map_congr_left fun e _ => dull_rowF e
theorem dull_row (r : Rw) : (row r).dull = row r := by simp [row, PV.dull, PV.dullL, dull_ents]
theorem dull_rows (l : List Rw) : PV.dullL (l.map row) = l.map row := by
  rw [PV.dullL_map, List.map_map]; exact List.map_congr_left fun e _ => dull_row e
def docG (d : Dc) : PV := .agg [.sl .no (d.head.map entF), .sl .no (d.rows.map rowF)]
theorem dull_docG (d : Dc) : (docG d).dull = doc d := by simp [docG, doc, PV.dull, PV.dullL, dull_entsF, dull_rowsF]
theorem dull_doc (d : Dc) : (doc d).dull = doc d := by simp [doc, PV.dull, PV.dullL, dull_ents, dull_rows]
set_option maxRecDepth 100000 in
set_option maxHeartbeats 64000000 in
theorem DocRight_pure (l : List Fd) (d o : Dc) (hl : l.length ≤ maxLen) (hl' : ∀ f ∈ l, f.cases'.length ≤ maxLen) (hd : Fine d) (hn : NumD d) (ho : Fine o) : PL.Pure Try.prog 5 [flds l, doc d, doc o] (.bool true) := by
  have c1 := RHeavyL_pure l hl hl'
  have c2 := Heavy_pure d hd
  have c3 := Heavy_pure o ho
  cases g1 : heavyL l
  · rw [g1] at c1
    cases g2 : heavyD d
    · rw [g2] at c2
      cases g3 : heavyD o
      · rw [g3] at c3
        have sd := smallD g2
        have td := txtD g2
        have lk := lnOkN sd td hn
        obtain ⟨l1, l2⟩ := heavyL_small g1
        have od := sd.ok
        have p1 := DRight_pure l d hl l2 hd
        have p2 := RRightD_pure l d hl hl' hd
        have p3 := DSame_pure d o hd ho
        have p4 := RSameD_pure d o hd ho
        have p5 := Lines_pure d lk
        have p6 := RLinesD_pure d lk
        have p7 := RSame_pure (linesM d) (linesM d) (lines_lenN lk) (lines_lenN lk)
        have p8 := DOwn_pure d od.h od.r od.e od.s
        have p9 := DOwn_fr d od.h od.r od.e od.s
        have pS := RSameD_pure d d hd hd
        rw [decide_eq_true rfl] at pS p7
        have pX : PL.Pure Try.prog 21 [docG d, doc d] (.bool true) := PL.Pure.dull (by simp only [List.map_cons, List.map_nil, dull_docG, dull_doc]; exact pS)
        have e1 : (rightD l d != rightD l d) = false := by simp
        have e2 : (decide (d = o) != decide (d = o)) = false := by simp
        generalize rightD l d = bR at *
        generalize decide (d = o) = bS at *
        refine PL.Pure.raw2 (r := true) 5 2 158 [] [(4, docc d), (7, docc d)] [(8, .rptr (cellsF d))] (Q1 := DrQ d) (Q2 := DrQ2 d) Try.func5 (by decide) rfl (by simp [Try.ntmps5]) ?_ ?_ ?_ ?_ ?_
        · refine tawp_seq ?_
          simp only [go_sem, flds, doc, Try.ntmps5]
          refine tawp_seq ?_
          simp only [go_sem]
          refine vCall_of (Awake_pure) ?_ ?_ ?_; (focus simp only [go_sem]); (focus simp only [go_sem])
          simp only [go_sem]
          refine tawp_seq ?_
          simp only [go_sem]
          refine vCall_of (c1) ?_ ?_ ?_; (focus simp only [go_sem, flds]); (focus simp only [go_sem, flds])
          simp only [go_sem]
          refine vCall_of (c2) ?_ ?_ ?_; (focus simp only [go_sem, doc]); (focus simp only [go_sem, doc])
          simp only [go_sem]
          refine vCall_of (c3) ?_ ?_ ?_; (focus simp only [go_sem, doc]); (focus simp only [go_sem, doc])
          simp only [go_sem]
          refine tawp_seq ?_
          simp only [go_sem]
          refine vDrawQ (by kernel_rfl) (by kernel_rfl) ?_
          simp only [go_sem]
          refine vCall_of (p1) ?_ ?_ ?_; (focus simp only [go_sem, flds, doc]); (focus simp only [go_sem, flds, doc])
          simp only [go_sem]
          refine vCall_of (p2) ?_ ?_ ?_; (focus simp only [go_sem, flds, doc]); (focus simp only [go_sem, flds, doc])
          simp only [go_sem, e1]
          refine vCall_of (p3) ?_ ?_ ?_; (focus simp only [go_sem, doc]); (focus simp only [go_sem, doc])
          simp only [go_sem]
          refine vCall_of (p4) ?_ ?_ ?_; (focus simp only [go_sem, doc]); (focus simp only [go_sem, doc])
          simp only [go_sem, e2]
          refine vCall_of (p5) ?_ ?_ ?_; (focus simp only [go_sem, doc]); (focus simp only [go_sem, doc])
          simp only [go_sem, strs]
          refine vCall_of (p6) ?_ ?_ ?_; (focus simp only [go_sem, doc]); (focus simp only [go_sem, doc])
          simp only [go_sem, strs]
          refine vCall_of (p7) ?_ ?_ ?_; (focus simp only [go_sem, strs]); (focus simp only [go_sem, strs])
          simp only [go_sem]
          refine tawp_seq ?_
          simp only [go_sem]
          refine vCall_of (p8) ?_ ?_ ?_; (focus simp only [go_sem, doc]); (focus simp only [go_sem, doc])
          simp only [go_sem, doc]
          exact tawp_end ⟨rfl, rfl, rfl, ⟨rfl, rfl⟩, ⟨rfl, rfl⟩⟩
        · intro s h
          exact ⟨h.n, forall_nil, forall_cons ⟨h.f4, pub_docc h.h4.1 h.h4.2, docc_ids d, docc_nofr d⟩ (forall_cons ⟨h.f7, pub_docc h.h7.1 h.h7.2, docc_ids d, docc_nofr d⟩ forall_nil)⟩
        · intro φ
          clear c1 c2 c3 p1 p2 p3 p4 p5 p6 p7 p8 pS lk td sd od hd hn g2
          obtain ⟨hd', rws⟩ := d
          cases rws with
          | nil =>
            refine tawp_seq ?_
            simp only [go_sem, yst, List.map_cons, List.map_nil, docc]
            refine vCall_of (p9) ?_ ?_ ?_; (focus simp only [go_sem, doc]); (focus simp only [go_sem, doc])
            simp only [go_sem, docF, rowsF]
            refine tawp_seq ?_
            simp only [go_sem]
            refine vCall_of (pX) ?_ ?_ ?_; (focus simp only [go_sem, docG, doc]); (focus simp only [go_sem, docG, doc])
            simp only [go_sem]
            exact tawp_end ⟨rfl, rfl, ⟨rfl, rfl⟩, ⟨rfl, rfl⟩, ⟨rfl, rfl⟩⟩
          | cons r rs =>
            refine tawp_seq ?_
            simp only [go_sem, yst, List.map_cons, List.map_nil, docc]
            refine vCall_of (p9) ?_ ?_ ?_; (focus simp only [go_sem, doc]); (focus simp only [go_sem, doc])
            simp only [go_sem, docF, rowsF]
            refine tawp_seq ?_
            simp only [go_sem]
            refine vCall_of (pX) ?_ ?_ ?_; (focus simp only [go_sem, docG, doc]); (focus simp only [go_sem, docG, doc])
            simp only [go_sem]
            exact tawp_end ⟨rfl, rfl, ⟨rfl, rfl⟩, ⟨rfl, rfl⟩, ⟨rfl, rfl⟩⟩
        · intro φ s h
          refine ⟨h.n, forall_cons ⟨?_, by simp [PV.ids]⟩ forall_nil, forall_cons h.f4 (forall_cons h.f7 forall_nil)⟩
          rw [h.f8]
          have := Pub.blk (K := fun _ => False) (m := s.m) 8 0 (cellsF d) (cellsF d) (by simp) h.h8.1 h.h8.2 rfl (cellsF_ids d) fun j hj => .clean (cellsF_ids d _ (getD_mem hj))
          simpa using this
        · intro n S2 S3 a1 w hkeep hnw hz2 hst3 hz3 hdf hN hL3 hH
          have hv8 := hL3 _ (List.mem_singleton.2 rfl)
          have r4 := hH (4, docc d) (by simp)
          have r7 := hH (7, docc d) (by simp)
          obtain ⟨b8, o8, e8, hX⟩ := xd_of hst3 (fun b h => (hz3 b).1 h) td hv8
          refine right_tail d sd n w (fun i => a1.tmps.getD i undef) b8 o8 e8 hX _ rfl a1 ⟨hdf, hN, fun _ => rfl⟩ fun a' w' f' hR e4 e7 hk => ?_
          have hsz : n ≤ w'.heap.size := Nat.le_trans hnw hk.size
          simp only [dropC]
          refine wp_mono (wp_last (L := [(4, .rptr (docc d)), (7, .rptr (docc d))]) (fn := Try.f5) Try.results5 (hkeep w' hk) (fun b hb => (hz2 b).2 (by omega)) hR.d hR.n ?_ ?_ ?_) fun e a2 w2 ⟨h1, h2, h3, h4⟩ => ⟨h1, h2, h3, hk.trans (h4.mono fun k hk' => by omega)⟩
          · refine forall_cons ?_ (forall_cons ?_ forall_nil)
            · show Rep S2 (a'.tmps.getD 4 undef) _; rw [hR.f, e4]; exact r4
            · show Rep S2 (a'.tmps.getD 7 undef) _; rw [hR.f, e7]; exact r7
          · exact forall_cons rfl (forall_cons rfl forall_nil)
          · simp only [go_sem, docc]
            refine vCall_of (pS) ?_ ?_ ?_; (focus simp only [go_sem, doc]); (focus simp only [go_sem, doc])
            simp only [go_sem]
      · rw [g3] at c3
        refine PL.Pure.of_v Try.func5 (by decide) rfl Try.ntmps5 Try.results5 (by simp) rfl ?_
        simp only [go_sem, flds, doc]
        refine vCall_of (Awake_pure) ?_ ?_ ?_; (focus simp only [go_sem]); (focus simp only [go_sem])
        simp only [go_sem]
        refine vCall_of (c1) ?_ ?_ ?_; (focus simp only [go_sem, flds]); (focus simp only [go_sem, flds])
        simp only [go_sem]
        refine vCall_of (c2) ?_ ?_ ?_; (focus simp only [go_sem, doc]); (focus simp only [go_sem, doc])
        simp only [go_sem]
        refine vCall_of (c3) ?_ ?_ ?_; (focus simp only [go_sem, doc]); (focus simp only [go_sem, doc])
        simp only [go_sem]
    · rw [g2] at c2
      refine PL.Pure.of_v Try.func5 (by decide) rfl Try.ntmps5 Try.results5 (by simp) rfl ?_
      simp only [go_sem, flds, doc]
      refine vCall_of (Awake_pure) ?_ ?_ ?_; (focus simp only [go_sem]); (focus simp only [go_sem])
      simp only [go_sem]
      refine vCall_of (c1) ?_ ?_ ?_; (focus simp only [go_sem, flds]); (focus simp only [go_sem, flds])
      simp only [go_sem]
      refine vCall_of (c2) ?_ ?_ ?_; (focus simp only [go_sem, doc]); (focus simp only [go_sem, doc])
      simp only [go_sem]
  · rw [g1] at c1
    refine PL.Pure.of_v Try.func5 (by decide) rfl Try.ntmps5 Try.results5 (by simp) rfl ?_
    simp only [go_sem, flds, doc]
    refine vCall_of (Awake_pure) ?_ ?_ ?_; (focus simp only [go_sem]); (focus simp only [go_sem])
    simp only [go_sem]
    refine vCall_of (c1) ?_ ?_ ?_; (focus simp only [go_sem, flds]); (focus simp only [go_sem, flds])
    simp only [go_sem]
end Go.Proofs.Ytmnibpgmcgdfpaa

set_option linter.unusedSimpArgs false
set_option linter.unusedVariables false
set_option linter.unusedSimpArgs false
set_option linter.unusedVariables false
namespace Go.Proofs.Ytmnibpgmcgdfpaa
open Go.PL
open Go.ChangeShapes Go.WideShapes Go.ChangeAt Go.RowKit
theorem Try.own : ownKnob Try.prog.godebug = Option.none := by kernel_rfl
theorem Try.laidOut : laidOutB Try.prog = true := by kernel_rfl
theorem Try.lays : layAll Try.prog = true := by kernel_rfl
theorem oddStrs : oddB Try.prog 25 = false := by kernel_rfl
structure LenLn' (x : Ln) : Prop where
  c : x.fd.cases'.length ≤ maxLen
  f : x.fo.length ≤ maxLen
  b : x.ba.length ≤ maxLen
theorem pt_strs {cs : List PV} (h : PT Try.prog 25 cs) : ∃ l : List Str, cs = [.sl .no (l.map .str)] ∧ l.length ≤ maxLen := by
  obtain ⟨l, rfl, h1, h2⟩ := h.slice_inv oddStrs Try.underlying25
  obtain ⟨xs, rfl, _⟩ := all_told (enc := PV.str) (Q := fun _ => True) (fun p hp => by
    obtain ⟨s, rfl, _⟩ := (h2 p hp).string Try.underlying9
    exact ⟨s, rfl, trivial⟩)
  exact ⟨xs, rfl, by simpa using h1⟩
theorem pt_ref {cs : List PV} (h : PT Try.prog 24 cs) : ∃ r : Rf, cs = [.int .i64 r.sc, .str r.gr, .str r.nm] := by
  have h1 : PTs Try.prog [3, 9, 9] cs := h.struct_inv Try.underlying24
  obtain ⟨a, b, rfl, h2, h3⟩ := h1.cons_inv
  obtain ⟨c, d, rfl, h4, h5⟩ := h3.cons_inv
  obtain ⟨e, f, rfl, h6, h7⟩ := h5.cons_inv
  obtain ⟨x, rfl, _⟩ := h2.int_inv Try.underlying3
  obtain ⟨y, rfl, _⟩ := h4.string_inv Try.underlying9
  obtain ⟨z, rfl, _⟩ := h6.string_inv Try.underlying9
  rw [h7.nil_inv]
  exact ⟨⟨x, y, z⟩, rfl⟩
theorem pt_fld {cs : List PV} (h : PT Try.prog 76 cs) : ∃ f : Fd, cs = [.int .i64 f.at'.sc, .str f.at'.gr, .str f.at'.nm, .int .i64 f.kind, .str f.df, .sl .no (f.cases'.map .str), .int .i64 f.worth] ∧ f.cases'.length ≤ maxLen := by
  have h1 : PTs Try.prog [24, 3, 9, 25, 2] cs := h.struct_inv Try.underlying76
  obtain ⟨a1, b1, rfl, h2, h3⟩ := h1.cons_inv
  obtain ⟨a2, b2, rfl, h4, h5⟩ := h3.cons_inv
  obtain ⟨a3, b3, rfl, h6, h7⟩ := h5.cons_inv
  obtain ⟨a4, b4, rfl, h8, h9⟩ := h7.cons_inv
  obtain ⟨a5, b5, rfl, h10, h11⟩ := h9.cons_inv
  obtain ⟨r, rfl⟩ := pt_ref h2
  obtain ⟨x, rfl, _⟩ := h4.int_inv Try.underlying3
  obtain ⟨y, rfl, _⟩ := h6.string_inv Try.underlying9
  obtain ⟨l, rfl, hl⟩ := pt_strs h8
  obtain ⟨z, rfl, _⟩ := h10.int_inv Try.underlying2
  rw [h11.nil_inv]
  exact ⟨⟨r, x, y, l, z⟩, rfl, hl⟩
end Go.Proofs.Ytmnibpgmcgdfpaa

set_option linter.unusedSimpArgs false
set_option linter.unusedVariables false
set_option linter.unusedSimpArgs false
set_option linter.unusedVariables false
namespace Go.Proofs.Ytmnibpgmcgdfpaa
open Go.PL
open Go.ChangeShapes Go.WideShapes Go.ChangeAt Go.RowKit
theorem oddFds : oddB Try.prog 37 = false := by kernel_rfl
theorem oddEnts : oddB Try.prog 28 = false := by kernel_rfl
theorem oddRows : oddB Try.prog 38 = false := by kernel_rfl
theorem pa_fld {p : PV} (h : PA Try.prog 76 p) : ∃ f : Fd, p = fld f ∧ f.cases'.length ≤ maxLen := by
  obtain ⟨cs, rfl, h1⟩ := PA.agg tagg_76 h
  obtain ⟨f, rfl, hf⟩ := pt_fld h1
  exact ⟨f, rfl, hf⟩
theorem pa_flds {p : PV} (h : PA Try.prog 37 p) : ∃ l : List Fd, p = flds l ∧ l.length ≤ maxLen ∧ ∀ f ∈ l, f.cases'.length ≤ maxLen := by
  obtain ⟨l, rfl, h1, h2⟩ := h.slice oddFds Try.underlying37
  obtain ⟨xs, rfl, h3⟩ := all_told (fun p hp => pa_fld (h2 p hp))
  exact ⟨xs, rfl, by simpa using h1, h3⟩
theorem pa_ent {p : PV} (h : PA Try.prog 27 p) : ∃ e : En, p = ent e ∧ e.l.length ≤ maxLen := by
  obtain ⟨cs, rfl, h1⟩ := PA.agg tagg_27 h
  have h1 : PTs Try.prog [24, 2, 25] cs := h1.struct_inv Try.underlying27
  obtain ⟨a, b, rfl, h2, h3⟩ := h1.cons_inv
  obtain ⟨c, d, rfl, h4, h5⟩ := h3.cons_inv
  obtain ⟨e, f, rfl, h6, h7⟩ := h5.cons_inv
  obtain ⟨r, rfl⟩ := pt_ref h2
  obtain ⟨n, rfl, _⟩ := h4.int_inv Try.underlying2
  obtain ⟨l, rfl, hl⟩ := pt_strs h6
  rw [h7.nil_inv]
  exact ⟨⟨r, n, l⟩, rfl, hl⟩
theorem pt_ents {cs : List PV} (h : PT Try.prog 28 cs) : ∃ l : List En, cs = [.sl .no (l.map ent)] ∧ l.length ≤ maxLen ∧ ∀ e ∈ l, e.l.length ≤ maxLen := by
  obtain ⟨l, rfl, h1, h2⟩ := h.slice_inv oddEnts Try.underlying28
  obtain ⟨xs, rfl, h3⟩ := all_told (fun p hp => pa_ent (h2 p hp))
  exact ⟨xs, rfl, by simpa using h1, h3⟩
theorem pa_row {p : PV} (h : PA Try.prog 53 p) : ∃ r : Rw, p = row r ∧ r.l.length ≤ maxLen ∧ ∀ e ∈ r.l, e.l.length ≤ maxLen := by
  obtain ⟨cs, rfl, h1⟩ := PA.agg tagg_53 h
  have h1 : PTs Try.prog [9, 28] cs := h1.struct_inv Try.underlying53
  obtain ⟨a, b, rfl, h2, h3⟩ := h1.cons_inv
  obtain ⟨c, d, rfl, h4, h5⟩ := h3.cons_inv
  obtain ⟨s, rfl, _⟩ := h2.string_inv Try.underlying9
  obtain ⟨l, rfl, hl⟩ := pt_ents h4
  rw [h5.nil_inv]
  exact ⟨⟨s, l⟩, rfl, hl⟩
theorem pa_doc {p : PV} (h : PA Try.prog 40 p) : ∃ d : Dc, p = doc d ∧ Fine d := by
  obtain ⟨cs, rfl, h1⟩ := PA.agg tagg_40 h
  have h1 : PTs Try.prog [28, 38] cs := h1.struct_inv Try.underlying40
  obtain ⟨a, b, rfl, h2, h3⟩ := h1.cons_inv
  obtain ⟨c, d, rfl, h4, h5⟩ := h3.cons_inv
  obtain ⟨l, rfl, hl⟩ := pt_ents h2
  obtain ⟨m, rfl, h6, h7⟩ := h4.slice_inv oddRows Try.underlying38
  obtain ⟨xs, rfl, h8⟩ := all_told (fun p hp => pa_row (h7 p hp))
  rw [h5.nil_inv]
  exact ⟨⟨l, xs⟩, rfl, hl.1, by simpa using h6, hl.2, h8⟩
end Go.Proofs.Ytmnibpgmcgdfpaa

set_option linter.unusedSimpArgs false
set_option linter.unusedVariables false
set_option linter.unusedSimpArgs false
set_option linter.unusedVariables false
namespace Go.Proofs.Ytmnibpgmcgdfpaa
open Go.PL Go.RowKit
/-! documents handed in, with their numbers' bounds -/
theorem pa_entN {p : PV} (h : PA Try.prog 27 p) : ∃ e : En, p = ent e ∧ (e.l.length ≤ maxLen ∧ NumE e) := by
  obtain ⟨cs, rfl, h1⟩ := PA.agg tagg_27 h
  have h1 : PTs Try.prog [24, 2, 25] cs := h1.struct_inv Try.underlying27
  obtain ⟨a, b, rfl, h2, h3⟩ := h1.cons_inv
  obtain ⟨c, d, rfl, h4, h5⟩ := h3.cons_inv
  obtain ⟨e, f, rfl, h6, h7⟩ := h5.cons_inv
  obtain ⟨r, rfl⟩ := pt_ref h2
  obtain ⟨n, rfl, hn⟩ := h4.int_inv Try.underlying2
  obtain ⟨l, rfl, hl⟩ := pt_strs h6
  rw [h7.nil_inv]
  have hn' : IntKind.i64.min ≤ n ∧ n ≤ IntKind.i64.max := hn
  have e1 : IntKind.i64.min = -9223372036854775808 := by decide
  have e2 : IntKind.i64.max = 9223372036854775807 := by decide
  rw [e1, e2] at hn'
  exact ⟨⟨r, n, l⟩, rfl, hl, hn'⟩
theorem pt_entsN {cs : List PV} (h : PT Try.prog 28 cs) : ∃ l : List En, cs = [.sl .no (l.map ent)] ∧ l.length ≤ maxLen ∧ ∀ e ∈ l, e.l.length ≤ maxLen ∧ NumE e := by
  obtain ⟨l, rfl, h1, h2⟩ := h.slice_inv oddEnts Try.underlying28
  obtain ⟨xs, rfl, h3⟩ := all_told (fun p hp => pa_entN (h2 p hp))
  exact ⟨xs, rfl, by simpa using h1, h3⟩
theorem pa_rowN {p : PV} (h : PA Try.prog 53 p) : ∃ r : Rw, p = row r ∧ (r.l.length ≤ maxLen ∧ ∀ e ∈ r.l, e.l.length ≤ maxLen ∧ NumE e) := by
  obtain ⟨cs, rfl, h1⟩ := PA.agg tagg_53 h
  have h1 : PTs Try.prog [9, 28] cs := h1.struct_inv Try.underlying53
  obtain ⟨a, b, rfl, h2, h3⟩ := h1.cons_inv
  obtain ⟨c, d, rfl, h4, h5⟩ := h3.cons_inv
  obtain ⟨s, rfl, _⟩ := h2.string_inv Try.underlying9
  obtain ⟨l, rfl, hl⟩ := pt_entsN h4
  rw [h5.nil_inv]
  exact ⟨⟨s, l⟩, rfl, hl⟩
theorem pa_docN {p : PV} (h : PA Try.prog 40 p) : ∃ d : Dc, p = doc d ∧ Fine d ∧ NumD d := by
  obtain ⟨cs, rfl, h1⟩ := PA.agg tagg_40 h
  have h1 : PTs Try.prog [28, 38] cs := h1.struct_inv Try.underlying40
  obtain ⟨a, b, rfl, h2, h3⟩ := h1.cons_inv
  obtain ⟨c, d, rfl, h4, h5⟩ := h3.cons_inv
  obtain ⟨l, rfl, hl⟩ := pt_entsN h2
  obtain ⟨m, rfl, h6, h7⟩ := h4.slice_inv oddRows Try.underlying38
  obtain ⟨xs, rfl, h8⟩ := all_told (fun p hp => pa_rowN (h7 p hp))
  rw [h5.nil_inv]
  exact ⟨⟨l, xs⟩, rfl, ⟨hl.1, by simpa using h6, fun e he => (hl.2 e he).1, fun r hr => ⟨(h8 r hr).1, fun e he => ((h8 r hr).2 e he).1⟩⟩, fun e he => (hl.2 e he).2, fun r hr e he => ((h8 r hr).2 e he).2⟩
end Go.Proofs.Ytmnibpgmcgdfpaa
