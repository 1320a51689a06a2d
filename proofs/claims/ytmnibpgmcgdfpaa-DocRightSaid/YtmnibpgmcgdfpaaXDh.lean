/- Contracts of functions and laws of this seat, each for every input that it names: lemmas of the proof. -/
import Derived.Test.YtmnibpgmcgdfpaaXCj
import Derived.Test.YtmnibpgmcgdfpaaPlK
import Derived.Test.YtmnibpgmcgdfpaaXAm
import Derived.Test.YtmnibpgmcgdfpaaXAq
set_option linter.unusedSimpArgs false
set_option linter.unusedVariables false
set_option linter.unusedSimpArgs false
set_option linter.unusedVariables false
namespace Go.PL
open Go.RowKit
/-! what young values hold, in the world's own terms -/
def YTs (lo : Nat) (w : World) (v : Value) (n : Nat) : Prop := ∃ A c, v = .slice A n c ∧ (0 < n → ∃ (b o : Nat) (vs : List Value) (t : TypeId), A = some ⟨b, o, none⟩ ∧ lo ≤ b ∧ w.heap[b]? = some (Obj.cells ⟨vs⟩ t (0, 0)) ∧ o + n ≤ vs.length ∧ ∀ k, k < n → ∃ s, vs.getD (o + k) undef = .string s)
def YEs (lo : Nat) (w : World) (v : Value) (n : Nat) : Prop := ∃ A c, v = .slice A n c ∧ (0 < n → ∃ (b o : Nat) (vs : List Value) (t : TypeId), A = some ⟨b, o, none⟩ ∧ lo ≤ b ∧ w.heap[b]? = some (Obj.cells ⟨vs⟩ t (0, 0)) ∧ o + n * 5 ≤ vs.length ∧ ∀ k, k < n → ∃ m, vs.getD (o + k * 5 + 3) undef = .int .i64 m)
theorem YTs.keep {lo n : Nat} {w w' : World} {v : Value} (h : YTs lo w v n) (k : KeepW lo w w') : YTs lo w' v n := by
  obtain ⟨A, c, hv, h⟩ := h
  refine ⟨A, c, hv, fun hn => ?_⟩
  obtain ⟨b, o, vs, t, h1, h2, h3, h4, h5⟩ := h hn
  obtain ⟨vs', e1, e2, e3⟩ := k.k b vs t h3
  refine ⟨b, o, vs', t, h1, h2, e1, by omega, fun j hj => ?_⟩
  obtain ⟨s, hs⟩ := h5 j hj
  have := e3 (o + j)
  rw [hs] at this
  exact this.str
theorem YEs.keep {lo n : Nat} {w w' : World} {v : Value} (h : YEs lo w v n) (k : KeepW lo w w') : YEs lo w' v n := by
  obtain ⟨A, c, hv, h⟩ := h
  refine ⟨A, c, hv, fun hn => ?_⟩
  obtain ⟨b, o, vs, t, h1, h2, h3, h4, h5⟩ := h hn
  obtain ⟨vs', e1, e2, e3⟩ := k.k b vs t h3
  refine ⟨b, o, vs', t, h1, h2, e1, by omega, fun j hj => ?_⟩
  obtain ⟨s, hs⟩ := h5 j hj
  have := e3 (o + j * 5 + 3)
  rw [hs] at this
  exact this.int
/-- a young list, in its cells -/
theorem Rep.young_cells {S : Stable} {w : World} {v : Value} {es : List PV} {sz lo : Nat} (hst : StabS S w) (hlo : ∀ b, S.z b → lo ≤ b) (r : Rep S v (PV.frl es)) (hz : ∀ i, i < es.length → (es.getD i .any).cells.length = sz) (hsz : 0 < sz) :
    ∃ A c, v = .slice A es.length c ∧ (0 < es.length → ∃ (b o : Nat) (vs : List Value) (t : TypeId), A = some ⟨b, o, none⟩ ∧ lo ≤ b ∧ w.heap[b]? = some (Obj.cells ⟨vs⟩ t (0, 0)) ∧ o + es.length * sz ≤ vs.length ∧
      ∀ i j, i < es.length → j < sz → Rep S (vs.getD (o + i * sz + j) undef) ((es.getD i .any).cells.getD j .any)) := by
  obtain ⟨r1, hy⟩ := r.frl_inv
  generalize hes : es = es' at r1
  cases r1 with
  | sl0 a cap => subst hes; exact ⟨a, cap, rfl, fun h => absurd h (by simp)⟩
  | sl b o cap sz' es vals hsz' hcap hS hR =>
    subst hes
    refine ⟨_, cap, rfl, fun hpos => ?_⟩
    obtain ⟨hzb, hyb⟩ := hy b o _ _ rfl hpos
    obtain ⟨⟨vs⟩, t, hb⟩ := hst.y b hyb
    have e : sz' = sz := (hsz' 0 hpos).symm.trans (hz 0 hpos)
    subst e
    have at1 : ∀ i j, i < es.length → j < sz' → o + i * sz' + j < vs.length ∧ vs.getD (o + i * sz' + j) undef = vals i j := fun i j hi hj => by
      have h1 := hst.c _ _ _ (hS i j hi hj)
      rw [cell_of hb] at h1
      obtain ⟨h2, h3⟩ := List.getElem?_eq_some_iff.1 h1
      exact ⟨h2, by rw [getD_lt h2]; exact h3⟩
    refine ⟨b, o, vs, t, rfl, hlo b hzb, hb, ?_, fun i j hi hj => ?_⟩
    · have h1 := (at1 (es.length - 1) (sz' - 1) (by omega) (by omega)).1
      have h2 : es.length * sz' = (es.length - 1) * sz' + sz' := by
        have : es.length = (es.length - 1) + 1 := by omega
        rw [this, Nat.add_mul]; simp
      omega
    · rw [(at1 i j hi hj).2]; exact hR i j hi hj
end Go.PL
namespace Go.Proofs.Ytmnibpgmcgdfpaa
open Go.PL Go.RowKit
/-- young changes -/
def YCs (lo : Nat) (w : World) (v : Value) (cs : List Cg) : Prop := ∃ A c, v = .slice A cs.length c ∧ (0 < cs.length → ∃ (b o : Nat) (vs : List Value) (t : TypeId), A = some ⟨b, o, none⟩ ∧ lo ≤ b ∧ w.heap[b]? = some (Obj.cells ⟨vs⟩ t (0, 0)) ∧ o + cs.length * 13 ≤ vs.length ∧
  ∀ k, k < cs.length → YTs lo w (vs.getD (o + k * 13 + 11) undef) (cs.getD k default).now.l.length ∧ YEs lo w (vs.getD (o + k * 13 + 12) undef) (cs.getD k default).l.length)
theorem YCs.keep {lo : Nat} {cs : List Cg} {w w' : World} {v : Value} (h : YCs lo w v cs) (k : KeepW lo w w') : YCs lo w' v cs := by
  obtain ⟨A, c, hv, h⟩ := h
  refine ⟨A, c, hv, fun hn => ?_⟩
  obtain ⟨b, o, vs, t, h1, h2, h3, h4, h5⟩ := h hn
  obtain ⟨vs', e1, e2, e3⟩ := k.k b vs t h3
  refine ⟨b, o, vs', t, h1, h2, e1, by omega, fun j hj => ?_⟩
  obtain ⟨g1, g2⟩ := h5 j hj
  have l1 := e3 (o + j * 13 + 11)
  have l2 := e3 (o + j * 13 + 12)
  obtain ⟨A1, c1, hv1, _⟩ := id g1
  obtain ⟨A2, c2, hv2, _⟩ := id g2
  rw [hv1] at l1
  rw [hv2] at l2
  rw [l1.slice, l2.slice, ← hv1, ← hv2]
  exact ⟨g1.keep k, g2.keep k⟩
end Go.Proofs.Ytmnibpgmcgdfpaa

set_option linter.unusedSimpArgs false
set_option linter.unusedVariables false
set_option linter.unusedSimpArgs false
set_option linter.unusedVariables false
namespace Go.PL
open Go.RowKit
theorem wp_block_loop {P : Program} {id : Nat} {c : Code} {R : Act → World → Prop} {a : Act} {w : World} (h : (Code.loop c).wp P (fun e a w => e = .exit id ∧ R a w) a w) : (Code.block id (.loop c)).wp P (nrm R) a w :=
  wp_block (wp_mono h fun e a w ⟨he, hr⟩ => by subst he; simp [Exit.inBlock, nrm, hr])
theorem wp_block_nrm {P : Program} {id : Nat} {c : Code} {R : Act → World → Prop} {a : Act} {w : World} (h : c.wp P (nrm R) a w) : (Code.block id c).wp P (nrm R) a w :=
  wp_block (wp_mono h fun e a w ⟨he, hr⟩ => by subst he; exact ⟨rfl, hr⟩)
/-- a round of a loop: a test, then what is done, then the next number -/
theorem wp_round {P : Program} {id : Nat} {r : Code} {t : Operand} {y : Code} {b : Bool} {R K : Act → World → Prop} {T : Act → World → Prop} {a : Act} {w : World} (h1 : r.wp P (nrm T) a w) (hb : ∀ a w, T a w → a.eval t = .bool b)
    (h2 : b = true → ∀ a w, T a w → y.wp P (nrm K) a w) (h3 : b = false → ∀ a w, T a w → R a w) :
    (Code.seq (.seq r (.cond t .skip (.exit id))) y).wp P (Exit.then K fun e a w => e = .exit id ∧ R a w) a w := by
  refine wp_seq (wp_seqN h1 fun a w hT => ?_)
  cases b with
  | true => exact wp_cond_true (hb a w hT) (wp_skip (wp_mono (h2 rfl a w hT) fun e a w ⟨he, hk⟩ => by subst he; exact hk))
  | false => exact wp_cond_false (hb a w hT) (wp_exit ⟨rfl, h3 rfl a w hT⟩)
theorem cell_at {w : World} {b x : Nat} {vs : List Value} {t : TypeId} (hb : w.heap[b]? = some (Obj.cells ⟨vs⟩ t (0, 0))) (hx : x < vs.length) : w.cell? ⟨b, x, none⟩ = some (vs.getD x undef) := by
  rw [cell_of hb, List.getElem?_eq_getElem hx, getD_lt hx]
end Go.PL
namespace Go.Proofs.Ytmnibpgmcgdfpaa
open Go.PL Go.RowKit
end Go.Proofs.Ytmnibpgmcgdfpaa

set_option linter.unusedSimpArgs false
set_option linter.unusedVariables false
set_option linter.unusedSimpArgs false
set_option linter.unusedVariables false
namespace Go.Proofs.Ytmnibpgmcgdfpaa
open Go.PL Go.RowKit
theorem nofr_strs (l : List Str) : PV.nofrL (l.map .str) = true := nofrL_of fun c hc => by obtain ⟨x, _, rfl⟩ := List.mem_map.1 hc; rfl
theorem nofr_ents (l : List En) : PV.nofrL (l.map ent) = true := nofrL_of fun c hc => by
  obtain ⟨x, _, rfl⟩ := List.mem_map.1 hc
  simp [ent, PV.nofr, PV.nofrL, nofr_strs]
theorem nofr_rows (l : List Rw) : PV.nofrL (l.map row) = true := nofrL_of fun c hc => by
  obtain ⟨x, _, rfl⟩ := List.mem_map.1 hc
  simp [row, PV.nofr, PV.nofrL, nofr_ents]
/-- a document's cells -/
def docc (d : Dc) : List PV := [.sl .no (d.head.map ent), .sl .no (d.rows.map row)]
theorem docc_nofr (d : Dc) : PV.nofrL (docc d) = true := by simp [docc, PV.nofr, PV.nofrL, nofr_ents, nofr_rows]
theorem docc_ids (d : Dc) : ∀ p ∈ docc d, p.ids = [] := fun p hp => by
  simp only [docc, List.mem_cons, List.not_mem_nil, or_false] at hp
  rcases hp with rfl | rfl <;> rfl
theorem pub_docc {m : Hp} {i : Nat} {d : Dc} (hh : m.h i = some (docc d)) (hz : m.z i = false) : Pub (fun _ => False) m (.ptr i 0) (.rptr (docc d)) := by
  have := Pub.blk (K := fun _ => False) (m := m) i 0 (docc d) (docc d) (by simp) hh hz rfl (docc_ids d) fun j hj => .clean (docc_ids d _ (getD_mem hj))
  simpa using this
theorem dull_strs (l : List Str) : PV.dullL (l.map .str) = l.map .str := by rw [PV.dullL_map, List.map_map]; rfl
theorem dull_entF (e : En) : (entF e).dull = ent e := by simp [entF, ent, PV.dull, PV.dullL, PV.frl, dull_strs]
theorem dull_entsF (l : List En) : PV.dullL (l.map entF) = l.map ent := by
  rw [PV.dullL_map, List.map_map]; exact List.map_congr_left fun e _ => dull_entF e
theorem dull_ent (e : En) : (ent e).dull = ent e := by simp [ent, PV.dull, PV.dullL, dull_strs]
theorem dull_ents (l : List En) : PV.dullL (l.map ent) = l.map ent := by
  rw [PV.dullL_map, List.map_map]; exact List.map_congr_left fun e _ => dull_ent e
/-! the difference is small -/
structure SmallD (d : Dc) : Prop where
  h : d.head.length ≤ 40
  r : d.rows.length ≤ 410
  e : ∀ e ∈ d.head, e.l.length ≤ 410
  s : ∀ r ∈ d.rows, r.l.length ≤ 40 ∧ ∀ e ∈ r.l, e.l.length ≤ 410
theorem smallD {d : Dc} (h : heavyD d = false) : SmallD d := by
  simp only [heavyD, Bool.or_eq_false_iff, List.any_eq_false, decide_eq_false_iff_not] at h
  obtain ⟨h1, h2⟩ := heavyEs_len37 h.2.1
  refine ⟨h1, by omega, h2, fun r hr => ?_⟩
  have h3 : rowH r = false := by simpa using h.2.2 r hr
  simp only [rowH, Bool.or_eq_false_iff] at h3
  exact heavyEs_len37 h3.2
theorem SmallD.ok {d : Dc} (h : SmallD d) : OkDd d := ⟨by have := h.h; omega, by have := h.r; omega, fun e he => by have := h.e e he; omega, fun r hr => ⟨by have := (h.s r hr).1; omega, fun e he => by have := (h.s r hr).2 e he; omega⟩⟩
end Go.Proofs.Ytmnibpgmcgdfpaa

set_option linter.unusedSimpArgs false
set_option linter.unusedVariables false
set_option linter.unusedSimpArgs false
set_option linter.unusedVariables false
namespace Go.Proofs.Ytmnibpgmcgdfpaa
open Go.PL Go.RowKit
theorem heavyL_small {l : List Fd} (h : heavyL l = false) : l.length ≤ 40 ∧ ∀ f ∈ l, f.cases'.length ≤ 1000000 := by
  simp only [heavyL, Bool.or_eq_false_iff, List.any_eq_false, decide_eq_false_iff_not] at h
  refine ⟨by omega, fun f hf => ?_⟩
  have h1 : heavyF f = false := by simpa using h.2 f hf
  simp only [heavyF, fldTop, Bool.or_eq_false_iff, decide_eq_false_iff_not] at h1
  omega
/-- behind the copies: the documents and their copies -/
structure DdQ (l : List Fd) (a b : Dc) (s : St) : Prop where
  n : s.n = 124
  f0 : s.fr 0 = flds l
  f4 : s.fr 4 = .ptr 4 0
  f5 : s.fr 5 = .ptr 5 0
  f7 : s.fr 7 = .ptr 7 0
  f8 : s.fr 8 = .ptr 8 0
  h4 : s.m.h 4 = some (docc a) ∧ s.m.z 4 = false
  h5 : s.m.h 5 = some (docc b) ∧ s.m.z 5 = false
  h7 : s.m.h 7 = some (docc a) ∧ s.m.z 7 = false
  h8 : s.m.h 8 = some (docc b) ∧ s.m.z 8 = false
structure DdQ2 (cs : List Cg) (φ : Nat → Nat) (s : St) : Prop where
  n : s.n = 124
  f9 : s.fr 9 = PV.frl (cs.map chgF)
  f4 : s.fr 4 = .ptr 4 0 ∧ s.m.ph 4 = some (φ 4)
  f5 : s.fr 5 = .ptr 5 0 ∧ s.m.ph 5 = some (φ 5)
  f7 : s.fr 7 = .ptr 7 0 ∧ s.m.ph 7 = some (φ 7)
  f8 : s.fr 8 = .ptr 8 0 ∧ s.m.ph 8 = some (φ 8)
end Go.Proofs.Ytmnibpgmcgdfpaa

set_option linter.unusedSimpArgs false
set_option linter.unusedVariables false
set_option linter.unusedSimpArgs false
set_option linter.unusedVariables false
namespace Go.Proofs.Ytmnibpgmcgdfpaa
open Go.PL
set_option maxRecDepth 20000 in
set_option maxHeartbeats 8000000 in
theorem DocEq_pure (a b : En) (ha : a.l.length ≤ maxLen) (hb : b.l.length ≤ maxLen) : PL.Pure Try.prog 92 [ent a, ent b] (.bool (decide (a = b))) := by
  have hE := EqStr_pure a.l b.l ha hb
  refine PL.Pure.of_v Try.func92 (by decide) rfl Try.ntmps92 Try.results92 (by simp) rfl ?_
  simp only [go_sem, ent, ref_fold, List.append_eq, List.cons_append]
  repeat' (first | (refine vGuard_t (fun h => ?_) (fun h => ?_) <;> (try simp only [go_sem, h, ref_fold])) | (refine vGuard_f (fun h => ?_) (fun h => ?_) <;> (try simp only [go_sem, h, ref_fold])) | (refine vCond_b (fun h => ?_) (fun h => ?_) <;> (try simp only [go_sem, h, ref_fold])) | ((refine vCall_of (hE) ?_ ?_ ?_); (focus simp only [go_sem, strs]); (focus exact rfl); (try simp only [go_sem, ref_fold])) | ((refine vDrawQ (by kernel_rfl) (by kernel_rfl) ?_); (try simp only [go_sem, ref_fold])))
  all_goals (clear hE ha hb; (cases a; cases b; simp_all) <;> rfl)
set_option maxRecDepth 20000 in
set_option maxHeartbeats 16000000 in
theorem EqEntsD_pure (a b : List En) (ha : a.length ≤ maxLen) (hb : b.length ≤ maxLen) (ha' : ∀ e ∈ a, e.l.length ≤ maxLen) (hb' : ∀ e ∈ b, e.l.length ≤ maxLen) : PL.Pure Try.prog 44 [ents a, ents b, .fn 92 []] (.bool (decide (a = b))) := by
  by_cases hl : a.length = b.length
  · have hne : ((a.length : Int) != (b.length : Int)) = false := by simp [hl]
    refine PL.Pure.of_v Try.func44 (by decide) rfl Try.ntmps44 Try.results44 (by simp) rfl ?_
    simp only [go_sem, ents, hne, List.length_map]
    refine vLoopM (ι := { x : Nat // x ≤ (a).length ∧ (∀ j, j < x → a.getD j default = b.getD j default) }) 32 (fun x => [(1, ents b), (2, .fn 92 []), (15, ents a), (16, .int .i64 (a.length : Int)), (17, .int .i64 (x.1 : Int))]) (fun x => []) (fun x => []) (fun x => (a).length - x.1) ⟨0, Nat.zero_le _, fun j hj => absurd hj (Nat.not_lt_zero j)⟩ ⟨rfl, (forall_cons rfl (forall_cons rfl (forall_cons rfl (forall_cons rfl (forall_cons rfl forall_nil))))), forall_nil, forall_nil⟩ (fun x => ⟨(forall_cons rfl (forall_cons rfl (forall_cons rfl (forall_cons rfl (forall_cons rfl forall_nil))))), forall_nil⟩) (fun x => ?_); obtain ⟨k, hk, hI⟩ := x; simp only at hk hI ⊢
    by_cases h : (k : Int) < (a.length : Int)
    · (have hka : k < (a).length := by omega); (have w1 := w64s hka (ha)); (have i1 : (0 : Int) ≤ (k : Int) := by omega)
      have hkb : k < b.length := by omega
      have h' : (k : Int) < (b.length : Int) := by omega
      have hS := DocEq_pure (a.getD k default) (b.getD k default) (ha' _ (getD_mem' hka)) (hb' _ (getD_mem' hkb))
      by_cases he : a.getD k default = b.getD k default
      · rw [decide_eq_true he] at hS
        simp only [go_sem, ents, List.length_map, getD_ent' hka, getD_ent' hkb, ent, i1, h, h']
        refine vCall_of (hS) ?_ ?_ ?_; (focus simp only [go_sem, ent]); (focus simp only [go_sem, ent])
        simp only [go_sem, w1]
        exact ⟨⟨k + 1, by (try simp only); omega, below_succ hI he⟩, by show (a).length - (k + 1) < (a).length - k; omega, ⟨rfl, (forall_cons rfl (forall_cons rfl (forall_cons rfl (forall_cons rfl (forall_cons rfl forall_nil))))), forall_nil, forall_nil⟩⟩
      · rw [decide_eq_false he] at hS
        have hab : ¬ a = b := ne_of_getD he
        simp only [go_sem, ents, List.length_map, getD_ent' hka, getD_ent' hkb, ent, i1, h, h']
        refine vCall_of (hS) ?_ ?_ ?_; (focus simp only [go_sem, ent]); (focus simp only [go_sem, ent])
        simp only [go_sem, hab]
    · have hab : decide (a = b) = true := decide_eq_true (eq_of_getD (d := default) hl fun j hj => hI j (by omega))
      simp only [go_sem, ents, h, hab]
  · have hne : ((a.length : Int) != (b.length : Int)) = true := bne_iff_ne.2 (by omega)
    have hab : ¬ a = b := fun e => hl (by rw [e])
    refine PL.Pure.of_v Try.func44 (by decide) rfl Try.ntmps44 Try.results44 (by simp) rfl ?_
    simp only [go_sem, ents, hne, hab, List.length_map]
set_option maxHeartbeats 8000000 in
theorem DSameEs_pure (a b : List En) (ha : a.length ≤ maxLen) (hb : b.length ≤ maxLen) (ha' : ∀ e ∈ a, e.l.length ≤ maxLen) (hb' : ∀ e ∈ b, e.l.length ≤ maxLen) : PL.Pure Try.prog 61 [ents a, ents b] (.bool (decide (a = b))) := by
  have hE := EqEntsD_pure a b ha hb ha' hb'
  refine PL.Pure.of_v Try.func61 (by decide) rfl Try.ntmps61 Try.results61 (by simp) rfl ?_
  simp only [go_sem, ents]
  refine vCall_of (hE) ?_ ?_ ?_; (focus simp only [go_sem, ents]); (focus simp only [go_sem, ents])
  simp only [go_sem]
set_option maxRecDepth 20000 in
set_option maxHeartbeats 8000000 in
theorem DSameR_pure (a b : Rw) (ha : a.l.length ≤ maxLen) (hb : b.l.length ≤ maxLen) (ha' : ∀ e ∈ a.l, e.l.length ≤ maxLen) (hb' : ∀ e ∈ b.l, e.l.length ≤ maxLen) : PL.Pure Try.prog 63 [row a, row b] (.bool (decide (a = b))) := by
  have hE := DSameEs_pure a.l b.l ha hb ha' hb'
  have hf : decide (a = b) = (decide (a.item = b.item) && decide (a.l = b.l)) := by
    clear hE ha hb ha' hb'
    cases a; cases b
    simp only [Rw.mk.injEq, Bool.decide_and]
  rw [hf]
  have e2 : (a.item == b.item) = decide (a.item = b.item) := by rw [Bool.eq_iff_iff]; simp
  refine PL.Pure.of_v Try.func63 (by decide) rfl Try.ntmps63 Try.results63 (by simp) rfl ?_
  cases k2 : decide (a.item = b.item)
  · simp only [go_sem, row, e2, k2, Bool.false_and]
  · simp only [go_sem, row, e2, k2]
    refine vCall_of (hE) ?_ ?_ ?_; (focus simp only [go_sem, ents]); (focus simp only [go_sem, ents])
    simp only [go_sem, Bool.true_and]
set_option maxRecDepth 20000 in
theorem EqRowsD_pure (a b : List Rw) (ha : a.length ≤ maxLen) (hb : b.length ≤ maxLen) (ha' : ∀ r ∈ a, r.l.length ≤ maxLen ∧ ∀ e ∈ r.l, e.l.length ≤ maxLen) (hb' : ∀ r ∈ b, r.l.length ≤ maxLen ∧ ∀ e ∈ r.l, e.l.length ≤ maxLen) : PL.Pure Try.prog 62 [.sl .no (a.map row), .sl .no (b.map row), .fn 63 []] (.bool (decide (a = b))) := by
  by_cases hl : a.length = b.length
  · have hne : ((a.length : Int) != (b.length : Int)) = false := by simp [hl]
    refine PL.Pure.of_v Try.func62 (by decide) rfl Try.ntmps62 Try.results62 (by simp) rfl ?_
    simp only [go_sem, hne, List.length_map]
    refine vLoopM (ι := { x : Nat // x ≤ (a).length ∧ (∀ j, j < x → a.getD j default = b.getD j default) }) 32 (fun x => [(1, .sl .no (b.map row)), (2, .fn 63 []), (15, .sl .no (a.map row)), (16, .int .i64 (a.length : Int)), (17, .int .i64 (x.1 : Int))]) (fun x => []) (fun x => []) (fun x => (a).length - x.1) ⟨0, Nat.zero_le _, fun j hj => absurd hj (Nat.not_lt_zero j)⟩ ⟨rfl, (forall_cons rfl (forall_cons rfl (forall_cons rfl (forall_cons rfl (forall_cons rfl forall_nil))))), forall_nil, forall_nil⟩ (fun x => ⟨(forall_cons rfl (forall_cons rfl (forall_cons rfl (forall_cons rfl (forall_cons rfl forall_nil))))), forall_nil⟩) (fun x => ?_); obtain ⟨k, hk, hI⟩ := x; simp only at hk hI ⊢
    by_cases h : (k : Int) < (a.length : Int)
    · (have hka : k < (a).length := by omega); (have w1 := w64s hka (ha)); (have i1 : (0 : Int) ≤ (k : Int) := by omega)
      have hkb : k < b.length := by omega
      have h' : (k : Int) < (b.length : Int) := by omega
      have hS := DSameR_pure (a.getD k default) (b.getD k default) (ha' _ (getD_mem' hka)).1 (hb' _ (getD_mem' hkb)).1 (ha' _ (getD_mem' hka)).2 (hb' _ (getD_mem' hkb)).2
      by_cases he : a.getD k default = b.getD k default
      · rw [decide_eq_true he] at hS
        simp only [go_sem, List.length_map, getD_row' hka, getD_row' hkb, row, i1, h, h']
        refine vCall_of (hS) ?_ ?_ ?_; (focus simp only [go_sem, row]); (focus simp only [go_sem, row])
        simp only [go_sem, w1]
        exact ⟨⟨k + 1, by (try simp only); omega, below_succ hI he⟩, by show (a).length - (k + 1) < (a).length - k; omega, ⟨rfl, (forall_cons rfl (forall_cons rfl (forall_cons rfl (forall_cons rfl (forall_cons rfl forall_nil))))), forall_nil, forall_nil⟩⟩
      · rw [decide_eq_false he] at hS
        have hab : ¬ a = b := ne_of_getD he
        simp only [go_sem, List.length_map, getD_row' hka, getD_row' hkb, row, i1, h, h']
        refine vCall_of (hS) ?_ ?_ ?_; (focus simp only [go_sem, row]); (focus simp only [go_sem, row])
        simp only [go_sem, hab]
    · have hab : decide (a = b) = true := decide_eq_true (eq_of_getD (d := default) hl fun j hj => hI j (by omega))
      simp only [go_sem, h, hab]
  · have hne : ((a.length : Int) != (b.length : Int)) = true := bne_iff_ne.2 (by omega)
    have hab : ¬ a = b := fun e => hl (by rw [e])
    refine PL.Pure.of_v Try.func62 (by decide) rfl Try.ntmps62 Try.results62 (by simp) rfl ?_
    simp only [go_sem, hne, hab, List.length_map]
set_option maxRecDepth 20000 in
set_option maxHeartbeats 8000000 in
theorem DSame_pure (a b : Dc) (ha : Fine a) (hb : Fine b) : PL.Pure Try.prog 25 [doc a, doc b] (.bool (decide (a = b))) := by
  have hE := DSameEs_pure a.head b.head ha.1 hb.1 ha.2.2.1 hb.2.2.1
  have hR := EqRowsD_pure a.rows b.rows ha.2.1 hb.2.1 ha.2.2.2 hb.2.2.2
  have hf : decide (a = b) = (decide (a.head = b.head) && decide (a.rows = b.rows)) := by
    clear hE hR ha hb
    cases a; cases b
    simp only [Dc.mk.injEq, Bool.decide_and]
  rw [hf]
  refine PL.Pure.of_v Try.func25 (by decide) rfl Try.ntmps25 Try.results25 (by simp) rfl ?_
  simp only [go_sem, doc]
  refine vCall_of (hE) ?_ ?_ ?_; (focus simp only [go_sem, ents]); (focus simp only [go_sem, ents])
  cases k2 : decide (a.head = b.head)
  · simp only [go_sem, k2, Bool.false_and]
  · simp only [go_sem, k2]
    refine vCall_of (hR) ?_ ?_ ?_; (focus simp only [go_sem, row]); (focus simp only [go_sem, row])
    simp only [go_sem, Bool.true_and]
end Go.Proofs.Ytmnibpgmcgdfpaa

set_option linter.unusedSimpArgs false
set_option linter.unusedVariables false
set_option linter.unusedSimpArgs false
set_option linter.unusedVariables false
namespace Go.Proofs.Ytmnibpgmcgdfpaa
open Go.PL
set_option maxRecDepth 20000 in
set_option maxHeartbeats 8000000 in
theorem RHex_pure (n : Nat) (h : n < 16) : PL.Pure Try.prog 132 [.int .u8 (n : Int)] (.str [digs.getD n 0]) := by
  have hb : ∀ c : UInt8, bytesOf [PV.int .u8 ((c.toNat : Nat) : Int)] = some [c] := fun c => bytesOf_bytesPV [c]
  by_cases h10 : n < 10
  · have h1 : (n : Int) < 10 := by omega
    have e1 : IntKind.u8.wrap (48 + (n : Int)) = (((digs.getD n 0).toNat : Nat) : Int) := by
      have key : ∀ m : Fin 10, IntKind.u8.wrap (48 + (m.val : Int)) = (((digs.getD m.val 0).toNat : Nat) : Int) := by decide +kernel
      exact key ⟨n, h10⟩
    refine PL.Pure.of_v Try.func132 (by decide) rfl Try.ntmps132 Try.results132 (by simp) rfl ?_
    simp only [go_sem, h1, e1, hb]
  · have h1 : ¬ (n : Int) < 10 := by omega
    have e1 : IntKind.u8.wrap (87 + (n : Int)) = (((digs.getD n 0).toNat : Nat) : Int) := by
      have key : ∀ m : Fin 16, 10 ≤ m.val → IntKind.u8.wrap (87 + (m.val : Int)) = (((digs.getD m.val 0).toNat : Nat) : Int) := by decide +kernel
      exact key ⟨n, h⟩ (by show 10 ≤ n; omega)
    refine PL.Pure.of_v Try.func132 (by decide) rfl Try.ntmps132 Try.results132 (by simp) rfl ?_
    simp only [go_sem, h1, e1, hb]
set_option maxRecDepth 20000 in
set_option maxHeartbeats 8000000 in
theorem RByte_pure (c : UInt8) : PL.Pure Try.prog 126 [.int .u8 ((c.toNat : Nat) : Int)] (.str (esc c)) := by
  have hb : bytesOf [PV.int .u8 ((c.toNat : Nat) : Int)] = some [c] := bytesOf_bytesPV [c]
  have hlt := c.toNat_lt
  have hh : hiN c < 16 := hi_lt c
  have hl : loN c < 16 := lo_lt c
  have H1 := RHex_pure (hiN c) hh
  have H2 := RHex_pure (loN c) hl
  have q1 : ((c.toNat : Nat) : Int).tdiv 16 = ((hiN c : Nat) : Int) := rfl
  have r1 : ((c.toNat : Nat) : Int).tmod 16 = ((loN c : Nat) : Int) := rfl
  have q2 : IntKind.u8.wrap ((hiN c : Nat) : Int) = ((hiN c : Nat) : Int) := wu8 (by omega)
  have r2 : IntKind.u8.wrap ((loN c : Nat) : Int) = ((loN c : Nat) : Int) := wu8 (by omega)
  cases hp : plainB ((c.toNat : Nat) : Int)
  · have he : esc c = [92, digs.getD (hiN c) 0, digs.getD (loN c) 0] := by simp only [esc, hp]; rfl
    rw [he]
    by_cases h1 : ((c.toNat : Nat) : Int) < 32
    · refine PL.Pure.of_v Try.func126 (by decide) rfl Try.ntmps126 Try.results126 (by simp) rfl ?_
      simp only [go_sem, h1, q1, q2, r1, r2]
      refine vCall_of (H1) ?_ ?_ ?_; (focus simp only [go_sem]); (focus simp only [go_sem])
      simp only [go_sem, q1, q2, r1, r2]
      refine vCall_of (H2) ?_ ?_ ?_; (focus simp only [go_sem]); (focus simp only [go_sem])
      simp only [go_sem]
    · by_cases h2 : 126 < ((c.toNat : Nat) : Int)
      · refine PL.Pure.of_v Try.func126 (by decide) rfl Try.ntmps126 Try.results126 (by simp) rfl ?_
        simp only [go_sem, h1, h2, q1, q2, r1, r2]
        refine vCall_of (H1) ?_ ?_ ?_; (focus simp only [go_sem]); (focus simp only [go_sem])
        simp only [go_sem, q1, q2, r1, r2]
        refine vCall_of (H2) ?_ ?_ ?_; (focus simp only [go_sem]); (focus simp only [go_sem])
        simp only [go_sem]
      · by_cases h3 : ((c.toNat : Nat) : Int) = 34
        · have h3' : (((c.toNat : Nat) : Int) == 34) = true := by simp [h3]
          refine PL.Pure.of_v Try.func126 (by decide) rfl Try.ntmps126 Try.results126 (by simp) rfl ?_
          simp only [go_sem, h1, h2, h3', q1, q2, r1, r2]
          refine vCall_of (H1) ?_ ?_ ?_; (focus simp only [go_sem]); (focus simp only [go_sem])
          simp only [go_sem, q1, q2, r1, r2]
          refine vCall_of (H2) ?_ ?_ ?_; (focus simp only [go_sem]); (focus simp only [go_sem])
          simp only [go_sem]
        · have h3' : (((c.toNat : Nat) : Int) == 34) = false := by simp [h3]
          have h4' : (((c.toNat : Nat) : Int) == 92) = true := by
            simp only [plainB, Bool.and_eq_false_iff, decide_eq_false_iff_not, bne_eq_false_iff_eq] at hp
            have : ((c.toNat : Nat) : Int) = 92 := by omega
            simp [this]
          refine PL.Pure.of_v Try.func126 (by decide) rfl Try.ntmps126 Try.results126 (by simp) rfl ?_
          simp only [go_sem, h1, h2, h3', h4', q1, q2, r1, r2]
          refine vCall_of (H1) ?_ ?_ ?_; (focus simp only [go_sem]); (focus simp only [go_sem])
          simp only [go_sem, q1, q2, r1, r2]
          refine vCall_of (H2) ?_ ?_ ?_; (focus simp only [go_sem]); (focus simp only [go_sem])
          simp only [go_sem]
  · have he : esc c = [c] := by simp only [esc, hp]; rfl
    rw [he]
    simp only [plainB, Bool.and_eq_true, decide_eq_true_eq, bne_iff_ne, ne_eq] at hp
    have h1 : ¬ ((c.toNat : Nat) : Int) < 32 := by omega
    have h2 : ¬ 126 < ((c.toNat : Nat) : Int) := by omega
    have h3' : (((c.toNat : Nat) : Int) == 34) = false := by simp; omega
    have h4' : (((c.toNat : Nat) : Int) == 92) = false := by simp; omega
    refine PL.Pure.of_v Try.func126 (by decide) rfl Try.ntmps126 Try.results126 (by simp) rfl ?_
    simp only [go_sem, h1, h2, h3', h4', hb]
set_option maxRecDepth 20000 in
set_option maxHeartbeats 8000000 in
theorem RQuote_pure (s : Str) (hs : s.length ≤ 40) : PL.Pure Try.prog 99 [.str s] (.str ([34] ++ escs s ++ [34])) := by
  have hm : s.length ≤ maxLen := by rw [maxLen_eq]; omega
  refine PL.Pure.of_v Try.func99 (by decide) rfl Try.ntmps99 Try.results99 (by simp) rfl ?_
  simp only [go_sem]
  refine vLoopM (ι := { k : Nat // k ≤ s.length }) 19 (fun x => [(0, .str s), (3, .str ([34] ++ escs (s.take x.1))), (4, .int .i64 (x.1 : Int))]) (fun x => []) (fun x => []) (fun x => s.length - x.1) ⟨0, Nat.zero_le _⟩
    ⟨rfl, (forall_cons rfl (forall_cons rfl (forall_cons rfl (forall_nil)))), forall_nil, forall_nil⟩ (fun x => ⟨(forall_cons rfl (forall_cons rfl (forall_cons rfl (forall_nil)))), forall_nil⟩) (fun x => ?_)
  obtain ⟨k, hk⟩ := x
  simp only
  by_cases h : (k : Int) < (s.length : Int)
  · have hka : k < s.length := by omega
    have w1 := w64s hka hm
    have i1 : (0 : Int) ≤ (k : Int) := by omega
    have hB := RByte_pure (s.getD k 0)
    have hsn : escs (s.take (k + 1)) = escs (s.take k) ++ esc (s.getD k 0) := by rw [take_snoc hka (d := 0), escs_snoc]
    have hlen := escs_len (s.take k)
    have hlen2 : (s.take k).length ≤ k := List.length_take_le _ _
    have hle := esc_len (s.getD k 0)
    have b1 : ((([34] ++ escs (s.take k)).length : Nat) : Int) + ((esc (s.getD k 0)).length : Int) ≤ 9223372036854775807 := by rw [List.length_append]; simp only [List.length_cons, List.length_nil]; omega
    simp only [go_sem, h, i1]
    refine vCall_of (hB) ?_ ?_ ?_; (focus simp only [go_sem]); (focus simp only [go_sem])
    simp only [go_sem, w1]
    exact ⟨by omega, ⟨k + 1, by omega⟩, by show s.length - (k + 1) < s.length - k; omega, ⟨rfl, forall_cons rfl (forall_cons (by rw [hsn]; rfl) (forall_cons rfl forall_nil)), forall_nil, forall_nil⟩⟩
  · obtain rfl : k = s.length := by omega
    have hlen := escs_len s
    have b2 : ((([34] ++ escs s).length : Nat) : Int) + 1 ≤ 9223372036854775807 := by rw [List.length_append]; simp only [List.length_cons, List.length_nil]; omega
    simp only [go_sem, h, List.take_length]
    omega
end Go.Proofs.Ytmnibpgmcgdfpaa

set_option linter.unusedSimpArgs false
set_option linter.unusedVariables false
set_option linter.unusedSimpArgs false
set_option linter.unusedVariables false
namespace Go.Proofs.Ytmnibpgmcgdfpaa
open Go.PL
/-- a number's digits, none for nought -/
def pd (m : Nat) : Str := if m = 0 then [] else dg m
theorem pd_step {m : Nat} (h : m ≠ 0) : pd m = pd (m / 10) ++ [UInt8.ofNat (48 + m % 10)] := by
  unfold pd
  rw [if_neg h]
  by_cases h10 : m < 10
  · rw [if_pos (by omega), dg_small h10]; rfl
  · rw [if_neg (by omega), dg_step h10]
structure PI (N : Nat) where
  m : Nat
  t : Str
  hm : m ≤ N
  hd : dg N = pd m ++ t
theorem PI.len {N : Nat} (x : PI N) (h : N < 10 ^ 20) : x.t.length ≤ 20 := by
  have := dg_len20 N 20 h (by omega)
  rw [x.hd, List.length_append] at this
  omega
theorem ofNat_mod (m : Nat) : (((UInt8.ofNat (48 + m % 10)).toNat : Nat) : Int) = 48 + ((m % 10 : Nat) : Int) := by rw [digit_toNat]; omega
set_option maxRecDepth 20000 in
set_option maxHeartbeats 8000000 in
theorem RNPrint_pure (n : Int) (h1 : -9223372036854775808 ≤ n) (h2 : n ≤ 9223372036854775807) : PL.Pure Try.prog 98 [.int .i64 n] (.str (printZ n)) := by
  have hb : ∀ c : UInt8, bytesOf [PV.int .u8 ((c.toNat : Nat) : Int)] = some [c] := fun c => bytesOf_bytesPV [c]
  by_cases h0 : n = 0
  · subst h0
    have e : printZ 0 = [48] := by decide +kernel
    rw [e]
    refine PL.Pure.of_v Try.func98 (by decide) rfl Try.ntmps98 Try.results98 (by simp) rfl ?_
    simp only [go_sem]
  have z0 : (n == 0) = false := beq_eq_false_iff_ne.2 h0
  have hN : n.natAbs < 10 ^ 20 := by omega
  by_cases hn : n < 0
  · refine PL.Pure.of_v Try.func98 (by decide) rfl Try.ntmps98 Try.results98 (by simp) rfl ?_
    simp only [go_sem, z0]
    refine vLoopM (ι := PI n.natAbs) 31 (fun x => [(0, .int .i64 n), (3, .str x.t), (4, .int .i64 (-((x.m : Int))))]) (fun x => []) (fun x => []) (fun x => x.m) ⟨n.natAbs, [], Nat.le_refl _, by rw [pd, if_neg (by omega), List.append_nil]⟩
      ⟨rfl, forall_cons rfl (forall_cons rfl (forall_cons (by show PV.int _ _ = PV.int _ _; congr 1; show n = (-(((n.natAbs : Nat) : Int))); omega) forall_nil)), forall_nil, forall_nil⟩ (fun x => ⟨(forall_cons rfl (forall_cons rfl (forall_cons rfl (forall_nil)))), forall_nil⟩) (fun x => ?_)
    have hl := x.len hN
    have hx := x.hm
    have hd := x.hd
    obtain ⟨m, t, hm, _⟩ := x
    simp only at hl hx hd ⊢
    by_cases h : m = 0
    · have z1 : ((-((m : Int))) != 0) = false := by rw [bne_eq_false_iff_eq]; omega
      have ht : dg n.natAbs = t := by rw [hd, h]; rfl
      simp only [go_sem, z1, hn, printZ, ht]
      omega
    · have z1 : ((-((m : Int))) != 0) = true := by rw [bne_iff_ne]; omega
      have r1 : ((-((m : Int))) : Int).tmod 10 = (-(((m % 10 : Nat) : Int))) := by rw [Int.neg_tmod]; rfl
      have r2 : IntKind.i64.wrap (-(((m % 10 : Nat) : Int))) = (-(((m % 10 : Nat) : Int))) := w64 (by omega)
      have r3 : IntKind.i64.wrap (48 + ((m % 10 : Nat) : Int)) = 48 + ((m % 10 : Nat) : Int) := w64 (by omega)
      have r4 : IntKind.u8.wrap (48 + ((m % 10 : Nat) : Int)) = (((UInt8.ofNat (48 + m % 10)).toNat : Nat) : Int) := by rw [ofNat_mod, wu8 (by omega)]
      have q1 : ((-((m : Int))) : Int).tdiv 10 = (-(((m / 10 : Nat) : Int))) := by rw [Int.neg_tdiv]; rfl
      have q2 : IntKind.i64.wrap (-(((m / 10 : Nat) : Int))) = (-(((m / 10 : Nat) : Int))) := w64 (by omega)
      have hd2 : dg n.natAbs = pd (m / 10) ++ ([UInt8.ofNat (48 + m % 10)] ++ t) := by rw [hd, pd_step h, List.append_assoc]
      by_cases hz : m % 10 = 0
      · have z2 : ¬ (-(((m % 10 : Nat) : Int))) < 0 := by omega
        have z3 : (-(((m % 10 : Nat) : Int))) = ((m % 10 : Nat) : Int) := by omega
        rw [z3] at r1 r2 z2
        simp only [go_sem, z1, r1, r2, z2, r3, r4, q1, q2, hb]
        exact ⟨by omega, ⟨m / 10, [UInt8.ofNat (48 + m % 10)] ++ t, by omega, hd2⟩, by show m / 10 < m; omega, ⟨rfl, forall_cons rfl (forall_cons rfl (forall_cons rfl forall_nil)), forall_nil, forall_nil⟩⟩
      · have z2 : (-(((m % 10 : Nat) : Int))) < 0 := by omega
        have z3 : IntKind.i64.wrap (0 - (-(((m % 10 : Nat) : Int)))) = ((m % 10 : Nat) : Int) := by rw [w64 (by omega)]; omega
        have z4 : IntKind.i64.wrap (- (-(((m % 10 : Nat) : Int)))) = ((m % 10 : Nat) : Int) := by rw [w64 (by omega)]; omega
        have z5 : IntKind.i64.wrap ((m % 10 : Nat) : Int) = ((m % 10 : Nat) : Int) := w64 (by omega)
        simp only [go_sem, z1, r1, r2, z2, z3, z4, z5, r3, r4, q1, q2, hb]
        exact ⟨by omega, ⟨m / 10, [UInt8.ofNat (48 + m % 10)] ++ t, by omega, hd2⟩, by show m / 10 < m; omega, ⟨rfl, forall_cons rfl (forall_cons rfl (forall_cons rfl forall_nil)), forall_nil, forall_nil⟩⟩
  · refine PL.Pure.of_v Try.func98 (by decide) rfl Try.ntmps98 Try.results98 (by simp) rfl ?_
    simp only [go_sem, z0]
    refine vLoopM (ι := PI n.natAbs) 31 (fun x => [(0, .int .i64 n), (3, .str x.t), (4, .int .i64 (x.m : Int))]) (fun x => []) (fun x => []) (fun x => x.m) ⟨n.natAbs, [], Nat.le_refl _, by rw [pd, if_neg (by omega), List.append_nil]⟩
      ⟨rfl, forall_cons rfl (forall_cons rfl (forall_cons (by show PV.int _ _ = PV.int _ _; congr 1; show n = ((n.natAbs : Nat) : Int); omega) forall_nil)), forall_nil, forall_nil⟩ (fun x => ⟨(forall_cons rfl (forall_cons rfl (forall_cons rfl (forall_nil)))), forall_nil⟩) (fun x => ?_)
    have hl := x.len hN
    have hx := x.hm
    have hd := x.hd
    obtain ⟨m, t, hm, _⟩ := x
    simp only at hl hx hd ⊢
    by_cases h : m = 0
    · have z1 : ((m : Int) != 0) = false := by rw [bne_eq_false_iff_eq]; omega
      have ht : dg n.natAbs = t := by rw [hd, h]; rfl
      simp only [go_sem, z1, hn, printZ, ht]
    · have z1 : ((m : Int) != 0) = true := by rw [bne_iff_ne]; omega
      have r1 : ((m : Int) : Int).tmod 10 = ((m % 10 : Nat) : Int) := rfl
      have r2 : IntKind.i64.wrap ((m % 10 : Nat) : Int) = ((m % 10 : Nat) : Int) := w64 (by omega)
      have r3 : IntKind.i64.wrap (48 + ((m % 10 : Nat) : Int)) = 48 + ((m % 10 : Nat) : Int) := w64 (by omega)
      have r4 : IntKind.u8.wrap (48 + ((m % 10 : Nat) : Int)) = (((UInt8.ofNat (48 + m % 10)).toNat : Nat) : Int) := by rw [ofNat_mod, wu8 (by omega)]
      have q1 : ((m : Int) : Int).tdiv 10 = ((m / 10 : Nat) : Int) := rfl
      have q2 : IntKind.i64.wrap ((m / 10 : Nat) : Int) = ((m / 10 : Nat) : Int) := w64 (by omega)
      have hd2 : dg n.natAbs = pd (m / 10) ++ ([UInt8.ofNat (48 + m % 10)] ++ t) := by rw [hd, pd_step h, List.append_assoc]
      have z2 : ¬ ((m % 10 : Nat) : Int) < 0 := by omega
      simp only [go_sem, z1, r1, r2, z2, r3, r4, q1, q2, hb]
      exact ⟨by omega, ⟨m / 10, [UInt8.ofNat (48 + m % 10)] ++ t, by omega, hd2⟩, by show m / 10 < m; omega, ⟨rfl, forall_cons rfl (forall_cons rfl (forall_cons rfl forall_nil)), forall_nil, forall_nil⟩⟩
set_option maxRecDepth 20000 in
set_option maxHeartbeats 4000000 in
theorem RPrint_pure (r : Rf) : PL.Pure Try.prog 97 [ref r] (.str (printM r)) := by
  have hP := RPlace_pure r
  cases hp : placeB r
  · rw [hp] at hP
    refine PL.Pure.of_v Try.func97 (by decide) rfl Try.ntmps97 Try.results97 (by simp) rfl ?_
    simp only [go_sem, ref]
    refine vCall_of (hP) ?_ ?_ ?_; (focus simp only [go_sem, ref]); (focus simp only [go_sem, ref])
    simp only [go_sem, printM, hp]
  · rw [hp] at hP
    have hl : r.nm.length ≤ 12 ∧ r.gr.length ≤ 12 := by
      simp only [placeB, Bool.and_eq_true, Bool.or_eq_true, decide_eq_true_eq] at hp
      refine ⟨(name_len hp.2.1).2, ?_⟩
      rcases hp.2.2 with h | h
      · rw [h]; decide
      · exact (name_len h).2
    by_cases h1 : r.sc = 1
    · have h1' : (r.sc == 1) = true := by rw [h1]; rfl
      by_cases hg : r.gr = []
      · have hg' := beq_nil hg
        refine PL.Pure.of_v Try.func97 (by decide) rfl Try.ntmps97 Try.results97 (by simp) rfl ?_
        simp only [go_sem, ref]
        refine vCall_of (hP) ?_ ?_ ?_; (focus simp only [go_sem, ref]); (focus simp only [go_sem, ref])
        simp only [go_sem, h1', hg', printM, hp, prefixM, h1, hg, List.append_assoc]
        first
          | omega
          | (simp only [List.length_append, List.length_cons, List.length_nil]; omega)
          | (simp; omega)
      · have hg' := beq_nil' hg
        refine PL.Pure.of_v Try.func97 (by decide) rfl Try.ntmps97 Try.results97 (by simp) rfl ?_
        simp only [go_sem, ref]
        refine vCall_of (hP) ?_ ?_ ?_; (focus simp only [go_sem, ref]); (focus simp only [go_sem, ref])
        simp only [go_sem, h1', hg', printM, hp, prefixM, h1, hg, List.append_assoc]
        first
          | omega
          | (simp only [List.length_append, List.length_cons, List.length_nil]; omega)
          | (simp; omega)
    · have h1' : (r.sc == 1) = false := beq_eq_false_iff_ne.2 h1
      by_cases hg : r.gr = []
      · have hg' := beq_nil hg
        refine PL.Pure.of_v Try.func97 (by decide) rfl Try.ntmps97 Try.results97 (by simp) rfl ?_
        simp only [go_sem, ref]
        refine vCall_of (hP) ?_ ?_ ?_; (focus simp only [go_sem, ref]); (focus simp only [go_sem, ref])
        simp only [go_sem, h1', hg', printM, hp, prefixM, h1, hg, List.append_assoc]
        first
          | omega
          | (simp only [List.length_append, List.length_cons, List.length_nil]; omega)
          | (simp; omega)
      · have hg' := beq_nil' hg
        refine PL.Pure.of_v Try.func97 (by decide) rfl Try.ntmps97 Try.results97 (by simp) rfl ?_
        simp only [go_sem, ref]
        refine vCall_of (hP) ?_ ?_ ?_; (focus simp only [go_sem, ref]); (focus simp only [go_sem, ref])
        simp only [go_sem, h1', hg', printM, hp, prefixM, h1, hg, List.append_assoc]
        first
          | omega
          | (simp only [List.length_append, List.length_cons, List.length_nil]; omega)
          | (simp; omega)
end Go.Proofs.Ytmnibpgmcgdfpaa
