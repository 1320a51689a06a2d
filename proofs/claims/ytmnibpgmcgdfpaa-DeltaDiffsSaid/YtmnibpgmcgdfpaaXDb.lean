/- Contracts of functions and laws of this seat, each for every input that it names: lemmas of the proof. -/
import Derived.Test.YtmnibpgmcgdfpaaXCz
import Derived.Test.YtmnibpgmcgdfpaaXCs
import Derived.Test.YtmnibpgmcgdfpaaPlI
import Derived.Test.YtmnibpgmcgdfpaaXCw
import Derived.Test.YtmnibpgmcgdfpaaPlK
set_option linter.unusedSimpArgs false
set_option linter.unusedVariables false
set_option linter.unusedSimpArgs false
set_option linter.unusedVariables false
namespace Go.Proofs.Ytmnibpgmcgdfpaa
open Go.PL
set_option maxRecDepth 20000 in
set_option maxHeartbeats 16000000 in
theorem REntries37_rn (it : Str) (a b : List En) (hl : a.length ≤ 100000) (hlb : a.length ≤ b.length) (ha' : ∀ e ∈ a, e.l.length ≤ 1000000) (hb' : ∀ e ∈ b, e.l.length ≤ 1000000) : Eff Try.prog 49 [.str it, ents a, ents b] noV (.sl (.row 40) ((othersL it a b).map chg)) (rowN 40 (othersL it a b).length 13 30) := by
  have hol : a.length ≤ maxLen := by rw [maxLen_eq]; omega
  have hK : othersL it a b = othersK it a b a.length := rfl
  have one : (1 : Nat) ≤ maxLen := by rw [maxLen_eq]; omega
  rw [hK]
  refine Eff.rn [] Try.func49 (by decide) rfl Try.ntmps49 Try.results49 (by simp) (by simp [PV.ids, ents]) (by simp [PV.ids]) ?_
  simp only [go_sem, ents, List.length_map]
  refine awp_moveRow 7 9 40 0 13 30 [] rfl rfl rfl ?_
  refine vLoopM (ι := { x : Nat // x ≤ (a).length }) 42 (fun x => [(0, .str it), (1, ents a), (2, ents b), (7, .sl (.row 40) ((othersK it a b x.1).map chg)), (8, .int .i64 (x.1 : Int))]) (fun x => []) (fun x => [(40, .live ((othersK it a b x.1).length) (13) (30))]) (fun x => (a).length - x.1) ⟨0, Nat.zero_le _⟩ ⟨rfl, (forall_cons rfl (forall_cons rfl (forall_cons rfl (forall_cons rfl (forall_cons rfl forall_nil))))), forall_nil, (forall_cons rfl forall_nil)⟩ (fun x => ⟨(forall_cons rfl (forall_cons rfl (forall_cons rfl (forall_cons (by simp [PV.ids, refInM]) (forall_cons rfl forall_nil))))), forall_nil⟩) (fun x => ?_); obtain ⟨k, hk⟩ := x; simp only at hk ⊢
  by_cases h : (k : Int) < (a.length : Int)
  · (have hka : k < (a).length := by omega); (have w1 := w64s hka (hol)); (have i1 : (0 : Int) ≤ (k : Int) := by omega)
    have hkb : k < b.length := by omega
    have h' : (k : Int) < (b.length : Int) := by omega
    have hsn := othersK_snoc it a b k
    have hkl := othersK_len it a b k
    have h1 := ROne_pure (a.getD k default)
    have h2 := ROne_pure (b.getD k default)
    have hE := SameEntries_pure [a.getD k default] [b.getD k default] one one (fun e he => by rw [List.mem_singleton.1 he, maxLen_eq]; have := ha' _ (getD_mem' (d := default) hka); omega) (fun e he => by rw [List.mem_singleton.1 he, maxLen_eq]; have := hb' _ (getD_mem' (d := default) hkb); omega)
    simp only [List.cons.injEq, and_true] at hE
    have hml : ((othersK it a b k).map chg).length = (othersK it a b k).length := List.length_map _
    have hsz := sized_chg (othersK it a b k)
    have hrm := room1 (show (othersK it a b k).length + 1 ≤ 1000000 by omega) (show 192 ≤ 1000 by omega)
    by_cases he : a.getD k default = b.getD k default
    · rw [decide_eq_true he] at hE
      rw [if_pos he, List.append_nil] at hsn
      simp only [go_sem, ents, h, List.length_map, getD_ent' hka, getD_ent' hkb, ent, i1, h']
      refine vDrawQ (by kernel_rfl) (by kernel_rfl) ?_
      simp only [go_sem, ents, h, List.length_map, getD_ent' hka, getD_ent' hkb, ent, i1, h']
      refine vCall_of (h1) ?_ ?_ ?_; (focus simp only [go_sem, ent]); (focus simp only [go_sem, ent])
      simp only [go_sem, ents, h, List.length_map, getD_ent' hka, getD_ent' hkb, ent, i1, h']
      refine vCall_of (h2) ?_ ?_ ?_; (focus simp only [go_sem, ent]); (focus simp only [go_sem, ent])
      simp only [go_sem]
      refine vCall_of (hE) ?_ ?_ ?_; (focus simp only [go_sem, ents, List.map_cons, List.map_nil, ent]); (focus simp only [go_sem, ents, List.map_cons, List.map_nil, ent])
      simp only [go_sem, w1]
      exact ⟨⟨k + 1, by omega⟩, by show a.length - (k + 1) < a.length - k; omega, ⟨rfl, by simp only; rw [hsn]; exact (forall_cons rfl (forall_cons rfl (forall_cons rfl (forall_cons rfl (forall_cons rfl (forall_nil)))))), forall_nil, by simp only; rw [hsn]; exact forall_cons rfl forall_nil⟩⟩
    · rw [decide_eq_false he] at hE
      rw [if_neg he] at hsn
      simp only [go_sem, ents, h, List.length_map, getD_ent' hka, getD_ent' hkb, ent, i1, h']
      refine vDrawQ (by kernel_rfl) (by kernel_rfl) ?_
      simp only [go_sem, ents, h, List.length_map, getD_ent' hka, getD_ent' hkb, ent, i1, h']
      refine vCall_of (h1) ?_ ?_ ?_; (focus simp only [go_sem, ent]); (focus simp only [go_sem, ent])
      simp only [go_sem, ents, h, List.length_map, getD_ent' hka, getD_ent' hkb, ent, i1, h']
      refine vCall_of (h2) ?_ ?_ ?_; (focus simp only [go_sem, ent]); (focus simp only [go_sem, ent])
      simp only [go_sem]
      refine vCall_of (hE) ?_ ?_ ?_; (focus simp only [go_sem, ents, List.map_cons, List.map_nil, ent]); (focus simp only [go_sem, ents, List.map_cons, List.map_nil, ent])
      simp only [go_sem]
      refine vDrawQ (by kernel_rfl) (by kernel_rfl) ?_
      simp only [go_sem, ents, h, List.length_map, getD_ent' hka, getD_ent' hkb, ent, i1, h', hml, hsz, hrm, sized_str, atoms_str, w1]
      exact ⟨⟨k + 1, by omega⟩, by show a.length - (k + 1) < a.length - k; omega, ⟨rfl, by simp only; rw [hsn, List.map_append]; exact (forall_cons rfl (forall_cons rfl (forall_cons rfl (forall_cons rfl (forall_cons rfl (forall_nil)))))), forall_nil, by simp only; rw [hsn, List.length_append]; exact forall_cons rfl forall_nil⟩⟩
  · obtain rfl : k = a.length := by omega
    simp only [go_sem, chgs, ents, List.length_map, h]
    exact eret_rn (r0 := .sl (.row 40) _) rfl (.keep _ (by intro i hi; simp [PV.ids] at hi; subst hi; exact ⟨_, List.mem_singleton.2 rfl, rfl⟩)) rfl
theorem idx_look {α : Type} [Inhabited α] (p : α → Bool) (l : List α) : (idx p l = -1 ∧ l.find? p = none) ∨ ∃ i, i < l.length ∧ idx p l = (i : Int) ∧ l.find? p = some (l.getD i default) := by
  unfold idx
  cases h : l.findIdx? p with
  | none =>
    refine .inl ⟨rfl, ?_⟩
    rw [List.findIdx?_eq_none_iff] at h
    rw [List.find?_eq_none]
    intro x hx e
    rw [h x hx] at e; cases e
  | some i =>
    obtain ⟨hi, h1, h2⟩ := List.findIdx?_eq_some_iff_getElem.1 h
    refine .inr ⟨i, hi, rfl, ?_⟩
    rw [getD_lt hi, List.find?_eq_some_iff_getElem]
    exact ⟨h1, i, hi, rfl, fun j hj => by have := h2 j hj; simpa using this⟩
theorem itemsD_len (P Q : List Rw) : (itemsD P Q).length ≤ P.length + Q.length := by
  have one : ∀ (l : List Str) (s : Str), (putS l s).length ≤ l.length + 1 := fun l s => by
    unfold putS
    split
    · omega
    · simp only [List.length_append, List.length_take, List.length_drop, List.length_cons, List.length_nil]; omega
  have fold : ∀ (xs l : List Str), (xs.foldl putS l).length ≤ l.length + xs.length := fun xs => by
    induction xs with
    | nil => intro l; simp
    | cons x xs ih => intro l; rw [List.foldl_cons]; have := ih (putS l x); have := one l x; simp only [List.length_cons]; omega
  unfold itemsD
  have h1 := fold (P.map Rw.item) []
  have h2 := fold (Q.map Rw.item) ((P.map Rw.item).foldl putS [])
  simp only [List.length_map, List.length_nil] at h1 h2
  omega
theorem foldS_snoc {l : List Rw} {k : Nat} (l0 : List Str) (h : k < l.length) : ((l.take (k + 1)).map Rw.item).foldl putS l0 = putS (((l.take k).map Rw.item).foldl putS l0) (l.getD k default).item := by
  rw [take_snoc (d := default) h, List.map_append, List.foldl_append]
  rfl
theorem foldS_len (xs : List Str) : ∀ (l : List Str), (xs.foldl putS l).length ≤ l.length + xs.length := by
  induction xs with
  | nil => intro l; simp
  | cons x xs ih =>
    intro l
    rw [List.foldl_cons]
    have h1 := ih (putS l x)
    have h2 : (putS l x).length ≤ l.length + 1 := by
      unfold putS
      split
      · omega
      · simp only [List.length_append, List.length_take, List.length_drop, List.length_cons, List.length_nil]; omega
    simp only [List.length_cons]; omega
theorem flat_snoc {l : List Str} {k : Nat} (f : Str → List Cg) (h : k < l.length) : (l.take (k + 1)).flatMap f = (l.take k).flatMap f ++ f (l.getD k []) := by
  rw [take_snoc (d := []) h, List.flatMap_append]
  simp
/-- how far it has come: items, what is told, the number of its row -/
structure DrX (n : Nat) (f : Str → List Cg) (its : List Str) (h0 : List Cg) where
  k : Nat
  acc : List Cg
  id : Nat
  hk : k ≤ its.length
  hl : acc.length ≤ 16 + 16 * k
  h : acc = h0 ++ (its.take k).flatMap f
  hid : id = 29 ∨ id = 94 ∨ id = 110 ∨ id = 129
set_option maxRecDepth 20000 in
set_option maxHeartbeats 64000000 in
theorem RDiff_pure (l : List Fd) (a b : Dc) (hl : l.length ≤ maxLen) (hl' : ∀ f ∈ l, f.cases'.length ≤ maxLen) (ha : OkDd a) (hb : OkDd b) :
    PL.Pure Try.prog 20 [flds l, doc a, doc b] (chgsc (diffM l a b).1 (diffM l a b).2) := by
  have hRa := RRightD_pure l a hl hl' ha.fine
  have hRb := RRightD_pure l b hl hl' hb.fine
  unfold diffM
  cases hra : rightD l a
  · rw [hra] at hRa
    rw [if_pos (.inl rfl)]
    refine PL.Pure.of_v Try.func20 (by decide) rfl Try.ntmps20 Try.results20 (by simp) (chgsc_dids _ _) ?_
    simp only [go_sem, flds, doc]
    refine vCall_of (hRa) ?_ ?_ ?_; (focus simp only [go_sem, flds, doc]); (focus simp only [go_sem, flds, doc])
    simp only [go_sem, chgsc, chgs]
  · cases hrb : rightD l b
    · rw [hra] at hRa; rw [hrb] at hRb
      rw [if_pos (.inr rfl)]
      refine PL.Pure.of_v Try.func20 (by decide) rfl Try.ntmps20 Try.results20 (by simp) (chgsc_dids _ _) ?_
      simp only [go_sem, flds, doc]
      refine vCall_of (hRa) ?_ ?_ ?_; (focus simp only [go_sem, flds, doc]); (focus simp only [go_sem, flds, doc])
      simp only [go_sem]
      refine vCall_of (hRb) ?_ ?_ ?_; (focus simp only [go_sem, flds, doc]); (focus simp only [go_sem, flds, doc])
      simp only [go_sem, chgsc, chgs]
    · rw [hra] at hRa; rw [hrb] at hRb
      rw [if_neg (by simp), diffR_items _ _ _ (Nat.le_refl _) (rise_of_right hra) (rise_of_right hrb)]
      obtain ⟨a1, a2, a3, a4, a5⟩ := rightD_len hra
      obtain ⟨b1, b2, b3, _, _⟩ := rightD_len hrb
      have hE := REntries37_rn [] a.head b.head ha.h (by omega) ha.e hb.e
      have hme := maxLen_eq
      have hMa : ∀ it, _ := fun it => RowAt_pure a it (by omega)
      have hMb : ∀ it, _ := fun it => RowAt_pure b it (by omega)
      have hil := itemsD_len a.rows b.rows
      have him := itemsD_mem a.rows b.rows
      refine PL.Pure.of_v Try.func20 (by decide) rfl Try.ntmps20 Try.results20 (by simp) (chgsc_dids _ _) ?_
      simp only [go_sem, flds, doc]
      refine vCall_of (hRa) ?_ ?_ ?_; (focus simp only [go_sem, flds, doc]); (focus simp only [go_sem, flds, doc])
      simp only [go_sem]
      refine vCall_of (hRb) ?_ ?_ ?_; (focus simp only [go_sem, flds, doc]); (focus simp only [go_sem, flds, doc])
      simp only [go_sem]
      refine vCall_rn 29 hE (by simp [PV.ids, ents]) rfl ?_ ?_
      · simp only [go_sem, ents]
      · simp only [go_sem]
        refine vLoopP (ι := { k : Nat // k ≤ a.rows.length }) 131 (fun x => [(4, .ptr 4 0), (5, .ptr 5 0), (8, .sl (.row 29) ((othersL [] a.head b.head).map chg)), (9, strs (((a.rows.take x.1).map Rw.item).foldl putS [])), (10, .int .i64 (x.1 : Int))]) (fun x => [(4, [.sl .no (a.head.map ent), .sl .no (a.rows.map row)], false), (5, [.sl .no (b.head.map ent), .sl .no (b.rows.map row)], false)]) (fun x => [(29, .live (othersL [] a.head b.head).length 13 30)]) (fun x => a.rows.length - x.1) ⟨0, Nat.zero_le _⟩
          ⟨rfl, forall_cons (.same rfl) (forall_cons (.same rfl) (forall_cons (.same rfl) (forall_cons (.row 30 []) (forall_cons (.same rfl) forall_nil)))), forall_cons ⟨rfl, rfl⟩ (forall_cons ⟨rfl, rfl⟩ forall_nil), forall_cons rfl forall_nil⟩ (fun x => ⟨forall_cons rfl (forall_cons rfl (forall_cons (by simp [PV.ids, refInM]) (forall_cons rfl (forall_cons rfl forall_nil)))), forall_cons rfl (forall_cons rfl forall_nil)⟩) (fun x => ?_)
        obtain ⟨k, hk⟩ := x
        simp only
        by_cases h : (k : Int) < (a.rows.length : Int)
        · have hka : k < a.rows.length := by omega
          have i1 : (0 : Int) ≤ (k : Int) := by omega
          have w1 : IntKind.i64.wrap ((k : Int) + 1) = ((k + 1 : Nat) : Int) := by rw [w64 (by omega)]; rfl
          have hfl := foldS_len ((a.rows.take k).map Rw.item) []
          simp only [List.length_map, List.length_nil, List.length_take] at hfl
          have hP := RPutS_pure (((a.rows.take k).map Rw.item).foldl putS []) (a.rows.getD k default).item (by omega)
          rw [← foldS_snoc [] hka] at hP
          simp only [go_sem, h, getD_row' hka, row, i1, List.length_map]
          refine vCall_of (hP) ?_ ?_ ?_; (focus simp only [go_sem, strs]); (focus simp only [go_sem, strs])
          simp only [go_sem, w1]
          exact ⟨⟨k + 1, by omega⟩, by show a.rows.length - (k + 1) < a.rows.length - k; omega, ⟨rfl, forall_cons (.same rfl) (forall_cons (.same rfl) (forall_cons (.same rfl) (forall_cons (.same rfl) (forall_cons (.same rfl) forall_nil)))), forall_cons ⟨rfl, rfl⟩ (forall_cons ⟨rfl, rfl⟩ forall_nil), forall_cons rfl forall_nil⟩⟩
        · have htk : a.rows.take k = a.rows := List.take_of_length_le (by omega)
          simp only [go_sem, h, List.length_map, htk]
          generalize hI0 : (a.rows.map Rw.item).foldl putS [] = I0
          have hI0l : I0.length ≤ 400 := by have := foldS_len (a.rows.map Rw.item) []; rw [hI0] at this; simp only [List.length_map, List.length_nil] at this; omega
          refine vLoopM (ι := { k : Nat // k ≤ b.rows.length }) 131 (fun x => [(4, .ptr 4 0), (5, .ptr 5 0), (8, .sl (.row 29) ((othersL [] a.head b.head).map chg)), (9, strs (((b.rows.take x.1).map Rw.item).foldl putS I0)), (11, .int .i64 (x.1 : Int))]) (fun x => [(4, [.sl .no (a.head.map ent), .sl .no (a.rows.map row)], false), (5, [.sl .no (b.head.map ent), .sl .no (b.rows.map row)], false)]) (fun x => [(29, .live (othersL [] a.head b.head).length 13 30)]) (fun x => b.rows.length - x.1) ⟨0, Nat.zero_le _⟩
            ⟨rfl, (forall_cons rfl (forall_cons rfl (forall_cons rfl (forall_cons rfl (forall_cons rfl (forall_nil)))))), forall_cons ⟨rfl, rfl⟩ (forall_cons ⟨rfl, rfl⟩ forall_nil), forall_cons rfl forall_nil⟩ (fun x => ⟨forall_cons rfl (forall_cons rfl (forall_cons (by simp [PV.ids, refInM]) (forall_cons rfl (forall_cons rfl forall_nil)))), forall_cons rfl (forall_cons rfl forall_nil)⟩) (fun x => ?_)
          obtain ⟨k2, hk2⟩ := x
          simp only
          by_cases h2 : (k2 : Int) < (b.rows.length : Int)
          · have hka : k2 < b.rows.length := by omega
            have i1 : (0 : Int) ≤ (k2 : Int) := by omega
            have w1 : IntKind.i64.wrap ((k2 : Int) + 1) = ((k2 + 1 : Nat) : Int) := by rw [w64 (by omega)]; rfl
            have hfl := foldS_len ((b.rows.take k2).map Rw.item) I0
            simp only [List.length_map, List.length_take] at hfl
            have hP := RPutS_pure (((b.rows.take k2).map Rw.item).foldl putS I0) (b.rows.getD k2 default).item (by omega)
            rw [← foldS_snoc I0 hka] at hP
            simp only [go_sem, h2, getD_row' hka, row, i1, List.length_map]
            refine vCall_of (hP) ?_ ?_ ?_; (focus simp only [go_sem, strs]); (focus simp only [go_sem, strs])
            simp only [go_sem, w1]
            exact ⟨⟨k2 + 1, by omega⟩, by show b.rows.length - (k2 + 1) < b.rows.length - k2; omega, ⟨rfl, (forall_cons rfl (forall_cons rfl (forall_cons rfl (forall_cons rfl (forall_cons rfl (forall_nil)))))), forall_cons ⟨rfl, rfl⟩ (forall_cons ⟨rfl, rfl⟩ forall_nil), forall_cons rfl forall_nil⟩⟩
          · have htk2 : b.rows.take k2 = b.rows := List.take_of_length_le (by omega)
            have hI1 : (b.rows.map Rw.item).foldl putS I0 = itemsD a.rows b.rows := by rw [← hI0]; rfl
            simp only [go_sem, h2, List.length_map, htk2, hI1]
            generalize hIT : itemsD a.rows b.rows = IT at *
            have hol := othersL_len [] a.head b.head
            refine vLoopM (ι := DrX 0 (stepD a.rows b.rows) IT (othersL [] a.head b.head)) 131 (fun x => [(4, .ptr 4 0), (5, .ptr 5 0), (8, .sl (.row x.id) (x.acc.map chg)), (9, strs IT), (12, .int .i64 (x.k : Int))]) (fun x => [(4, [.sl .no (a.head.map ent), .sl .no (a.rows.map row)], false), (5, [.sl .no (b.head.map ent), .sl .no (b.rows.map row)], false)]) (fun x => [(x.id, .live x.acc.length 13 30)]) (fun x => IT.length - x.k) ⟨0, othersL [] a.head b.head, 29, Nat.zero_le _, by omega, by simp, .inl rfl⟩
              ⟨rfl, (forall_cons rfl (forall_cons rfl (forall_cons rfl (forall_cons rfl (forall_cons rfl (forall_nil)))))), forall_cons ⟨rfl, rfl⟩ (forall_cons ⟨rfl, rfl⟩ forall_nil), forall_cons rfl forall_nil⟩ (fun x => ⟨forall_cons rfl (forall_cons rfl (forall_cons (by simp [PV.ids, refInM]) (forall_cons rfl (forall_cons rfl forall_nil)))), forall_cons rfl (forall_cons rfl forall_nil)⟩) (fun x => ?_)
            obtain ⟨k3, acc, id, hk3, hac, hacc, hid⟩ := x
            simp only
            by_cases h3 : (k3 : Int) < (IT.length : Int)
            · have hka : k3 < IT.length := by omega
              have i1 : (0 : Int) ≤ (k3 : Int) := by omega
              have w1 : IntKind.i64.wrap ((k3 : Int) + 1) = ((k3 + 1 : Nat) : Int) := by rw [w64 (by omega)]; rfl
              have hfs := flat_snoc (stepD a.rows b.rows) hka
              have hmem : IT.getD k3 [] ∈ IT := getD_mem (d := []) hka
              have hg := getD_str hka
              generalize hit : IT.getD k3 [] = it at *
              have hpa := idx_look (fun r : Rw => r.item == it) a.rows
              have hqb := idx_look (fun r : Rw => r.item == it) b.rows
              have hA := hMa it
              have hB := hMb it
              have hml : (acc.map chg).length = acc.length := List.length_map _
              have hsz := sized_chg acc
              have hrm := room1 (show acc.length + 1 ≤ 1000000 by omega) (show 192 ≤ 1000 by omega)
              simp only [go_sem, strs, h3, List.length_map]
              refine vDrawQ (by kernel_rfl) (by kernel_rfl) ?_
              simp only [go_sem, List.length_map, hg, h3, i1]
              refine vCall_of (hA) ?_ ?_ ?_; (focus simp only [go_sem, doc]); (focus simp only [go_sem, doc])
              simp only [go_sem, List.length_map, hg, h3, i1]
              refine vCall_of (hB) ?_ ?_ ?_; (focus simp only [go_sem, doc]); (focus simp only [go_sem, doc])
              generalize idx (fun r : Rw => r.item == it) a.rows = ia at *
              generalize idx (fun r : Rw => r.item == it) b.rows = ib at *
              rcases hqb with ⟨rfl, hqn⟩ | ⟨j, hj, rfl, hqs⟩
              · rcases hpa with ⟨rfl, hpn⟩ | ⟨i, hi, rfl, hps⟩
                · exfalso
                  rw [him] at hmem
                  rw [List.find?_eq_none] at hpn hqn
                  rcases hmem with hm | hm
                  · obtain ⟨r, hr, e⟩ := List.mem_map.1 hm
                    exact hpn r hr (by simpa using e)
                  · obtain ⟨r, hr, e⟩ := List.mem_map.1 hm
                    exact hqn r hr (by simpa using e)
                · have hst : stepD a.rows b.rows it = [wentC ⟨it, (a.rows.getD i default).l⟩] := by unfold stepD; rw [hqn, hps]; rfl
                  rw [hst] at hfs
                  have i2 : (0 : Int) ≤ (i : Int) := by omega
                  have i3 : (i : Int) < (a.rows.length : Int) := by omega
                  have hgr := getD_row' hi
                  rcases hid with rfl | rfl | rfl | rfl
                  all_goals
                    simp only [go_sem]
                    refine vDrawQ (by kernel_rfl) (by kernel_rfl) ?_
                    simp only [go_sem, List.length_map, hg, h3, i1, i2, i3, hgr, row, hml, hsz, hrm, sized_str, atoms_str, w1]
                    exact ⟨⟨k3 + 1, acc ++ [wentC ⟨it, (a.rows.getD i default).l⟩], 94, by omega, by simp only [List.length_append, List.length_cons, List.length_nil]; omega, by rw [hacc, hfs, List.append_assoc], .inr (.inl rfl)⟩, by show IT.length - (k3 + 1) < IT.length - k3; omega, ⟨rfl, forall_cons rfl (forall_cons rfl (forall_cons (by show PV.sl _ _ = PV.sl _ _; rw [List.map_append]; rfl) (forall_cons rfl (forall_cons rfl forall_nil)))), forall_cons ⟨rfl, rfl⟩ (forall_cons ⟨rfl, rfl⟩ forall_nil), forall_cons (by show some (Row.live _ 13 _) = some (Row.live _ 13 _); rw [List.length_append]; rfl) forall_nil⟩⟩
              · have hgq := getD_row' hj
                have j2 : (0 : Int) ≤ (j : Int) := by omega
                have j3 : (j : Int) < (b.rows.length : Int) := by omega
                have j4 : ¬ (j : Int) < 0 := by omega
                have hqm := getD_mem (d := default) hj
                rcases hpa with ⟨rfl, hpn⟩ | ⟨i, hi, rfl, hps⟩
                · have hst : stepD a.rows b.rows it = [cameC ⟨it, (b.rows.getD j default).l⟩] := by unfold stepD; rw [hqs, hpn]
                  rw [hst] at hfs
                  rcases hid with rfl | rfl | rfl | rfl
                  all_goals
                    simp only [go_sem, j4]
                    refine vDrawQ (by kernel_rfl) (by kernel_rfl) ?_
                    simp only [go_sem, List.length_map, hg, h3, i1, j2, j3, hgq, row, hml, hsz, hrm, sized_str, atoms_str, w1]
                    exact ⟨⟨k3 + 1, acc ++ [cameC ⟨it, (b.rows.getD j default).l⟩], 110, by omega, by simp only [List.length_append, List.length_cons, List.length_nil]; omega, by rw [hacc, hfs, List.append_assoc], .inr (.inr (.inl rfl))⟩, by show IT.length - (k3 + 1) < IT.length - k3; omega, ⟨rfl, forall_cons rfl (forall_cons rfl (forall_cons (by show PV.sl _ _ = PV.sl _ _; rw [List.map_append]; rfl) (forall_cons rfl (forall_cons rfl forall_nil)))), forall_cons ⟨rfl, rfl⟩ (forall_cons ⟨rfl, rfl⟩ forall_nil), forall_cons (by show some (Row.live _ 13 _) = some (Row.live _ 13 _); rw [List.length_append]; rfl) forall_nil⟩⟩
                · have hst : stepD a.rows b.rows it = othersL it (a.rows.getD i default).l (b.rows.getD j default).l := by unfold stepD; rw [hqs, hps]
                  rw [hst] at hfs
                  have i2 : (0 : Int) ≤ (i : Int) := by omega
                  have i3 : (i : Int) < (a.rows.length : Int) := by omega
                  have i4 : ¬ (i : Int) < 0 := by omega
                  have hgr := getD_row' hi
                  have hpm := getD_mem (d := default) hi
                  generalize a.rows.getD i default = p at *
                  generalize b.rows.getD j default = q at *
                  have hO := REntries37_eff it p.l q.l (ha.s p hpm).1 (by rw [a3 p hpm, b3 q hqm]; exact Nat.le_refl _) (ha.s p hpm).2 (hb.s q hqm).2
                  have hol2 := othersL_len it p.l q.l
                  have ha3 := a3 p hpm
                  have hos := sized_chg (othersL it p.l q.l)
                  have hoa := atoms_chg (othersL it p.l q.l)
                  have hom : ((othersL it p.l q.l).map chg).length = (othersL it p.l q.l).length := List.length_map _
                  have hro := room1 (show acc.length + (othersL it p.l q.l).length ≤ 1000000 by omega) (show 192 ≤ 1000 by omega)
                  rcases hid with rfl | rfl | rfl | rfl
                  all_goals
                    simp only [go_sem, i4, j4]
                    refine vDrawQ (by kernel_rfl) (by kernel_rfl) ?_
                    simp only [go_sem, List.length_map, hg, h3, i1, i2, i3, hgr, j2, j3, hgq, row]
                    refine vCall_of (hO) ?_ ?_ ?_; (focus simp only [go_sem, ents]); (focus simp only [go_sem, ents])
                    simp only [go_sem, chgs, hml, hsz, hos, hoa, hom, hro, w1]
                    exact ⟨⟨k3 + 1, acc ++ othersL it p.l q.l, 129, by omega, by simp only [List.length_append]; omega, by rw [hacc, hfs, List.append_assoc], .inr (.inr (.inr rfl))⟩, by show IT.length - (k3 + 1) < IT.length - k3; omega, ⟨rfl, forall_cons rfl (forall_cons rfl (forall_cons (by show PV.sl _ _ = PV.sl _ _; rw [List.map_append]) (forall_cons rfl (forall_cons rfl forall_nil)))), forall_cons ⟨rfl, rfl⟩ (forall_cons ⟨rfl, rfl⟩ forall_nil), forall_cons (by show some (Row.live _ 13 _) = some (Row.live _ 13 _); rw [List.length_append]) forall_nil⟩⟩
            · have htk3 : IT.take k3 = IT := List.take_of_length_le (by omega)
              rw [htk3] at hacc
              rw [← hacc]
              simp only [go_sem, strs, h3, List.length_map, chgsc, chgs]
end Go.Proofs.Ytmnibpgmcgdfpaa

set_option linter.unusedSimpArgs false
set_option linter.unusedVariables false
set_option linter.unusedSimpArgs false
set_option linter.unusedVariables false
namespace Go.PL
open Go.RowKit
/-! what young values hold, in the world's own terms -/
def YTs (lo : Nat) (w : World) (v : Value) (n : Nat) : Prop := ∃ A c, v = .slice A n c ∧ (0 < n → ∃ (b o : Nat) (vs : List Value) (t : TypeId), A = some ⟨b, o, none⟩ ∧ lo ≤ b ∧ w.heap[b]? = some (Obj.cells ⟨vs⟩ t (0, 0)) ∧ o + n ≤ vs.length ∧ ∀ k, k < n → ∃ s, vs.getD (o + k) undef = .string s)
def YEs (lo : Nat) (w : World) (v : Value) (n : Nat) : Prop := ∃ A c, v = .slice A n c ∧ (0 < n → ∃ (b o : Nat) (vs : List Value) (t : TypeId), A = some ⟨b, o, none⟩ ∧ lo ≤ b ∧ w.heap[b]? = some (Obj.cells ⟨vs⟩ t (0, 0)) ∧ o + n * 5 ≤ vs.length ∧ ∀ k, k < n → ∃ m, vs.getD (o + k * 5 + 3) undef = .int .i64 m)
theorem YTs.keep {lo n : Nat} {w w' : World} {v : Value} (h : YTs lo w v n) (k : KeepW lo w w') : YTs lo w' v n := by
  obtain ⟨A, c, hv, h⟩ := h
  refine ⟨A, c, hv, fun hn => ?_⟩
  obtain ⟨b, o, vs, t, h1, h2, h3, h4, h5⟩ := h hn
  obtain ⟨vs', e1, e2, e3⟩ := k.k b vs t h3
  refine ⟨b, o, vs', t, h1, h2, e1, by omega, fun j hj => ?_⟩
  obtain ⟨s, hs⟩ := h5 j hj
  have := e3 (o + j)
  rw [hs] at this
  exact this.str
theorem YEs.keep {lo n : Nat} {w w' : World} {v : Value} (h : YEs lo w v n) (k : KeepW lo w w') : YEs lo w' v n := by
  obtain ⟨A, c, hv, h⟩ := h
  refine ⟨A, c, hv, fun hn => ?_⟩
  obtain ⟨b, o, vs, t, h1, h2, h3, h4, h5⟩ := h hn
  obtain ⟨vs', e1, e2, e3⟩ := k.k b vs t h3
  refine ⟨b, o, vs', t, h1, h2, e1, by omega, fun j hj => ?_⟩
  obtain ⟨s, hs⟩ := h5 j hj
  have := e3 (o + j * 5 + 3)
  rw [hs] at this
  exact this.int
/-- a young list, in its cells -/
theorem Rep.young_cells {S : Stable} {w : World} {v : Value} {es : List PV} {sz lo : Nat} (hst : StabS S w) (hlo : ∀ b, S.z b → lo ≤ b) (r : Rep S v (PV.frl es)) (hz : ∀ i, i < es.length → (es.getD i .any).cells.length = sz) (hsz : 0 < sz) :
    ∃ A c, v = .slice A es.length c ∧ (0 < es.length → ∃ (b o : Nat) (vs : List Value) (t : TypeId), A = some ⟨b, o, none⟩ ∧ lo ≤ b ∧ w.heap[b]? = some (Obj.cells ⟨vs⟩ t (0, 0)) ∧ o + es.length * sz ≤ vs.length ∧
      ∀ i j, i < es.length → j < sz → Rep S (vs.getD (o + i * sz + j) undef) ((es.getD i .any).cells.getD j .any)) := by
  obtain ⟨r1, hy⟩ := r.frl_inv
  generalize hes : es = es' at r1
  cases r1 with
  | sl0 a cap => subst hes; exact ⟨a, cap, rfl, fun h => absurd h (by simp)⟩
  | sl b o cap sz' es vals hsz' hcap hS hR =>
    subst hes
    refine ⟨_, cap, rfl, fun hpos => ?_⟩
    obtain ⟨hzb, hyb⟩ := hy b o _ _ rfl hpos
    obtain ⟨⟨vs⟩, t, hb⟩ := hst.y b hyb
    have e : sz' = sz := (hsz' 0 hpos).symm.trans (hz 0 hpos)
    subst e
    have at1 : ∀ i j, i < es.length → j < sz' → o + i * sz' + j < vs.length ∧ vs.getD (o + i * sz' + j) undef = vals i j := fun i j hi hj => by
      have h1 := hst.c _ _ _ (hS i j hi hj)
      rw [cell_of hb] at h1
      obtain ⟨h2, h3⟩ := List.getElem?_eq_some_iff.1 h1
      exact ⟨h2, by rw [getD_lt h2]; exact h3⟩
    refine ⟨b, o, vs, t, rfl, hlo b hzb, hb, ?_, fun i j hi hj => ?_⟩
    · have h1 := (at1 (es.length - 1) (sz' - 1) (by omega) (by omega)).1
      have h2 : es.length * sz' = (es.length - 1) * sz' + sz' := by
        have : es.length = (es.length - 1) + 1 := by omega
        rw [this, Nat.add_mul]; simp
      omega
    · rw [(at1 i j hi hj).2]; exact hR i j hi hj
end Go.PL
namespace Go.Proofs.Ytmnibpgmcgdfpaa
open Go.PL Go.RowKit
theorem yts_of {S : Stable} {w : World} {v : Value} {l : List Str} {lo : Nat} (hst : StabS S w) (hlo : ∀ b, S.z b → lo ≤ b) (r : Rep S v (PV.frl (l.map .str))) : YTs lo w v l.length := by
  obtain ⟨A, c, hv, h⟩ := r.young_cells hst hlo (sz := 1) (fun i hi => by
    have hi' : i < l.length := by simpa using hi
    rw [getD_str hi']; rfl) (by omega)
  simp only [List.length_map] at hv h
  refine ⟨A, c, hv, fun hn => ?_⟩
  obtain ⟨b, o, vs, t, h1, h2, h3, h4, h5⟩ := h hn
  refine ⟨b, o, vs, t, h1, h2, h3, by omega, fun k hk => ?_⟩
  have := h5 k 0 hk (by omega)
  rw [getD_str hk, Nat.mul_one, Nat.add_zero] at this
  have this : Rep S (vs.getD (o + k) undef) (.str (l.getD k [])) := this
  generalize vs.getD (o + k) undef = u at this
  cases this; exact ⟨_, rfl⟩
theorem yes_of {S : Stable} {w : World} {v : Value} {l : List En} {lo : Nat} (hst : StabS S w) (hlo : ∀ b, S.z b → lo ≤ b) (r : Rep S v (PV.frl (l.map entF))) : YEs lo w v l.length := by
  have hg : ∀ {i}, i < l.length → (l.map entF).getD i .any = entF (l.getD i default) := fun h => getD_map h
  obtain ⟨A, c, hv, h⟩ := r.young_cells hst hlo (sz := 5) (fun i hi => by
    have hi' : i < l.length := by simpa using hi
    rw [hg hi']; rfl) (by omega)
  simp only [List.length_map] at hv h
  refine ⟨A, c, hv, fun hn => ?_⟩
  obtain ⟨b, o, vs, t, h1, h2, h3, h4, h5⟩ := h hn
  refine ⟨b, o, vs, t, h1, h2, h3, h4, fun k hk => ?_⟩
  have := h5 k 3 hk (by omega)
  rw [hg hk] at this
  have this : Rep S (vs.getD (o + k * 5 + 3) undef) (.int .i64 (l.getD k default).n) := this
  generalize vs.getD (o + k * 5 + 3) undef = u at this
  cases this; exact ⟨_, rfl⟩
/-- young changes -/
def YCs (lo : Nat) (w : World) (v : Value) (cs : List Cg) : Prop := ∃ A c, v = .slice A cs.length c ∧ (0 < cs.length → ∃ (b o : Nat) (vs : List Value) (t : TypeId), A = some ⟨b, o, none⟩ ∧ lo ≤ b ∧ w.heap[b]? = some (Obj.cells ⟨vs⟩ t (0, 0)) ∧ o + cs.length * 13 ≤ vs.length ∧
  ∀ k, k < cs.length → YTs lo w (vs.getD (o + k * 13 + 11) undef) (cs.getD k default).now.l.length ∧ YEs lo w (vs.getD (o + k * 13 + 12) undef) (cs.getD k default).l.length)
theorem YCs.keep {lo : Nat} {cs : List Cg} {w w' : World} {v : Value} (h : YCs lo w v cs) (k : KeepW lo w w') : YCs lo w' v cs := by
  obtain ⟨A, c, hv, h⟩ := h
  refine ⟨A, c, hv, fun hn => ?_⟩
  obtain ⟨b, o, vs, t, h1, h2, h3, h4, h5⟩ := h hn
  obtain ⟨vs', e1, e2, e3⟩ := k.k b vs t h3
  refine ⟨b, o, vs', t, h1, h2, e1, by omega, fun j hj => ?_⟩
  obtain ⟨g1, g2⟩ := h5 j hj
  have l1 := e3 (o + j * 13 + 11)
  have l2 := e3 (o + j * 13 + 12)
  obtain ⟨A1, c1, hv1, _⟩ := id g1
  obtain ⟨A2, c2, hv2, _⟩ := id g2
  rw [hv1] at l1
  rw [hv2] at l2
  rw [l1.slice, l2.slice, ← hv1, ← hv2]
  exact ⟨g1.keep k, g2.keep k⟩
theorem ycs_of {S : Stable} {w : World} {v : Value} {l : List Cg} {lo : Nat} (hst : StabS S w) (hlo : ∀ b, S.z b → lo ≤ b) (r : Rep S v (PV.frl (l.map chgF))) : YCs lo w v l := by
  have hg : ∀ {i}, i < l.length → (l.map chgF).getD i .any = chgF (l.getD i default) := fun h => getD_map h
  obtain ⟨A, c, hv, h⟩ := r.young_cells hst hlo (sz := 13) (fun i hi => by
    have hi' : i < l.length := by simpa using hi
    rw [hg hi']; rfl) (by omega)
  simp only [List.length_map] at hv h
  refine ⟨A, c, hv, fun hn => ?_⟩
  obtain ⟨b, o, vs, t, h1, h2, h3, h4, h5⟩ := h hn
  refine ⟨b, o, vs, t, h1, h2, h3, h4, fun k hk => ?_⟩
  have q1 := h5 k 11 hk (by omega)
  have q2 := h5 k 12 hk (by omega)
  rw [hg hk] at q1 q2
  exact ⟨yts_of hst hlo q1, yes_of hst hlo q2⟩
end Go.Proofs.Ytmnibpgmcgdfpaa
