/- Contracts of functions and laws of this seat, each for every input that it names: lemmas of the proof. -/
import Derived.Test.YtmnibpgmcgdfpaaXCh
import Derived.Test.YtmnibpgmcgdfpaaPlK
import Derived.Test.YtmnibpgmcgdfpaaXCs
set_option linter.unusedSimpArgs false
set_option linter.unusedVariables false
set_option linter.unusedSimpArgs false
set_option linter.unusedVariables false
namespace Go.Proofs.Ytmnibpgmcgdfpaa
open Go.PL
/-! young entries and changes -/
def entF (e : En) : PV := .agg [.int .i64 e.at'.sc, .str e.at'.gr, .str e.at'.nm, .int .i64 e.n, PV.frl (e.l.map .str)]
def chgF (c : Cg) : PV := .agg [.int .i64 c.kind, .str c.item, .int .i64 c.was.at'.sc, .str c.was.at'.gr, .str c.was.at'.nm, .int .i64 c.was.n, PV.frl (c.was.l.map .str), .int .i64 c.now.at'.sc, .str c.now.at'.gr, .str c.now.at'.nm, .int .i64 c.now.n, PV.frl (c.now.l.map .str), PV.frl (c.l.map entF)]
theorem entF_ids (e : En) : (entF e).ids = [] := by simp [entF, PV.ids, PV.idsL, frl_ids]
theorem entF_dids (e : En) : (entF e).dids = [] := by simp only [entF, PV.dids, PV.didsL, frl_dids, didsL_str, List.append_nil]
theorem didsL_entF (l : List En) : PV.didsL (l.map entF) = [] := by
  induction l with
  | nil => rfl
  | cons e l ih => simp only [List.map_cons, PV.didsL, entF_dids, ih, List.append_nil]
theorem chgF_dids (c : Cg) : (chgF c).dids = [] := by simp only [chgF, PV.dids, PV.didsL, frl_dids, didsL_str, didsL_entF, List.append_nil]
theorem didsL_chgF (l : List Cg) : PV.didsL (l.map chgF) = [] := by
  induction l with
  | nil => rfl
  | cons e l ih => simp only [List.map_cons, PV.didsL, chgF_dids, ih, List.append_nil]
theorem sized_chgF (l : List Cg) : Sized 13 (l.map chgF) := fun e he => by
  obtain ⟨x, _, rfl⟩ := List.mem_map.1 he; rfl
theorem atoms_chgF (l : List Cg) : Atoms (l.map chgF) := fun e he => by
  obtain ⟨x, _, rfl⟩ := List.mem_map.1 he; rfl
set_option maxHeartbeats 4000000 in
theorem CloneStr_fr (l : List Str) (hl : l.length ≤ 1000000) : PL.Pure Try.prog 84 [strs l] (PV.frl (l.map .str)) := by
  cases l with
  | nil => exact CloneStr_pure [] hl
  | cons x l =>
    have hr := room_small (show (x :: l).length ≤ 100000000000 by omega) (show 16 ≤ 1000 by omega)
    have hs := sized_str (x :: l)
    have ha := atoms_str (x :: l)
    simp only [List.map_cons] at hs ha
    refine PL.Pure.of_p [] Try.func84 (by decide) rfl Try.ntmps84 Try.results84 (by simp) (by rw [frl_dids, didsL_str]) ?_
    simp only [go_sem, strs, List.map_cons, hs, ha]
    exact ⟨hr, _, rfl, Pub.frl rfl (by simp)⟩
set_option maxHeartbeats 4000000 in
theorem DOwnE_fr (e : En) (he : e.l.length ≤ 1000000) : PL.Pure Try.prog 41 [ent e] (entF e) := by
  have hC := CloneStr_fr e.l he
  refine PL.Pure.of_p [] Try.func41 (by decide) rfl Try.ntmps41 Try.results41 (by simp) (entF_dids _) ?_
  simp only [go_sem, ent]
  refine vCall_of (hC) ?_ ?_ ?_; (focus simp only [go_sem, strs]); (focus simp only [go_sem, strs])
  simp only [go_sem]
  exact ⟨_, rfl, Pub.clean (entF_ids e)⟩
/-- entries of which the first k are young -/
def mixF (A : List En) (k : Nat) : List PV := (A.take k).map entF ++ (A.drop k).map ent
theorem mixF_len (A : List En) (k : Nat) : (mixF A k).length = A.length := by simp [mixF]; omega
theorem mixF_ids (A : List En) (k : Nat) : ∀ p ∈ mixF A k, p.ids = [] := fun p hp => by
  rcases List.mem_append.1 hp with h | h
  · exact ids_mapV entF_ids _ p h
  · exact ids_mapV ent_ids _ p h
theorem mixF_idsL (A : List En) (k : Nat) : PV.idsL (mixF A k) = [] := List.eq_nil_iff_forall_not_mem.2 fun i hi => by
  obtain ⟨c, hc, hic⟩ := PV.mem_idsL.1 hi; rw [mixF_ids A k c hc] at hic; cases hic
theorem mixF_getD {A : List En} {k : Nat} (h : k < A.length) : (mixF A k).getD k .any = ent (A.getD k default) := by
  unfold mixF
  rw [List.getD_eq_getElem?_getD, List.getElem?_append_right (by simp; omega)]
  have e : k - ((A.take k).map entF).length = 0 := by simp; omega
  rw [e, List.getElem?_map, List.getElem?_drop]
  simp [List.getElem?_eq_getElem h]
theorem mixF_set {A : List En} {k : Nat} (h : k < A.length) : (mixF A k).set k (entF (A.getD k default)) = mixF A (k + 1) := by
  unfold mixF
  have hl : ((A.take k).map entF).length = k := by simp; omega
  rw [List.set_append_right _ _ (by omega), hl, Nat.sub_self, take_snoc (d := default) h, List.map_append, List.append_assoc]
  congr 1
  rw [List.drop_eq_getElem_cons h]
  rfl
set_option maxRecDepth 20000 in
set_option maxHeartbeats 16000000 in
theorem Owns_fr (l : List En) (hl : l.length ≤ 100000) (hl' : ∀ e ∈ l, e.l.length ≤ 1000000) : PL.Pure Try.prog 42 [ents l] (PV.frl (l.map entF)) := by
  have hcl : ∀ l : List En, ∀ p ∈ l.map ent, p.ids = [] := fun l => ids_mapV ent_ids l
  cases l with
  | nil => exact Owns_pure [] hl hl'
  | cons x l0 =>
    have hC := CloneEnts_eff x l0 hl
    generalize hA : x :: l0 = A at *
    have hm0 : A.map ent = mixF A 0 := by simp [mixF]
    refine PL.Pure.of_p [] Try.func42 (by decide) rfl Try.ntmps42 Try.results42 (by simp) (by rw [frl_dids, didsL_entF]) ?_
    simp only [go_sem, ents]
    refine vCall_vn 6 hC (hcl _) (by simp [PV.ids, ents]) rfl (by simp only [go_sem, ents]) ?_
    simp only [go_sem, PV.ren, id]
    refine vLoopX (ι := { k : Nat // k ≤ A.length }) 21 (fun x => [(0, .vsl 6 A.length 5), (7, .vsl 6 A.length 5), (8, .int .i64 (A.length : Int)), (9, .int .i64 (x.1 : Int))]) (fun _ => []) (fun _ => [(6, .vec A.length 5 27)]) (fun _ => []) (fun _ => []) (fun x => [(6, mixF A x.1)]) (fun _ => []) [] [] [] (fun x => A.length - x.1) ⟨0, Nat.zero_le _⟩
      (hasX_v1 rfl (forall_cons rfl (forall_cons rfl (forall_cons rfl (forall_cons rfl (forall_nil))))) rfl (by simp only [← hm0]; rfl)) (fun x => wholeX_v1 (by simp [PV.ids, PV.idsL, refInM]) (mixF_idsL _ _)) (fun x => ?_)
    obtain ⟨k, hk⟩ := x
    simp only
    by_cases h : (k : Int) < (A.length : Int)
    · have hka : k < A.length := by omega
      have i0 : (0 : Int) ≤ (k : Int) := by omega
      have w1 : IntKind.i64.wrap ((k : Int) + 1) = ((k + 1 : Nat) : Int) := by rw [w64 (by omega)]; rfl
      have hO := DOwnE_fr (A.getD k default) (hl' _ (getD_mem' hka))
      have hset := mixF_set hka
      have hget := mixF_getD hka
      have hlen := mixF_len A k
      simp only [entF, PV.frl] at hset
      simp only [go_sem, h, i0, hlen, hget, ent]
      refine vCall_of (hO) ?_ ?_ ?_; (focus simp only [go_sem, ent]); (focus simp only [go_sem, ent])
      simp only [go_sem, h, i0, hlen, hget, ent, entF, hset, w1]
      exact ⟨⟨k + 1, by omega⟩, by show A.length - (k + 1) < A.length - k; omega, hasX_v1 rfl (forall_cons rfl (forall_cons rfl (forall_cons rfl (forall_cons rfl (forall_nil))))) rfl rfl⟩
    · have hend : mixF A k = A.map entF := by
        obtain rfl : k = A.length := by omega
        simp [mixF]
      simp only [go_sem, h]
      refine ⟨_, rfl, ?_⟩
      rw [← hend]
      exact Pub.frlv (by simp) rfl (mixF_len _ _) (mixF_ids _ _)
end Go.Proofs.Ytmnibpgmcgdfpaa

set_option linter.unusedSimpArgs false
set_option linter.unusedVariables false
set_option linter.unusedSimpArgs false
set_option linter.unusedVariables false
namespace Go.Proofs.Ytmnibpgmcgdfpaa
open Go.PL
def chgsF (l : List Cg) : PV := .sl .no (l.map chgF)
theorem chgsF_dids (l : List Cg) : (chgsF l).dids = [] := by simp only [chgsF, PV.dids, didsL_chgF]
set_option maxRecDepth 20000 in
set_option maxHeartbeats 16000000 in
theorem others_pureF (it : Str) (a b : List En) (hl : a.length ≤ 100000) (hlb : a.length ≤ b.length) (ha' : ∀ e ∈ a, e.l.length ≤ 1000000) (hb' : ∀ e ∈ b, e.l.length ≤ 1000000) : PL.Pure Try.prog 48 [.str it, ents a, ents b] (chgsF (othersL it a b)) := by
  have hol : a.length ≤ maxLen := by rw [maxLen_eq]; omega
  have hK : othersL it a b = othersK it a b a.length := rfl
  rw [hK]
  refine PL.Pure.of_v Try.func48 (by decide) rfl Try.ntmps48 Try.results48 (by simp) (chgsF_dids _) ?_
  simp only [go_sem, ents, List.length_map]
  refine awp_nilRow 7 35 13 30 rfl rfl ?_
  refine vLoopM (ι := { x : Nat // x ≤ (a).length }) 38 (fun x => [(0, .str it), (2, ents b), (7, .sl (.row 35) ((othersK it a b x.1).map chgF)), (10, ents a), (11, .int .i64 (a.length : Int)), (12, .int .i64 (x.1 : Int))]) (fun x => []) (fun x => [(35, .live ((othersK it a b x.1).length) (13) (30))]) (fun x => (a).length - x.1) ⟨0, Nat.zero_le _⟩ ⟨rfl, (forall_cons rfl (forall_cons rfl (forall_cons rfl (forall_cons rfl (forall_cons rfl (forall_cons rfl forall_nil)))))), forall_nil, (forall_cons rfl forall_nil)⟩ (fun x => ⟨(forall_cons rfl (forall_cons rfl (forall_cons (by simp [PV.ids, refInM]) (forall_cons rfl (forall_cons rfl (forall_cons rfl forall_nil)))))), forall_nil⟩) (fun x => ?_); obtain ⟨k, hk⟩ := x; simp only at hk ⊢
  by_cases h : (k : Int) < (a.length : Int)
  · (have hka : k < (a).length := by omega); (have w1 := w64s hka (hol)); (have i1 : (0 : Int) ≤ (k : Int) := by omega)
    have hkb : k < b.length := by omega
    have h' : (k : Int) < (b.length : Int) := by omega
    have hsn := othersK_snoc it a b k
    have hkl := othersK_len it a b k
    have hE := DEqual_pure (a.getD k default) (b.getD k default) (by have := ha' _ (getD_mem' (d := default) hka); rw [maxLen_eq]; omega) (by have := hb' _ (getD_mem' (d := default) hkb); rw [maxLen_eq]; omega)
    have hO1 := DOwnE_fr (a.getD k default) (ha' _ (getD_mem' hka))
    have hO2 := DOwnE_fr (b.getD k default) (hb' _ (getD_mem' hkb))
    have hml : ((othersK it a b k).map chgF).length = (othersK it a b k).length := List.length_map _
    have hsz := sized_chgF (othersK it a b k)
    have hrm := room1 (show (othersK it a b k).length + 1 ≤ 1000000 by omega) (show 192 ≤ 1000 by omega)
    by_cases he : a.getD k default = b.getD k default
    · rw [decide_eq_true he] at hE
      rw [if_pos he, List.append_nil] at hsn
      simp only [go_sem, ents, h, List.length_map, getD_ent' hka, getD_ent' hkb, ent, i1, h']
      refine vDrawQ (by kernel_rfl) (by kernel_rfl) ?_
      simp only [go_sem, ents, h, List.length_map, getD_ent' hka, getD_ent' hkb, ent, i1, h']
      refine vCall_of (hE) ?_ ?_ ?_; (focus simp only [go_sem, ent]); (focus simp only [go_sem, ent])
      simp only [go_sem, w1]
      exact ⟨⟨k + 1, by omega⟩, by show a.length - (k + 1) < a.length - k; omega, ⟨rfl, by simp only; rw [hsn]; exact (forall_cons rfl (forall_cons rfl (forall_cons rfl (forall_cons rfl (forall_cons rfl (forall_cons rfl (forall_nil))))))), forall_nil, by simp only; rw [hsn]; exact forall_cons rfl forall_nil⟩⟩
    · rw [decide_eq_false he] at hE
      rw [if_neg he] at hsn
      simp only [go_sem, ents, h, List.length_map, getD_ent' hka, getD_ent' hkb, ent, i1, h']
      refine vDrawQ (by kernel_rfl) (by kernel_rfl) ?_
      simp only [go_sem, ents, h, List.length_map, getD_ent' hka, getD_ent' hkb, ent, i1, h']
      refine vCall_of (hE) ?_ ?_ ?_; (focus simp only [go_sem, ent]); (focus simp only [go_sem, ent])
      simp only [go_sem]
      refine vDrawQ (by kernel_rfl) (by kernel_rfl) ?_
      simp only [go_sem, ents, h, List.length_map, getD_ent' hka, getD_ent' hkb, ent, i1, h']
      refine vCall_of (hO1) ?_ ?_ ?_; (focus simp only [go_sem, ent]); (focus simp only [go_sem, ent])
      simp only [go_sem, ents, h, List.length_map, getD_ent' hka, getD_ent' hkb, ent, i1, h']
      refine vCall_of (hO2) ?_ ?_ ?_; (focus simp only [go_sem, ent]); (focus simp only [go_sem, ent])
      simp only [go_sem, entF, hml, hsz, hrm, sized_str, atoms_str, w1]
      exact ⟨⟨k + 1, by omega⟩, by show a.length - (k + 1) < a.length - k; omega, ⟨rfl, by simp only; rw [hsn, List.map_append]; exact (forall_cons rfl (forall_cons rfl (forall_cons rfl (forall_cons rfl (forall_cons rfl (forall_cons rfl (forall_nil))))))), forall_nil, by simp only; rw [hsn, List.length_append]; exact forall_cons rfl forall_nil⟩⟩
  · obtain rfl : k = a.length := by omega
    simp only [go_sem, chgsF, h]
set_option maxRecDepth 20000 in
set_option maxHeartbeats 16000000 in
theorem others_effF (it : Str) (a b : List En) (hl : a.length ≤ 100000) (hlb : a.length ≤ b.length) (ha' : ∀ e ∈ a, e.l.length ≤ 1000000) (hb' : ∀ e ∈ b, e.l.length ≤ 1000000) : Eff Try.prog 48 [.str it, ents a, ents b] noV (.sl (.row 35) ((othersL it a b).map chgF)) (rowN 35 (othersL it a b).length 13 30) := by
  have hol : a.length ≤ maxLen := by rw [maxLen_eq]; omega
  have hK : othersL it a b = othersK it a b a.length := rfl
  rw [hK]
  refine Eff.rn [] Try.func48 (by decide) rfl Try.ntmps48 Try.results48 (by simp) (by simp [PV.ids, ents]) (by simp [PV.ids]) ?_
  simp only [go_sem, ents, List.length_map]
  refine awp_nilRow 7 35 13 30 rfl rfl ?_
  refine vLoopM (ι := { x : Nat // x ≤ (a).length }) 38 (fun x => [(0, .str it), (2, ents b), (7, .sl (.row 35) ((othersK it a b x.1).map chgF)), (10, ents a), (11, .int .i64 (a.length : Int)), (12, .int .i64 (x.1 : Int))]) (fun x => []) (fun x => [(35, .live ((othersK it a b x.1).length) (13) (30))]) (fun x => (a).length - x.1) ⟨0, Nat.zero_le _⟩ ⟨rfl, (forall_cons rfl (forall_cons rfl (forall_cons rfl (forall_cons rfl (forall_cons rfl (forall_cons rfl forall_nil)))))), forall_nil, (forall_cons rfl forall_nil)⟩ (fun x => ⟨(forall_cons rfl (forall_cons rfl (forall_cons (by simp [PV.ids, refInM]) (forall_cons rfl (forall_cons rfl (forall_cons rfl forall_nil)))))), forall_nil⟩) (fun x => ?_); obtain ⟨k, hk⟩ := x; simp only at hk ⊢
  by_cases h : (k : Int) < (a.length : Int)
  · (have hka : k < (a).length := by omega); (have w1 := w64s hka (hol)); (have i1 : (0 : Int) ≤ (k : Int) := by omega)
    have hkb : k < b.length := by omega
    have h' : (k : Int) < (b.length : Int) := by omega
    have hsn := othersK_snoc it a b k
    have hkl := othersK_len it a b k
    have hE := DEqual_pure (a.getD k default) (b.getD k default) (by have := ha' _ (getD_mem' (d := default) hka); rw [maxLen_eq]; omega) (by have := hb' _ (getD_mem' (d := default) hkb); rw [maxLen_eq]; omega)
    have hO1 := DOwnE_fr (a.getD k default) (ha' _ (getD_mem' hka))
    have hO2 := DOwnE_fr (b.getD k default) (hb' _ (getD_mem' hkb))
    have hml : ((othersK it a b k).map chgF).length = (othersK it a b k).length := List.length_map _
    have hsz := sized_chgF (othersK it a b k)
    have hrm := room1 (show (othersK it a b k).length + 1 ≤ 1000000 by omega) (show 192 ≤ 1000 by omega)
    by_cases he : a.getD k default = b.getD k default
    · rw [decide_eq_true he] at hE
      rw [if_pos he, List.append_nil] at hsn
      simp only [go_sem, ents, h, List.length_map, getD_ent' hka, getD_ent' hkb, ent, i1, h']
      refine vDrawQ (by kernel_rfl) (by kernel_rfl) ?_
      simp only [go_sem, ents, h, List.length_map, getD_ent' hka, getD_ent' hkb, ent, i1, h']
      refine vCall_of (hE) ?_ ?_ ?_; (focus simp only [go_sem, ent]); (focus simp only [go_sem, ent])
      simp only [go_sem, w1]
      exact ⟨⟨k + 1, by omega⟩, by show a.length - (k + 1) < a.length - k; omega, ⟨rfl, by simp only; rw [hsn]; exact (forall_cons rfl (forall_cons rfl (forall_cons rfl (forall_cons rfl (forall_cons rfl (forall_cons rfl (forall_nil))))))), forall_nil, by simp only; rw [hsn]; exact forall_cons rfl forall_nil⟩⟩
    · rw [decide_eq_false he] at hE
      rw [if_neg he] at hsn
      simp only [go_sem, ents, h, List.length_map, getD_ent' hka, getD_ent' hkb, ent, i1, h']
      refine vDrawQ (by kernel_rfl) (by kernel_rfl) ?_
      simp only [go_sem, ents, h, List.length_map, getD_ent' hka, getD_ent' hkb, ent, i1, h']
      refine vCall_of (hE) ?_ ?_ ?_; (focus simp only [go_sem, ent]); (focus simp only [go_sem, ent])
      simp only [go_sem]
      refine vDrawQ (by kernel_rfl) (by kernel_rfl) ?_
      simp only [go_sem, ents, h, List.length_map, getD_ent' hka, getD_ent' hkb, ent, i1, h']
      refine vCall_of (hO1) ?_ ?_ ?_; (focus simp only [go_sem, ent]); (focus simp only [go_sem, ent])
      simp only [go_sem, ents, h, List.length_map, getD_ent' hka, getD_ent' hkb, ent, i1, h']
      refine vCall_of (hO2) ?_ ?_ ?_; (focus simp only [go_sem, ent]); (focus simp only [go_sem, ent])
      simp only [go_sem, entF, hml, hsz, hrm, sized_str, atoms_str, w1]
      exact ⟨⟨k + 1, by omega⟩, by show a.length - (k + 1) < a.length - k; omega, ⟨rfl, by simp only; rw [hsn, List.map_append]; exact (forall_cons rfl (forall_cons rfl (forall_cons rfl (forall_cons rfl (forall_cons rfl (forall_cons rfl (forall_nil))))))), forall_nil, by simp only; rw [hsn, List.length_append]; exact forall_cons rfl forall_nil⟩⟩
  · obtain rfl : k = a.length := by omega
    simp only [go_sem, chgsF, h]
    exact eret_rn (r0 := .sl (.row 35) _) rfl (.keep _ (by intro i hi; simp [PV.ids] at hi; subst hi; exact ⟨_, List.mem_singleton.2 rfl, rfl⟩)) rfl
end Go.Proofs.Ytmnibpgmcgdfpaa

set_option linter.unusedSimpArgs false
set_option linter.unusedVariables false
set_option linter.unusedSimpArgs false
set_option linter.unusedVariables false
namespace Go.Proofs.Ytmnibpgmcgdfpaa
open Go.PL
set_option maxRecDepth 20000 in
set_option maxHeartbeats 64000000 in
theorem DDiff_fr (l : List Fd) (a b : Dc) (hl : l.length ≤ maxLen) (hl' : ∀ f ∈ l, f.cases'.length ≤ 1000000) (ha : OkDd a) (hb : OkDd b) :
    PL.Pure Try.prog 19 [flds l, doc a, doc b] (.tup [PV.frl ((diffM l a b).1.map chgF), .int .i64 (diffM l a b).2]) := by
  have hRa := DRight_pure l a hl hl' ha.fine
  have hRb := DRight_pure l b hl hl' hb.fine
  unfold diffM
  cases hra : rightD l a
  · rw [hra] at hRa
    have h0 := DDiff_pure l a b hl hl' ha hb
    have e : diffM l a b = ([], 5) := by unfold diffM; rw [if_pos (.inl hra)]
    rw [e] at h0
    rw [if_pos (.inl rfl)]
    exact h0
  · cases hrb : rightD l b
    · rw [hra] at hRa; rw [hrb] at hRb
      have h0 := DDiff_pure l a b hl hl' ha hb
      have e : diffM l a b = ([], 5) := by unfold diffM; rw [if_pos (.inr hrb)]
      rw [e] at h0
      rw [if_pos (.inr rfl)]
      exact h0
    · rw [hra] at hRa; rw [hrb] at hRb
      rw [if_neg (by simp)]
      obtain ⟨a1, a2, a3, a4, a5⟩ := rightD_len hra
      obtain ⟨b1, b2, b3, _, _⟩ := rightD_len hrb
      have hO := others_effF [] a.head b.head ha.h (by omega) ha.e hb.e
      refine PL.Pure.of_p [] Try.func19 (by decide) rfl Try.ntmps19 Try.results19 (by simp) (by simp only [PV.dids, PV.didsL, frl_dids, didsL_chgF, List.append_nil]) ?_
      simp only [go_sem, flds, doc]
      refine vScopeM (ι := DiX a.rows b.rows (othersL [] a.head b.head)) 124 (fun x => [(8, .sl (.row x.id) (x.acc.map chgF)), (9, .sl .no (x.P.map row)), (10, .sl .no (x.Q.map row))]) (fun x => []) (fun x => [(x.id, .live x.acc.length 13 30)]) (fun x => x.P.length + x.Q.length) 0 _ (by exact rfl) (fun x => ⟨forall_cons (by simp [PV.ids, refInM]) (forall_cons rfl (forall_cons rfl forall_nil)), forall_nil⟩) (fun x => ?_) (fun cut => ?_)
      · obtain ⟨P, Q, acc, id, hP, hQ, hl, h, hid⟩ := x
        simp only
        cases P with
        | nil =>
          cases Q with
          | nil =>
            rw [diffR, List.append_nil] at h
            rw [← h]
            simp only [go_sem, List.map_nil, List.length_nil]
            exact ⟨_, rfl, Pub.tup2 (Pub.frl (n := acc.length) (sz := 13) (e := 30) (by simp [upd]) (List.length_map _)) (Pub.clean rfl)⟩
          | cons q qs =>
            have r0 : (0 : Int) ≤ 0 := by omega
            have hml : (acc.map chgF).length = acc.length := List.length_map _
            have hsz := sized_chgF acc
            have hrm := room1 (show acc.length + 1 ≤ 1000000 by have := Nat.zero_le; simp only [List.length_cons, List.length_nil] at hl; omega) (show 192 ≤ 1000 by omega)
            have hl0 : True := trivial
            have hg0 : True := trivial
            have kl0 : (((qs.length + 1 : Nat) : Int) == 0) = false := by simp; omega
            have kg0 : (0 : Int) < ((qs.length + 1 : Nat) : Int) := by omega
            have ks1 : (1 : Int) ≤ ((qs.length + 1 : Nat) : Int) := by omega
            have ksr := sized_row qs
            have hO2 := Owns_fr q.l (hb.s q (hQ q (by simp))).1 (hb.s q (hQ q (by simp))).2
            simp only [go_sem, List.map_nil, List.length_nil, List.map_cons, List.length_cons, List.length_map, row, hl0, hg0, kl0, kg0, r0]
            refine vDrawQ (by kernel_rfl) (by kernel_rfl) ?_
            simp only [go_sem, List.map_nil, List.length_nil, List.map_cons, List.length_cons, List.length_map, row, hl0, hg0, kl0, kg0, r0]
            refine vDrawQ (by kernel_rfl) (by kernel_rfl) ?_
            simp only [go_sem, List.map_nil, List.length_nil, List.map_cons, List.length_cons, List.length_map, row, hl0, hg0, kl0, kg0, r0]
            refine vDrawQ (by kernel_rfl) (by kernel_rfl) ?_
            simp only [go_sem, List.map_nil, List.length_nil, List.map_cons, List.length_cons, List.length_map, row, hl0, hg0, kl0, kg0, r0]
            refine vCall_of (hO2) ?_ ?_ ?_; (focus simp only [go_sem, ents]); (focus simp only [go_sem, ents])
            rcases hid with rfl | rfl | rfl | rfl
            all_goals
              simp only [go_sem, List.map_nil, List.length_nil, List.map_cons, List.length_cons, List.length_map, row, hl0, hg0, kl0, kg0, r0, ents, hml, hsz, hrm, sized_str, atoms_str, Int.le_refl, cut1_row, ks1, ksr]
              exact ⟨⟨[], qs, acc ++ [cameC q], 121, hP, fun x hx => hQ x (by simp [hx]), by simp only [List.length_append, List.length_cons, List.length_nil] at hl ⊢; omega, by rw [← h, diffR, List.append_assoc]; rfl, .inr (.inr (.inl rfl))⟩, by show _ + qs.length < _ + (q :: qs).length; simp only [List.length_cons]; omega, ⟨rfl, forall_cons (by show PV.sl _ _ = PV.sl _ _; rw [List.map_append]; rfl) (forall_cons rfl (forall_cons rfl forall_nil)), forall_nil, forall_cons (by show some (Row.live _ 13 _) = some (Row.live _ 13 _); rw [List.length_append]; rfl) forall_nil⟩⟩
        | cons r ps =>
          cases Q with
          | nil =>
            have r0 : (0 : Int) ≤ 0 := by omega
            have hml : (acc.map chgF).length = acc.length := List.length_map _
            have hsz := sized_chgF acc
            have hrm := room1 (show acc.length + 1 ≤ 1000000 by have := Nat.zero_le; simp only [List.length_cons, List.length_nil] at hl; omega) (show 192 ≤ 1000 by omega)
            have hl0 : (((ps.length + 1 : Nat) : Int) == 0) = false := by simp; omega
            have hg0 : (0 : Int) < ((ps.length + 1 : Nat) : Int) := by omega
            have hs1 : (1 : Int) ≤ ((ps.length + 1 : Nat) : Int) := by omega
            have hsr := sized_row ps
            have kl0 : True := trivial
            have kg0 : True := trivial
            have hO1 := Owns_fr r.l (ha.s r (hP r (by simp))).1 (ha.s r (hP r (by simp))).2
            simp only [go_sem, List.map_nil, List.length_nil, List.map_cons, List.length_cons, List.length_map, row, hl0, hg0, kl0, kg0, r0]
            refine vDrawQ (by kernel_rfl) (by kernel_rfl) ?_
            simp only [go_sem, List.map_nil, List.length_nil, List.map_cons, List.length_cons, List.length_map, row, hl0, hg0, kl0, kg0, r0]
            refine vDrawQ (by kernel_rfl) (by kernel_rfl) ?_
            simp only [go_sem, List.map_nil, List.length_nil, List.map_cons, List.length_cons, List.length_map, row, hl0, hg0, kl0, kg0, r0]
            refine vCall_of (hO1) ?_ ?_ ?_; (focus simp only [go_sem, ents]); (focus simp only [go_sem, ents])
            rcases hid with rfl | rfl | rfl | rfl
            all_goals
              simp only [go_sem, List.map_nil, List.length_nil, List.map_cons, List.length_cons, List.length_map, row, hl0, hg0, kl0, kg0, r0, ents, hml, hsz, hrm, sized_str, atoms_str, Int.le_refl, cut1_row, hs1, hsr]
              exact ⟨⟨ps, [], acc ++ [wentC r], 91, fun x hx => hP x (by simp [hx]), hQ, by simp only [List.length_append, List.length_cons, List.length_nil] at hl ⊢; omega, by rw [← h, diffR, List.append_assoc]; rfl, .inr (.inl rfl)⟩, by show ps.length + _ < (r :: ps).length + _; simp only [List.length_cons]; omega, ⟨rfl, forall_cons (by show PV.sl _ _ = PV.sl _ _; rw [List.map_append]; rfl) (forall_cons rfl (forall_cons rfl forall_nil)), forall_nil, forall_cons (by show some (Row.live _ 13 _) = some (Row.live _ 13 _); rw [List.length_append]; rfl) forall_nil⟩⟩
          | cons q qs =>
            have r0 : (0 : Int) ≤ 0 := by omega
            have hml : (acc.map chgF).length = acc.length := List.length_map _
            have hsz := sized_chgF acc
            have hrm := room1 (show acc.length + 1 ≤ 1000000 by have := Nat.zero_le; simp only [List.length_cons, List.length_nil] at hl; omega) (show 192 ≤ 1000 by omega)
            have hl0 : (((ps.length + 1 : Nat) : Int) == 0) = false := by simp; omega
            have hg0 : (0 : Int) < ((ps.length + 1 : Nat) : Int) := by omega
            have hs1 : (1 : Int) ≤ ((ps.length + 1 : Nat) : Int) := by omega
            have hsr := sized_row ps
            have kl0 : (((qs.length + 1 : Nat) : Int) == 0) = false := by simp; omega
            have kg0 : (0 : Int) < ((qs.length + 1 : Nat) : Int) := by omega
            have ks1 : (1 : Int) ≤ ((qs.length + 1 : Nat) : Int) := by omega
            have ksr := sized_row qs
            have hO1 := Owns_fr r.l (ha.s r (hP r (by simp))).1 (ha.s r (hP r (by simp))).2
            have hO2 := Owns_fr q.l (hb.s q (hQ q (by simp))).1 (hb.s q (hQ q (by simp))).2
            cases c1 : bytesLt r.item q.item
            · cases c2 : bytesLt q.item r.item
              · have hO3 := others_pureF q.item r.l q.l (ha.s r (hP r (by simp))).1 (by rw [a3 r (hP r (by simp)), b3 q (hQ q (by simp))]; exact Nat.le_refl _) (ha.s r (hP r (by simp))).2 (hb.s q (hQ q (by simp))).2
                have hol := othersL_len q.item r.l q.l
                have ha3 := a3 r (hP r (by simp))
                rw [diffR, if_neg (by rw [c1]; simp), if_neg (by rw [c2]; simp)] at h
                have hos := sized_chgF (othersL q.item r.l q.l)
                have hoa := atoms_chgF (othersL q.item r.l q.l)
                have hom : ((othersL q.item r.l q.l).map chgF).length = (othersL q.item r.l q.l).length := List.length_map _
                have hro := room1 (show acc.length + (othersL q.item r.l q.l).length ≤ 1000000 by simp only [List.length_cons, List.length_nil] at hl; omega) (show 192 ≤ 1000 by omega)
                simp only [go_sem, List.map_nil, List.length_nil, List.map_cons, List.length_cons, List.length_map, row, hl0, hg0, kl0, kg0, r0, c1, c2]
                refine vDrawQ (by kernel_rfl) (by kernel_rfl) ?_
                simp only [go_sem, List.map_nil, List.length_nil, List.map_cons, List.length_cons, List.length_map, row, hl0, hg0, kl0, kg0, r0, c1, c2]
                refine vDrawQ (by kernel_rfl) (by kernel_rfl) ?_
                simp only [go_sem, List.map_nil, List.length_nil, List.map_cons, List.length_cons, List.length_map, row, hl0, hg0, kl0, kg0, r0, c1, c2]
                refine vDrawQ (by kernel_rfl) (by kernel_rfl) ?_
                simp only [go_sem, List.map_nil, List.length_nil, List.map_cons, List.length_cons, List.length_map, row, hl0, hg0, kl0, kg0, r0, c1, c2]
                refine vCall_of (hO3) ?_ ?_ ?_; (focus simp only [go_sem, ents]); (focus simp only [go_sem, ents])
                rcases hid with rfl | rfl | rfl | rfl
                all_goals
                  simp only [go_sem, List.map_nil, List.length_nil, List.map_cons, List.length_cons, List.length_map, row, hl0, hg0, kl0, kg0, r0, c1, c2, chgsF, hml, hsz, hos, hoa, hom, hro, sized_str, atoms_str]
                  refine vDrawQ (by kernel_rfl) (by kernel_rfl) ?_
                  simp only [go_sem, List.map_nil, List.length_nil, List.map_cons, List.length_cons, List.length_map, row, hl0, hg0, kl0, kg0, r0, c1, c2, Int.le_refl, cut1_row, hs1, hsr, ks1, ksr]
                  exact ⟨⟨ps, qs, acc ++ othersL q.item r.l q.l, 44, fun x hx => hP x (by simp [hx]), fun x hx => hQ x (by simp [hx]), by simp only [List.length_append, List.length_cons, List.length_nil] at hl ⊢; omega, by rw [← h, List.append_assoc], .inr (.inr (.inr rfl))⟩, by show ps.length + qs.length < (r :: ps).length + (q :: qs).length; simp only [List.length_cons]; omega, ⟨rfl, forall_cons (by show PV.sl _ _ = PV.sl _ _; rw [List.map_append]) (forall_cons rfl (forall_cons rfl forall_nil)), forall_nil, forall_cons (by show some (Row.live _ 13 _) = some (Row.live _ 13 _); rw [List.length_append]) forall_nil⟩⟩
              · rw [diffR, if_neg (by rw [c1]; simp), if_pos c2] at h
                simp only [go_sem, List.map_nil, List.length_nil, List.map_cons, List.length_cons, List.length_map, row, hl0, hg0, kl0, kg0, r0, c1, c2]
                refine vDrawQ (by kernel_rfl) (by kernel_rfl) ?_
                simp only [go_sem, List.map_nil, List.length_nil, List.map_cons, List.length_cons, List.length_map, row, hl0, hg0, kl0, kg0, r0, c1, c2]
                refine vDrawQ (by kernel_rfl) (by kernel_rfl) ?_
                simp only [go_sem, List.map_nil, List.length_nil, List.map_cons, List.length_cons, List.length_map, row, hl0, hg0, kl0, kg0, r0, c1, c2]
                refine vDrawQ (by kernel_rfl) (by kernel_rfl) ?_
                simp only [go_sem, List.map_nil, List.length_nil, List.map_cons, List.length_cons, List.length_map, row, hl0, hg0, kl0, kg0, r0, c1, c2]
                refine vCall_of (hO2) ?_ ?_ ?_; (focus simp only [go_sem, ents]); (focus simp only [go_sem, ents])
                rcases hid with rfl | rfl | rfl | rfl
                all_goals
                  simp only [go_sem, List.map_nil, List.length_nil, List.map_cons, List.length_cons, List.length_map, row, hl0, hg0, kl0, kg0, r0, c1, c2, ents, hml, hsz, hrm, sized_str, atoms_str, Int.le_refl, cut1_row, hs1, hsr, ks1, ksr]
                  exact ⟨⟨r :: ps, qs, acc ++ [cameC q], 121, hP, fun x hx => hQ x (by simp [hx]), by simp only [List.length_append, List.length_cons, List.length_nil] at hl ⊢; omega, by rw [← h, List.append_assoc]; rfl, .inr (.inr (.inl rfl))⟩, by show _ + qs.length < _ + (q :: qs).length; simp only [List.length_cons]; omega, ⟨rfl, forall_cons (by show PV.sl _ _ = PV.sl _ _; rw [List.map_append]; rfl) (forall_cons rfl (forall_cons rfl forall_nil)), forall_nil, forall_cons (by show some (Row.live _ 13 _) = some (Row.live _ 13 _); rw [List.length_append]; rfl) forall_nil⟩⟩
            · rw [diffR, if_pos c1] at h
              simp only [go_sem, List.map_nil, List.length_nil, List.map_cons, List.length_cons, List.length_map, row, hl0, hg0, kl0, kg0, r0, c1]
              refine vDrawQ (by kernel_rfl) (by kernel_rfl) ?_
              simp only [go_sem, List.map_nil, List.length_nil, List.map_cons, List.length_cons, List.length_map, row, hl0, hg0, kl0, kg0, r0, c1]
              refine vDrawQ (by kernel_rfl) (by kernel_rfl) ?_
              simp only [go_sem, List.map_nil, List.length_nil, List.map_cons, List.length_cons, List.length_map, row, hl0, hg0, kl0, kg0, r0, c1]
              refine vCall_of (hO1) ?_ ?_ ?_; (focus simp only [go_sem, ents]); (focus simp only [go_sem, ents])
              rcases hid with rfl | rfl | rfl | rfl
              all_goals
                simp only [go_sem, List.map_nil, List.length_nil, List.map_cons, List.length_cons, List.length_map, row, hl0, hg0, kl0, kg0, r0, c1, ents, hml, hsz, hrm, sized_str, atoms_str, Int.le_refl, cut1_row, hs1, hsr, ks1, ksr]
                exact ⟨⟨ps, q :: qs, acc ++ [wentC r], 91, fun x hx => hP x (by simp [hx]), hQ, by simp only [List.length_append, List.length_cons, List.length_nil] at hl ⊢; omega, by rw [← h, List.append_assoc]; rfl, .inr (.inl rfl)⟩, by show ps.length + _ < (r :: ps).length + _; simp only [List.length_cons]; omega, ⟨rfl, forall_cons (by show PV.sl _ _ = PV.sl _ _; rw [List.map_append]; rfl) (forall_cons rfl (forall_cons rfl forall_nil)), forall_nil, forall_cons (by show some (Row.live _ 13 _) = some (Row.live _ 13 _); rw [List.length_append]; rfl) forall_nil⟩⟩
      · simp only [go_sem]
        refine vCall_of (hRa) ?_ ?_ ?_; (focus simp only [go_sem, flds, doc]); (focus simp only [go_sem, flds, doc])
        simp only [go_sem]
        refine vCall_of (hRb) ?_ ?_ ?_; (focus simp only [go_sem, flds, doc]); (focus simp only [go_sem, flds, doc])
        simp only [go_sem]
        refine vCall_rn 25 hO (by simp [PV.ids, ents]) rfl ?_ ?_
        · simp only [go_sem, ents]
        · simp only [go_sem]
          refine vDrawQ (by kernel_rfl) (by kernel_rfl) ?_
          simp only [go_sem]
          refine awp_label_seq (cut ⟨a.rows, b.rows, othersL [] a.head b.head, 25, fun _ h => h, fun _ h => h, ?_, rfl, .inl rfl⟩ _ ⟨rfl, forall_cons rfl (forall_cons rfl (forall_cons rfl forall_nil)), forall_nil, forall_cons rfl forall_nil⟩)
          have := othersL_len [] a.head b.head
          omega
end Go.Proofs.Ytmnibpgmcgdfpaa
