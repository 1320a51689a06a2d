/- Contracts of functions and laws of this seat, each for every input that it names: lemmas of the proof. -/
import Derived.Test.YtmnibpgmcgdfpaaPlL
import Derived.Test.YtmnibpgmcgdfpaaXAa
import Derived.Test.YtmnibpgmcgdfpaaXAc
import Derived.Test.YtmnibpgmcgdfpaaXAn
import Derived.Test.YtmnibpgmcgdfpaaXAu
import Derived.Test.YtmnibpgmcgdfpaaXBi
import Derived.Test.YtmnibpgmcgdfpaaXBq
import Derived.Test.YtmnibpgmcgdfpaaXBu
import Derived.Test.YtmnibpgmcgdfpaaXCd
import Derived.Test.YtmnibpgmcgdfpaaXDf
import Derived.Test.YtmnibpgmcgdfpaaXDg
import Derived.Test.YtmnibpgmcgdfpaaXDj
set_option linter.unusedSimpArgs false
set_option linter.unusedVariables false
set_option linter.unusedSimpArgs false
set_option linter.unusedVariables false
namespace Go.Proofs.Ytmnibpgmcgdfpaa
open Go.PL Go.RowKit
/-! doc.Set -/
def nmK (j : Nat) : Nat := if j = 500 then 2001 else 2000
section
variable {P : Program}
theorem vCall_own {M : KH} {g : FuncId} {args args0 : List PV} {K : KR} {n m : Nat} {es es' hs : List PV} {r : PV} (h1 : Eff P g args0 noV r (ownM n m es hs)) (ha : ∀ p ∈ args0, p.ids = []) (he : PV.giveL M.m args = args0) (hd : M.m.q 2000 = none) (hd2 : M.m.q 2001 = none) (hes : es.map (PV.ren nmK id) = es') (hhs : ∀ p ∈ hs, p.ids = [])
    (h2 : K.k (r.ren nmK id) { M.m with q := upd (upd M.m.q 2001 (some (.vec m 5 27))) 2000 (some (.vec n 2 53)), v := upd (upd M.m.v 2001 (some hs)) 2000 (some es') }) : @vCall P true M (some (g, args)) K := by
  have f0 : nmK 26 = 2000 := rfl
  have f1 : nmK 500 = 2001 := rfl
  refine vCall_eff nmK id h1 ⟨by simp, by simp, by simp, by simp, fun y hy => ?_, by simp, fun y hy z hz e => ?_⟩ (by rw [map_ren ha]; exact he) ?_
  · simp only [List.mem_cons, List.not_mem_nil, or_false] at hy
    rcases hy with rfl | rfl
    · exact .inr hd
    · exact .inr hd2
  · simp only [List.mem_cons, List.not_mem_nil, or_false] at hy hz
    rcases hy with rfl | rfl <;> rcases hz with rfl | rfl <;> first | rfl | exact absurd (show (2000 : Nat) = 2001 from e) (by decide) | exact absurd (show (2001 : Nat) = 2000 from e) (by decide)
  · have hl : layM (ownM n m es hs) nmK id M.m = { M.m with q := upd (upd M.m.q 2001 (some (.vec m 5 27))) 2000 (some (.vec n 2 53)), v := upd (upd M.m.v 2001 (some hs)) 2000 (some es') } := by
      unfold layM
      have v0 : (ownM n m es hs).hp.v 26 = some es := by simp [MemL.hp, upds_cons, upds_nil, upd]
      have v1 : (ownM n m es hs).hp.v 500 = some hs := by simp [MemL.hp, upds_cons, upds_nil, upd]
      simp only [List.map_nil, upds_nil, List.map_cons, upds_cons, v0, v1, f0, f1, Option.map_some, hes, map_ren hhs]
    rw [hl]
    exact h2
end
def rowL (r : Rw) : PV := .agg [.str r.item, .vsl 2001 r.l.length 5]
def rowsL (rws : List Rw) (k : Nat) : List PV := (rws.map row).set k (rowL (rws.getD k default))
theorem rowsK_ren (rws : List Rw) (k : Nat) : (rowsK rws k).map (PV.ren nmK id) = rowsL rws k := by
  unfold rowsK rowsL
  rw [List.map_set, map_ren fun p hp => by obtain ⟨r, _, rfl⟩ := List.mem_map.1 hp; exact row_ids r]
  congr 1
theorem rowsL_len (rws : List Rw) (k : Nat) : (rowsL rws k).length = rws.length := by simp [rowsL]
theorem rowsL_at {rws : List Rw} {k : Nat} (h : k < rws.length) : (rowsL rws k).getD k .any = rowL (rws.getD k default) := by
  unfold rowsL
  rw [List.getD_eq_getElem?_getD, List.getElem?_set, if_pos rfl, if_pos (by simpa using h)]; rfl
theorem rowsL_ne {rws : List Rw} {k i : Nat} (hi : i < rws.length) (h : i ≠ k) : (rowsL rws k).getD i .any = row (rws.getD i default) := by
  unfold rowsL
  rw [List.getD_eq_getElem?_getD, List.getElem?_set, if_neg (Ne.symm h), ← List.getD_eq_getElem?_getD, getD_row' hi]
set_option maxRecDepth 20000 in
set_option maxHeartbeats 16000000 in
theorem DSet_pure (l : List Fd) (d : Dc) (it : Str) (e : En) (hl : l.length ≤ 100000) (hl' : ∀ f ∈ l, f.cases'.length ≤ 1000000) (h1 : d.head.length ≤ 100000) (h2 : d.rows.length ≤ 100000) (h3 : ∀ e ∈ d.head, e.l.length ≤ 1000000) (h4 : ∀ r ∈ d.rows, r.l.length ≤ 100000 ∧ ∀ e ∈ r.l, e.l.length ≤ 1000000) (he : e.l.length ≤ 1000000) :
    PL.Pure Try.prog 31 [flds l, doc d, .str it, ent e] (.tup [doc (setQ l d it e).1, .int .i64 (setQ l d it e).2]) := by
  have hf : Fine d := ⟨by rw [maxLen_eq]; omega, by rw [maxLen_eq]; omega, fun e he => by have := h3 e he; rw [maxLen_eq]; omega, fun r hr => ⟨by have := (h4 r hr).1; rw [maxLen_eq]; omega, fun e he => by have := (h4 r hr).2 e he; rw [maxLen_eq]; omega⟩⟩
  have hR := DRight_pure l d (by rw [maxLen_eq]; omega) hl' hf
  have hS := seek_pure d it e.at' hf
  have hF := SFind_pure l e.at' hl hl'
  have hO := ownEntry_pure e he
  have hce : ∀ l : List En, ∀ p ∈ l.map ent, p.ids = [] := fun l => ids_mapV ent_ids' l
  have hcl : ∀ l : List Rw, ∀ p ∈ l.map row, p.ids = [] := fun l => ids_mapV row_ids l
  have hdc : ∀ p ∈ [doc d], p.ids = [] := by simp [doc, ents, PV.ids, PV.idsL]
  have hdef : doc default = .agg [.sl .no [], .sl .no []] := rfl
  cases hr : rightD l d
  · rw [hr] at hR
    have hq : setQ l d it e = (default, 5) := by simp [setQ, hr]
    rw [hq]
    refine pov2 Try.func31 rfl Try.ntmps31 Try.results31 (docI_dids _ _) ?_
    simp only [go_sem, flds, doc, ent]
    refine vc2 (hR) ?_
    simp only [go_sem]
    rfl
  · rw [hr] at hR
    rcases seek_cases (it := it) (r := e.at') hr with hs | ⟨hi, k, j, hk, s1, s2, hj, s3⟩ | ⟨hi, i, k, j, hii, s0, s0', hk, s1, s2, hj, s3⟩
    · have hq : setQ l d it e = (default, (seekM d it e.at').2.2) := by
        unfold setQ
        rw [if_neg (by rw [hr]; simp), if_pos hs]
      have hs' : ((seekM d it e.at').2.2 != 0) = true := by simpa using hs
      rw [hq]
      unfold int3 at hS
      generalize seekM d it e.at' = x at *
      refine pov2 Try.func31 rfl Try.ntmps31 Try.results31 (docI_dids _ _) ?_
      simp only [go_sem, flds, doc, ent]
      refine vc2 (hR) ?_
      simp only [go_sem]
      refine vc1 (hS) ?_
      simp only [go_sem, hs']
      rfl
    all_goals
      have hjF : findF l e.at' = (l.getD j default, 0) := by
        unfold findF
        rw [s3, if_neg (by omega), Int.toNat_natCast]
      have hfit := DFits_pure (l.getD j default) e (by have := hl' _ (getD_mem' (d := default) hj); rw [maxLen_eq]; omega) (by rw [maxLen_eq]; omega)
      rw [hjF] at hF
      rw [s2] at hS
      unfold int3 at hS
      unfold fldc at hF
      cases hfe : fitsE (l.getD j default) e
    · rw [hfe] at hfit
      have hq : setQ l d it e = (default, 11) := by
        unfold setQ
        rw [if_neg (by rw [hr]; simp), if_neg (by rw [s2]; simp), hjF, if_pos hfe]
      rw [hq]
      generalize l.getD j default = f at *
      refine pov2 Try.func31 rfl Try.ntmps31 Try.results31 (docI_dids _ _) ?_
      simp only [go_sem, flds, doc, ent]
      refine vc2 (hR) ?_
      simp only [go_sem]
      refine vc1 (hS) ?_
      simp only [go_sem]
      refine vc2 (hF) ?_
      simp only [go_sem, fld]
      refine vc2 (hfit) ?_
      simp only [go_sem]
      rfl
    · rw [hfe] at hfit
      have hq : setQ l d it e = (⟨d.head.set k e, d.rows⟩, 0) := by
        unfold setQ
        rw [if_neg (by rw [hr]; simp), if_neg (by rw [s2]; simp), hjF, if_neg (by rw [hfe]; simp)]
        unfold setAt
        rw [s2, if_pos (by simp)]
        rfl
      have hW := OwnH_eff d h1 h2 h3 h4
      have k0 : (0 : Int) ≤ (k : Int) := by omega
      have kz : (k : Int) < (d.head.length : Int) := by omega
      have hset : (d.head.map ent).set k (ent e) = (d.head.set k e).map ent := set_mapV
      have hrn : PV.ren nmK id (.agg [.vsl 500 d.head.length 5, .vsl 26 d.rows.length 2]) = .agg [.vsl 2001 d.head.length 5, .vsl 2000 d.rows.length 2] := by simp [PV.ren, PV.renL, nmK]
      rw [hq]
      generalize l.getD j default = f at *
      refine PL.Pure.of_p [] Try.func31 (by decide) rfl Try.ntmps31 Try.results31 (by simp) (docI_dids _ _) ?_
      simp only [go_sem, flds, doc, ent]
      refine vc2 (hR) ?_
      simp only [go_sem]
      refine vc1 (hS) ?_
      simp only [go_sem]
      refine vc2 (hF) ?_
      simp only [go_sem, fld]
      refine vc2 (hfit) ?_
      simp only [go_sem]
      refine vCall_own hW hdc (by simp only [go_sem, doc]) rfl rfl (map_ren (hcl _)) (hce _) ?_
      rw [hrn]
      simp only [go_sem]
      refine vSplit 5 (by kernel_rfl) (by kernel_rfl) fun l1 hl1 => ?_
      simp only [List.take] at hl1
      subst hl1
      simp only [go_sem]
      refine vc1 (hO) ?_
      simp only [go_sem, ent]
      refine vTail 5 (by kernel_rfl) fun l2 hl2 => ?_
      simp only [List.drop] at hl2
      subst hl2
      simp only [ent] at hset
      simp only [go_sem, k0, kz, getD_ent' hk, ent, hset]
      exact ⟨_, rfl, Pub.tup2 (Pub.agg2w (Pub.vec0 (by simp) rfl (by simp) (hce _)) (Pub.vec0 (by simp) rfl (by simp) (hcl _))) (.clean rfl)⟩
    · rw [hfe] at hfit
      have hq : setQ l d it e = (default, 11) := by
        unfold setQ
        rw [if_neg (by rw [hr]; simp), if_neg (by rw [s2]; simp), hjF, if_pos hfe]
      rw [hq]
      generalize l.getD j default = f at *
      refine pov2 Try.func31 rfl Try.ntmps31 Try.results31 (docI_dids _ _) ?_
      simp only [go_sem, flds, doc, ent]
      refine vc2 (hR) ?_
      simp only [go_sem]
      refine vc1 (hS) ?_
      simp only [go_sem]
      refine vc2 (hF) ?_
      simp only [go_sem, fld]
      refine vc2 (hfit) ?_
      simp only [go_sem]
      rfl
    · rw [hfe] at hfit
      have hq : setQ l d it e = (⟨d.head, d.rows.set i ⟨(d.rows.getD i default).item, (d.rows.getD i default).l.set k e⟩⟩, 0) := by
        unfold setQ
        rw [if_neg (by rw [hr]; simp), if_neg (by rw [s2]; simp), hjF, if_neg (by rw [hfe]; simp)]
        unfold setAt
        rw [s2, if_neg (by simp)]
        simp only [Int.toNat_natCast]
      have hW := OwnK_eff d i hii h1 h2 h3 h4
      have hat := rowsL_at hii
      generalize hrw : d.rows.getD i default = rw at *
      have k0 : (0 : Int) ≤ (k : Int) := by omega
      have kz : (k : Int) < (rw.l.length : Int) := by omega
      have i0 : (0 : Int) ≤ (i : Int) := by omega
      have i1 : ¬ (i : Int) < 0 := by omega
      have iz : (i : Int) < (d.rows.length : Int) := by omega
      have hset : (rw.l.map ent).set k (ent e) = (rw.l.set k e).map ent := set_mapV
      have hrn : PV.ren nmK id (.agg [ents d.head, .vsl 26 d.rows.length 2]) = .agg [.sl .no (d.head.map ent), .vsl 2000 d.rows.length 2] := by simp [PV.ren, PV.renL, nmK, ents]
      rw [hq]
      generalize l.getD j default = f at *
      refine PL.Pure.of_p [] Try.func31 (by decide) rfl Try.ntmps31 Try.results31 (by simp) (docI_dids _ _) ?_
      simp only [go_sem, flds, doc, ent]
      refine vc2 (hR) ?_
      simp only [go_sem]
      refine vc1 (hS) ?_
      simp only [go_sem]
      refine vc2 (hF) ?_
      simp only [go_sem, fld]
      refine vc2 (hfit) ?_
      simp only [go_sem]
      refine vCall_own hW hdc (by simp only [go_sem, doc]) rfl rfl (rowsK_ren _ _) (hce _) ?_
      rw [hrn]
      simp only [go_sem, i1]
      refine vSplit 9 (by kernel_rfl) (by kernel_rfl) fun l1 hl1 => ?_
      simp only [List.take] at hl1
      subst hl1
      simp only [go_sem, i0, iz, rowsL_len, hat, rowL]
      refine vc1 (hO) ?_
      simp only [go_sem, ent]
      refine vTail 9 (by kernel_rfl) fun l2 hl2 => ?_
      simp only [List.drop] at hl2
      subst hl2
      simp only [ent] at hset
      simp only [go_sem, k0, kz, getD_ent' hk, ent, hset]
      refine ⟨_, rfl, Pub.tup2 (Pub.agg2w (.clean rfl) (.vec 2000 d.rows.length 2 (rowsL d.rows i) ((d.rows.set i ⟨rw.item, rw.l.set k e⟩).map row) (by simp) rfl (rowsL_len _ _) (by rw [List.length_map, List.length_set, rowsL_len]) (hcl _) fun x hx => ?_)) (.clean rfl)⟩
      rw [rowsL_len] at hx
      rw [getD_row' (by rw [List.length_set]; exact hx)]
      by_cases hxi : x = i
      · subst hxi
        rw [hat, show (d.rows.set x ⟨rw.item, rw.l.set k e⟩).getD x default = ⟨rw.item, rw.l.set k e⟩ by rw [List.getD_eq_getElem?_getD, List.getElem?_set, if_pos rfl, if_pos hx]; rfl]
        exact Pub.agg2w (.clean rfl) (Pub.vec0 (by simp) rfl (by simp) (hce _))
      · rw [rowsL_ne hx hxi, show (d.rows.set i ⟨rw.item, rw.l.set k e⟩).getD x default = d.rows.getD x default by rw [List.getD_eq_getElem?_getD, List.getElem?_set, if_neg (Ne.symm hxi), ← List.getD_eq_getElem?_getD]]
        exact .clean (row_ids _)
end Go.Proofs.Ytmnibpgmcgdfpaa

set_option linter.unusedSimpArgs false
set_option linter.unusedVariables false
set_option linter.unusedSimpArgs false
set_option linter.unusedVariables false
namespace Go.Proofs.Ytmnibpgmcgdfpaa
open Go.PL
/-! what is set is found: in plain Lean -/
theorem idx_set {α : Type} [Inhabited α] (p : α → Bool) (x : α) : ∀ (l : List α) (k : Nat), k < l.length → p x = p (l.getD k default) → idx p (l.set k x) = idx p l := by
  have key : ∀ (l : List α) (k : Nat), k < l.length → p x = p (l.getD k default) → (l.set k x).findIdx? p = l.findIdx? p := by
    intro l
    induction l with
    | nil => intro k hk; simp at hk
    | cons a t ih =>
      intro k hk h
      cases k with
      | zero =>
        simp only [List.set_cons_zero, List.findIdx?_cons]
        have h : p x = p a := h
        rw [h]
      | succ k =>
        simp only [List.set_cons_succ, List.findIdx?_cons]
        rw [ih k (by simpa using hk) (by simpa using h)]
  intro l k hk h
  unfold idx
  rw [key l k hk h]
theorem getD_set_self {α : Type} {d : α} {l : List α} {k : Nat} {x : α} (h : k < l.length) : (l.set k x).getD k d = x := by
  rw [List.getD_eq_getElem?_getD, List.getElem?_set, if_pos rfl, if_pos h]; rfl
theorem getD_set_other {α : Type} {d : α} {l : List α} {k i : Nat} {x : α} (h : i ≠ k) : (l.set k x).getD i d = l.getD i d := by
  rw [List.getD_eq_getElem?_getD, List.getElem?_set, if_neg (Ne.symm h), ← List.getD_eq_getElem?_getD]
theorem right_field {l : List Fd} (h : rightL l = true) {f g : Fd} (hf : f ∈ l) (hg : g ∈ l) (e : f.at' = g.at') : f = g := rise_at (right_iff.1 h).2.1 hf hg e
theorem rightD_L {l : List Fd} {d : Dc} (h : rightD l d = true) : rightL l = true ∧ d.rows.length ≤ 400 := by
  simp only [rightD, headOk, Bool.and_eq_true, Bool.not_eq_true', decide_eq_false_iff_not] at h
  exact ⟨h.1.1, by omega⟩
/-- the entry's field in the scope is the one that is found -/
theorem field_is {l : List Fd} {sc : Int} {k j : Nat} {r : Rf} (hl : rightL l = true) (hk : k < (scopeM l sc).length) (h : ((scopeM l sc).getD k default).at' = r) (hj : j < l.length) (hi : idx (atF r) l = (j : Int)) : (scopeM l sc).getD k default = l.getD j default := by
  rcases idx_spec (atF r) l with ⟨h1, _⟩ | ⟨i, hi', h1, h2, _⟩
  · omega
  · obtain rfl : i = j := by omega
    have h2 : (l.getD i default).at' = r := by simpa [atF] using h2
    exact right_field hl (List.mem_filter.1 (getD_mem' (d := default) hk)).1 (getD_mem' hi') (h.trans h2.symm)
theorem entries_set {L : List Fd} {es : List En} {k : Nat} {e : En} (h : entriesB L es = true) (hk : k < es.length) (hf : fitsE (L.getD k default) e = true) : entriesB L (es.set k e) = true := by
  simp only [entriesB, Bool.and_eq_true, decide_eq_true_eq, List.all_eq_true, List.mem_range, List.length_set] at h ⊢
  refine ⟨h.1, fun i hi => ?_⟩
  by_cases e1 : i = k
  · subst e1; rw [getD_set_self hk]; exact hf
  · rw [getD_set_other e1]; exact h.2 i hi
/-- what makes a document right -/
theorem rightD_iff {l : List Fd} {d : Dc} : rightD l d = true ↔ rightL l = true ∧ d.rows.length ≤ 400 ∧ entriesB (scopeM l 0) d.head = true ∧ RiseR d.rows ∧ ∀ r ∈ d.rows, nameB r.item = true ∧ entriesB (scopeM l 1) r.l = true := by
  constructor
  · intro h
    obtain ⟨h1, h2⟩ := rightD_L h
    refine ⟨h1, h2, rD_head h, rise_of_right h, fun r hr => ⟨?_, rD_rows h r hr⟩⟩
    simp only [rightD, Bool.and_eq_true, List.all_eq_true, List.mem_range] at h
    obtain ⟨i, hi, rfl⟩ := List.getElem_of_mem hr
    have h1 := h.2 i hi
    rw [rowOk, getD_lt hi, Bool.and_eq_true, Bool.and_eq_true] at h1
    exact h1.1.1
  · rintro ⟨h1, h2, h3, h4, h5⟩
    simp only [rightD, headOk, Bool.and_eq_true, Bool.not_eq_true', decide_eq_false_iff_not, List.all_eq_true, List.mem_range]
    refine ⟨⟨h1, by omega, h3⟩, fun i hi => ?_⟩
    have hm := h5 _ (getD_mem' (d := default) hi)
    simp only [rowOk, Bool.and_eq_true, Bool.or_eq_true, decide_eq_true_eq]
    refine ⟨⟨hm.1, ?_⟩, hm.2⟩
    by_cases h0 : i = 0
    · exact .inl h0
    · right
      have := List.pairwise_iff_getElem.1 h4 (i - 1) i (by omega) hi (by omega)
      rwa [← getD_lt (d := default), ← getD_lt (d := default)] at this
/-- what is set is found -/
theorem set_found {l : List Fd} {d : Dc} {it : Str} {e : En} (hr : rightD l d = true) (hs : (seekM d it e.at').2.2 = 0) (hf : fitsE (findF l e.at').1 e = true) :
    findM (setAt d (seekM d it e.at') e) it e.at' = (e, 0) ∧ rightD l (setAt d (seekM d it e.at') e) = true ∧ ∀ look, look ≠ e.at' → findM (setAt d (seekM d it e.at') e) it look = findM d it look := by
  obtain ⟨r1, r2, r3, r4, r5⟩ := rightD_iff.1 hr
  rcases seek_cases (it := it) (r := e.at') hr with h | ⟨hi, k, j, hk, s1, s2, hj, s3⟩ | ⟨hi, i, k, j, hii, s0, s0', hk, s1, s2, hj, s3⟩
  · exact absurd hs h
  · have hx : setAt d (seekM d it e.at') e = ⟨d.head.set k e, d.rows⟩ := by
      unfold setAt; rw [s2, if_pos (by simp)]; rfl
    obtain ⟨g1, g2⟩ := entries_at r3 hk
    have hat : (d.head.getD k default).at' = e.at' := by
      rcases idx_spec (atE e.at') d.head with ⟨h1, _⟩ | ⟨k', hk', h1, h2, _⟩
      · omega
      · obtain rfl : k' = k := by omega
        simpa [atE] using h2
    have hfe : fitsE ((scopeM l 0).getD k default) e = true := by
      rw [field_is r1 g1 (g2.symm.trans hat) hj s3]
      unfold findF at hf
      rw [s3, if_neg (by omega), Int.toNat_natCast] at hf
      exact hf
    rw [hx]
    refine ⟨?_, rightD_iff.2 ⟨r1, r2, entries_set r3 hk hfe, r4, r5⟩, fun look hl => ?_⟩
    · unfold findM
      rw [if_pos hi]
      simp only
      rw [idx_set _ _ _ _ hk (by simp only [atE, hat]), s1, if_neg (by omega), Int.toNat_natCast, getD_set_self hk]
    · unfold findM
      rw [if_pos hi, if_pos hi]
      simp only
      rw [idx_set _ _ _ _ hk (by simp only [atE, hat])]
      rcases idx_spec (atE look) d.head with ⟨h1, _⟩ | ⟨k', hk', h1, h2, _⟩
      · rw [h1]; rfl
      · rw [h1, if_neg (by omega), if_neg (by omega), Int.toNat_natCast]
        have : k' ≠ k := fun e1 => by
          subst e1
          simp only [atE, hat, decide_eq_true_eq] at h2
          exact hl h2.symm
        rw [getD_set_other this]
  · have hx : setAt d (seekM d it e.at') e = ⟨d.head, d.rows.set i ⟨(d.rows.getD i default).item, (d.rows.getD i default).l.set k e⟩⟩ := by
      unfold setAt; rw [s2, if_neg (by simp)]; simp only [Int.toNat_natCast]
    have hrow := r5 _ (getD_mem' (d := default) hii)
    obtain ⟨g1, g2⟩ := entries_at hrow.2 hk
    have hat : ((d.rows.getD i default).l.getD k default).at' = e.at' := by
      rcases idx_spec (atE e.at') (d.rows.getD i default).l with ⟨h1, _⟩ | ⟨k', hk', h1, h2, _⟩
      · omega
      · obtain rfl : k' = k := by omega
        simpa [atE] using h2
    have hfe : fitsE ((scopeM l 1).getD k default) e = true := by
      rw [field_is r1 g1 (g2.symm.trans hat) hj s3]
      unfold findF at hf
      rw [s3, if_neg (by omega), Int.toNat_natCast] at hf
      exact hf
    have hir : ∀ (w : Rw), w.item = (d.rows.getD i default).item → idx (atR it) (d.rows.set i w) = (i : Int) := fun w hw => by
      rw [idx_set _ _ _ _ hii (by simp only [atR, hw]), s0]
    have hRise : ∀ (w : Rw), w.item = (d.rows.getD i default).item → RiseR (d.rows.set i w) := fun w hw => by
      unfold RiseR
      rw [List.pairwise_iff_getElem]
      intro a b ha hb hab
      rw [List.length_set] at ha hb
      have := List.pairwise_iff_getElem.1 r4 a b ha hb hab
      have it' : ∀ x (hx : x < d.rows.length), ((d.rows.set i w).getD x default).item = (d.rows.getD x default).item := fun x hx => by
        by_cases e1 : x = i
        · subst e1; rw [getD_set_self hii, hw]
        · rw [getD_set_other e1]
      rw [← getD_lt (d := default), ← getD_lt (d := default)] at this ⊢
      rw [it' a ha, it' b hb]; exact this
    rw [hx]
    refine ⟨?_, rightD_iff.2 ⟨r1, by simpa using r2, r3, hRise ⟨(d.rows.getD i default).item, (d.rows.getD i default).l.set k e⟩ rfl, fun r hm => ?_⟩, fun look hl => ?_⟩
    · unfold findM
      rw [if_neg hi]
      simp only
      rw [hir ⟨(d.rows.getD i default).item, (d.rows.getD i default).l.set k e⟩ rfl, if_neg (by omega), Int.toNat_natCast, getD_set_self hii]
      simp only
      rw [idx_set _ _ _ _ hk (by simp only [atE, hat]), s1, if_neg (by omega), Int.toNat_natCast, getD_set_self hk]
    · rcases List.mem_or_eq_of_mem_set hm with h | rfl
      · exact r5 r h
      · exact ⟨hrow.1, entries_set hrow.2 hk hfe⟩
    · unfold findM
      rw [if_neg hi, if_neg hi]
      simp only
      simp only [hir ⟨(d.rows.getD i default).item, (d.rows.getD i default).l.set k e⟩ rfl, s0, show ¬ (i : Int) < 0 by omega, if_false, Int.toNat_natCast, getD_set_self hii]
      rw [idx_set _ _ _ _ hk (by simp only [atE, hat])]
      rcases idx_spec (atE look) (d.rows.getD i default).l with ⟨h1, _⟩ | ⟨k', hk', h1, h2, _⟩
      · rw [h1]; rfl
      · rw [h1, if_neg (by omega), if_neg (by omega), Int.toNat_natCast]
        have : k' ≠ k := fun e1 => by
          subst e1
          simp only [atE, hat, decide_eq_true_eq] at h2
          exact hl h2.symm
        rw [getD_set_other this]
theorem value_fit {f : Fd} (hr : rightF f = true) : fitsE f (valueM f) = true := by
  have h := hr
  simp only [rightF, Bool.and_eq_true] at h
  obtain ⟨_, h⟩ := h
  have hat : (valueM f).at' = f.at' := rfl
  have hn : (valueM f).n = 0 := rfl
  by_cases k1 : f.kind = 1
  · have hv : (valueM f).l = [] := by simp [valueM, k1]
    simp [fitsE, hr, hat, k1, fitsN, hn, hv]
  · rw [if_neg k1] at h
    simp only [Bool.and_eq_true] at h
    by_cases k4 : f.kind = 4
    · have hv : (valueM f).l = [] := by simp [valueM, k4]
      simp [fitsE, hr, hat, k1, k4, cntOk, fitsT, hn, hv]
    · have hv : (valueM f).l = [f.df] := by simp [valueM, k1, k4]
      have hd : fitsF f f.df = true := by
        have h := h.2
        by_cases k3 : f.kind = 3
        · rw [if_pos k3] at h
          simp only [tail3, Bool.and_eq_true] at h
          simp only [fitsF, hr, k1, k3, if_true]
          simpa using h.2.2
        · rw [if_neg k3] at h
          simp only [tail2, Bool.and_eq_true, Bool.or_eq_true, decide_eq_true_eq] at h
          simp only [fitsF, hr, k1, k3, if_false, decide_false, Bool.not_false, Bool.and_self, Bool.true_and, decide_eq_true_eq]
          rcases h.2 with h | h
          · exact h.2
          · exact absurd h.1 k4
      simp [fitsE, hr, hat, k1, k4, cntOk, fitsT, hn, hv, hd]
theorem blank_right {l : List Fd} (hl : rightL l = true) (sc : Int) : entriesB (scopeM l sc) (blanksM l sc) = true := by
  have hb : blanksM l sc = (scopeM l sc).map valueM := rfl
  rw [hb]
  simp only [entriesB, Bool.and_eq_true, decide_eq_true_eq, List.all_eq_true, List.mem_range, List.length_map, true_and]
  intro i hi
  have : ((scopeM l sc).map valueM).getD i default = valueM ((scopeM l sc).getD i default) := by
    rw [getD_lt (by simpa using hi), getD_lt hi, List.getElem_map]
  rw [this]
  exact value_fit ((right_iff.1 hl).2.2 _ (List.mem_filter.1 (getD_mem' (d := default) hi)).1)
theorem insR_rise {rs : List Rw} {r : Rw} (h : RiseR rs) (hk : knownR rs r.item = false) : RiseR (insR rs r) := by
  have hj := insAt_le rs r.item
  have hpw := List.pairwise_iff_getElem.1 h
  have hlo : ∀ a ∈ rs.take (insAt rs r.item), bytesLt a.item r.item = true := fun a ha => by
    obtain ⟨i, hi, rfl⟩ := List.getElem_of_mem ha
    rw [List.length_take] at hi
    have := ahead_lt (rs := rs) (it := r.item) (k := i) (by omega)
    rwa [getD_lt (by omega), ← List.getElem_take (j := insAt rs r.item)] at this
  have hhi : ∀ b ∈ rs.drop (insAt rs r.item), bytesLt r.item b.item = true := fun b hb => by
    obtain ⟨i, hi, rfl⟩ := List.getElem_of_mem hb
    rw [List.length_drop] at hi
    have hlt : insAt rs r.item < rs.length := by omega
    have g := at_ge hlt
    have gn := at_ne hk hlt rfl
    have g0 : bytesLt r.item (rs.getD (insAt rs r.item) default).item = true := by
      rcases bl_total r.item (rs.getD (insAt rs r.item) default).item with h | h | h
      · exact h
      · exact absurd h.symm gn
      · rw [g] at h; cases h
    rw [List.getElem_drop]
    by_cases e : i = 0
    · subst e; rw [getD_lt hlt] at g0; simpa using g0
    · have := hpw (insAt rs r.item) (insAt rs r.item + i) hlt (by omega) (by omega)
      rw [getD_lt hlt] at g0
      exact bl_trans g0 this
  unfold RiseR insR
  refine List.pairwise_append.2 ⟨List.Pairwise.sublist (List.take_sublist _ _) h, List.pairwise_cons.2 ⟨hhi, List.Pairwise.sublist (List.drop_sublist _ _) h⟩, fun a ha b hb => ?_⟩
  rcases List.mem_cons.1 hb with rfl | hb
  · exact hlo a ha
  · exact bl_trans (hlo a ha) (hhi b hb)
/-- a new row -/
theorem row_right {l : List Fd} {d : Dc} {it : Str} (h : (rowQ l d it).2 = 0) : rightD l (rowQ l d it).1 = true ∧ (rowQ l d it).1.rows.length = d.rows.length + 1 := by
  unfold rowQ at h ⊢
  split at h
  · simp at h
  · rename_i c1
    split at h
    · simp at h
    · rename_i c2
      split at h
      · simp at h
      · rename_i c3
        rw [if_neg c1, if_neg c2, if_neg c3]
        have c1 : rightD l d = true ∧ nameB it = true := by simpa using c1
        have c2 : knownR d.rows it = false := by simpa using c2
        obtain ⟨r1, r2, r3, r4, r5⟩ := rightD_iff.1 c1.1
        refine ⟨rightD_iff.2 ⟨r1, by simp only [insR_len]; omega, r3, insR_rise r4 c2, fun r hr => ?_⟩, by simp only [insR_len]⟩
        have hr : r ∈ d.rows.take (insAt d.rows it) ++ (⟨it, blanksM l 1⟩ : Rw) :: d.rows.drop (insAt d.rows it) := hr
        rcases List.mem_append.1 hr with h | h
        · exact r5 r (List.mem_of_mem_take h)
        · rcases List.mem_cons.1 h with rfl | h
          · exact ⟨c1.2, blank_right r1 1⟩
          · exact r5 r (List.mem_of_mem_drop h)
end Go.Proofs.Ytmnibpgmcgdfpaa

set_option linter.unusedSimpArgs false
set_option linter.unusedVariables false
set_option linter.unusedSimpArgs false
set_option linter.unusedVariables false
namespace Go.Proofs.Ytmnibpgmcgdfpaa
open Go.PL
theorem heavyEs_len37 {l : List En} (h : heavyEs l = false) : l.length ≤ 40 ∧ ∀ e ∈ l, e.l.length ≤ 410 := by
  simp only [heavyEs, Bool.or_eq_false_iff, decide_eq_false_iff_not, List.any_eq_false] at h
  refine ⟨by omega, fun e he => ?_⟩
  have := h.2 e he
  simp [entH] at this
  omega
end Go.Proofs.Ytmnibpgmcgdfpaa

set_option linter.unusedSimpArgs false
set_option linter.unusedVariables false
set_option linter.unusedSimpArgs false
set_option linter.unusedVariables false
namespace Go.Proofs.Ytmnibpgmcgdfpaa
open Go.PL Go.RowKit
/-- a document's cells -/
def docc (d : Dc) : List PV := [.sl .no (d.head.map ent), .sl .no (d.rows.map row)]
/-! the difference is small -/
structure SmallD (d : Dc) : Prop where
  h : d.head.length ≤ 40
  r : d.rows.length ≤ 410
  e : ∀ e ∈ d.head, e.l.length ≤ 410
  s : ∀ r ∈ d.rows, r.l.length ≤ 40 ∧ ∀ e ∈ r.l, e.l.length ≤ 410
theorem smallD {d : Dc} (h : heavyD d = false) : SmallD d := by
  simp only [heavyD, Bool.or_eq_false_iff, List.any_eq_false, decide_eq_false_iff_not] at h
  obtain ⟨h1, h2⟩ := heavyEs_len37 h.2.1
  refine ⟨h1, by omega, h2, fun r hr => ?_⟩
  have h3 : rowH r = false := by simpa using h.2.2 r hr
  simp only [rowH, Bool.or_eq_false_iff] at h3
  exact heavyEs_len37 h3.2
theorem SmallD.ok {d : Dc} (h : SmallD d) : OkDd d := ⟨by have := h.h; omega, by have := h.r; omega, fun e he => by have := h.e e he; omega, fun r hr => ⟨by have := (h.s r hr).1; omega, fun e he => by have := (h.s r hr).2 e he; omega⟩⟩
end Go.Proofs.Ytmnibpgmcgdfpaa

set_option linter.unusedSimpArgs false
set_option linter.unusedVariables false
set_option linter.unusedSimpArgs false
set_option linter.unusedVariables false
namespace Go.Proofs.Ytmnibpgmcgdfpaa
open Go.PL Go.RowKit
theorem heavyL_small {l : List Fd} (h : heavyL l = false) : l.length ≤ 40 ∧ ∀ f ∈ l, f.cases'.length ≤ 1000000 := by
  simp only [heavyL, Bool.or_eq_false_iff, List.any_eq_false, decide_eq_false_iff_not] at h
  refine ⟨by omega, fun f hf => ?_⟩
  have h1 : heavyF f = false := by simpa using h.2 f hf
  simp only [heavyF, fldTop, Bool.or_eq_false_iff, decide_eq_false_iff_not] at h1
  omega
/-- behind the copies: the documents and their copies -/
structure DdQ (l : List Fd) (a b : Dc) (s : St) : Prop where
  n : s.n = 124
  f0 : s.fr 0 = flds l
  f4 : s.fr 4 = .ptr 4 0
  f5 : s.fr 5 = .ptr 5 0
  f7 : s.fr 7 = .ptr 7 0
  f8 : s.fr 8 = .ptr 8 0
  h4 : s.m.h 4 = some (docc a) ∧ s.m.z 4 = false
  h5 : s.m.h 5 = some (docc b) ∧ s.m.z 5 = false
  h7 : s.m.h 7 = some (docc a) ∧ s.m.z 7 = false
  h8 : s.m.h 8 = some (docc b) ∧ s.m.z 8 = false
structure DdQ2 (cs : List Cg) (φ : Nat → Nat) (s : St) : Prop where
  n : s.n = 124
  f9 : s.fr 9 = PV.frl (cs.map chgF)
  f4 : s.fr 4 = .ptr 4 0 ∧ s.m.ph 4 = some (φ 4)
  f5 : s.fr 5 = .ptr 5 0 ∧ s.m.ph 5 = some (φ 5)
  f7 : s.fr 7 = .ptr 7 0 ∧ s.m.ph 7 = some (φ 7)
  f8 : s.fr 8 = .ptr 8 0 ∧ s.m.ph 8 = some (φ 8)
end Go.Proofs.Ytmnibpgmcgdfpaa

set_option linter.unusedSimpArgs false
set_option linter.unusedVariables false
set_option linter.unusedSimpArgs false
set_option linter.unusedVariables false
namespace Go.Proofs.Ytmnibpgmcgdfpaa
open Go.PL Go.RowKit
/-! the law DocSets -/
theorem okDd_default : OkDd (default : Dc) where
  h := by decide
  r := by decide
  e := fun e he => by cases he
  s := fun r hr => by cases hr
theorem set_ok {l : List Fd} {d : Dc} {it : Str} {e : En} (h : (setQ l d it e).2 = 0) : findM (setQ l d it e).1 it e.at' = (e, 0) ∧ rightD l (setQ l d it e).1 = true ∧ ∀ look, look ≠ e.at' → findM (setQ l d it e).1 it look = findM d it look := by
  unfold setQ at h ⊢
  split at h
  · simp at h
  · rename_i c1
    split at h
    · rename_i c2; exact absurd h c2
    · rename_i c2
      split at h
      · simp at h
      · rename_i c3
        rw [if_neg c1, if_neg c2, if_neg c3]
        exact set_found (by simpa using c1) (by simpa using c2) (by simpa using c3)
theorem ref_ne {a b : Rf} (h : a ≠ b) : (a.sc == b.sc && (a.gr == b.gr && a.nm == b.nm)) = false := by
  cases hb : (a.sc == b.sc && (a.gr == b.gr && a.nm == b.nm)) with
  | false => rfl
  | true =>
    simp only [Bool.and_eq_true, beq_iff_eq] at hb
    obtain ⟨a1, a2, a3⟩ := a
    obtain ⟨b1, b2, b3⟩ := b
    simp only at hb
    obtain ⟨rfl, rfl, rfl⟩ := hb
    exact absurd rfl h
theorem getD_or {α : Type} [Inhabited α] (l : List α) (k : Nat) : l.getD k default = default ∨ l.getD k default ∈ l := by
  by_cases hk : k < l.length
  · exact .inr (getD_mem' hk)
  · left; rw [List.getD_eq_getElem?_getD, List.getElem?_eq_none (by omega)]; rfl
theorem find_len {d : Dc} {it : Str} {r : Rf} (hd : OkDd d) : (findM d it r).1.l.length ≤ 1000000 := by
  have h0 : (default : En).l.length ≤ 1000000 := by decide
  have he : ∀ {l : List En} {k : Nat}, (∀ e ∈ l, e.l.length ≤ 1000000) → (l.getD k default).l.length ≤ 1000000 := fun {l k} h => by
    rcases getD_or l k with e | e
    · rw [e]; exact h0
    · exact h _ e
  unfold findM
  split
  · split
    · exact h0
    · exact he hd.e
  · split
    · exact h0
    · split
      · exact h0
      · refine he ?_
        rcases getD_or d.rows (idx (atR it) d.rows).toNat with e | e
        · rw [e]; intro x hx; cases hx
        · exact (hd.s _ e).2
theorem setQ_small {l : List Fd} {d : Dc} {it : Str} {e : En} (hd : OkDd d) (he : e.l.length ≤ 1000000) : OkDd (setQ l d it e).1 := by
  have h0 : OkDd (default : Dc) := okDd_default
  unfold setQ
  split
  · exact h0
  · split
    · exact h0
    · split
      · exact h0
      · simp only
        unfold setAt
        have hm : ∀ {es : List En} {k : Nat}, (∀ x ∈ es, x.l.length ≤ 1000000) → ∀ x ∈ es.set k e, x.l.length ≤ 1000000 := fun h x hx => by
          rcases List.mem_or_eq_of_mem_set hx with h' | rfl
          · exact h x h'
          · exact he
        split
        · exact ⟨by simp only [List.length_set]; exact hd.h, hd.r, hm hd.e, hd.s⟩
        · refine ⟨hd.h, by simp only [List.length_set]; exact hd.r, hd.e, fun r hr => ?_⟩
          rcases List.mem_or_eq_of_mem_set hr with h' | rfl
          · exact hd.s r h'
          · simp only [List.length_set]
            have : ∀ r : Rw, r = default ∨ r ∈ d.rows → r.l.length ≤ 100000 ∧ ∀ e ∈ r.l, e.l.length ≤ 1000000 := fun r h => by
              rcases h with rfl | h
              · exact ⟨by decide, fun e he => by cases he⟩
              · exact hd.s r h
            have hr' : ∀ k, (d.rows.getD k default) = default ∨ (d.rows.getD k default) ∈ d.rows := fun k => by
              by_cases hk : k < d.rows.length
              · exact .inr (getD_mem' hk)
              · left; rw [List.getD_eq_getElem?_getD, List.getElem?_eq_none (by omega)]; rfl
            exact ⟨(this _ (hr' _)).1, hm (this _ (hr' _)).2⟩
theorem rowQ_small {l : List Fd} {d : Dc} {it : Str} (hd : OkDd d) (hl : l.length ≤ 40) (hdr : d.rows.length ≤ 410) : OkDd (rowQ l d it).1 := by
  have h0 : OkDd (default : Dc) := okDd_default
  unfold rowQ
  split
  · exact h0
  · split
    · exact h0
    · split
      · exact h0
      · refine ⟨hd.h, by simp only [insR_len]; omega, hd.e, fun r hr => ?_⟩
        have hr : r ∈ d.rows.take (insAt d.rows it) ++ (⟨it, blanksM l 1⟩ : Rw) :: d.rows.drop (insAt d.rows it) := hr
        rcases List.mem_append.1 hr with h | h
        · exact hd.s r (List.mem_of_mem_take h)
        · rcases List.mem_cons.1 h with rfl | h
          · refine ⟨?_, fun e he => ?_⟩
            · have : (blanksM l 1).length ≤ l.length := by unfold blanksM; rw [List.length_map]; exact List.length_filter_le _ _
              simp only; omega
            · obtain ⟨f, _, rfl⟩ := List.mem_map.1 he
              simp only [valueM]
              split <;> simp
          · exact hd.s r (List.mem_of_mem_drop h)
set_option maxRecDepth 100000 in
set_option maxHeartbeats 64000000 in
theorem DocSets_pure (l : List Fd) (d : Dc) (it : Str) (e : En) (look : Rf) (hl : l.length ≤ maxLen) (hl' : ∀ f ∈ l, f.cases'.length ≤ maxLen) (hd : Fine d) (he : e.l.length ≤ maxLen) :
    PL.Pure Try.prog 6 [flds l, doc d, .str it, ent e, ref look] (.bool true) := by
  have h1m : (1 : Nat) ≤ maxLen := by rw [maxLen_eq]; omega
  have hfe : Fine ⟨[e], []⟩ := ⟨h1m, Nat.zero_le _, fun x hx => by rw [List.mem_singleton.1 hx]; exact he, fun r hr => by cases hr⟩
  have c1 := RHeavyL_pure l hl hl'
  have c2 := Heavy_pure d hd
  have c3 := Heavy_pure ⟨[e], []⟩ hfe
  cases g1 : heavyL l
  · rw [g1] at c1
    cases g2 : heavyD d
    · rw [g2] at c2
      cases g3 : heavyD ⟨[e], []⟩
      · rw [g3] at c3
        by_cases g4 : (200 : Int) < (it.length : Int)
        · refine pov1 Try.func6 rfl Try.ntmps6 Try.results6 ?_
          simp only [go_sem, flds, doc, ent, ref]
          refine vc1 (Awake_pure) ?_
          simp only [go_sem]
          refine vc2 (c1) ?_
          simp only [go_sem]
          refine vc1 (c2) ?_
          simp only [go_sem]
          refine vc1 (c3) ?_
          simp only [go_sem, g4]
        · obtain ⟨l1, l2⟩ := heavyL_small g1
          have sd := smallD g2
          have od := sd.ok
          have se := smallD g3
          have he' : e.l.length ≤ 1000000 := by have := se.e e (List.mem_singleton.2 rfl); omega
          have oR := rowQ_small (l := l) (it := it) od l1 sd.r
          have oX := setQ_small (l := l) (it := it) od he'
          have p1 := DOwn_pure d od.h od.r od.e od.s
          have p2 := DRow_pure l d it (by omega) l2 od.h od.r od.e od.s
          have p3 := RRow_pure l d it (by omega) l2 od.h od.r hd
          have p4 := DSet_pure l d it e (by omega) l2 od.h od.r od.e od.s he'
          have p5 := RSet_pure l d it e (by omega) l2 od.h od.r (fun r hr => (od.s r hr).1) hd he'
          have fR := row_right (l := l) (d := d) (it := it)
          have fX := set_ok (l := l) (d := d) (it := it) (e := e)
          generalize rowQ l d it = R at *
          generalize setQ l d it e = X at *
          have p6 := RSameD_pure R.1 R.1 oR.fine oR.fine
          have p7 := RSameD_pure X.1 X.1 oX.fine oX.fine
          have p8 := RSameD_pure d d hd hd
          rw [decide_eq_true rfl] at p6 p7 p8
          have p9 := DRight_pure l R.1 hl l2 oR.fine
          have q0 := DRight_pure l X.1 hl l2 oX.fine
          have q1 := Find_pure X.1 it e.at' oX.fine ⟨oX.e, fun r hr => (oX.s r hr).2⟩
          have q2 := Find_pure d it look hd ⟨od.e, fun r hr => (od.s r hr).2⟩
          have q3 := Find_pure X.1 it look oX.fine ⟨oX.e, fun r hr => (oX.s r hr).2⟩
          have e1 : (R.2 != R.2) = false := by simp
          have e2 : (X.2 != X.2) = false := by simp
          refine pov1 Try.func6 rfl Try.ntmps6 Try.results6 ?_
          simp only [go_sem, flds, doc, ent, ref]
          refine vc1 (Awake_pure) ?_
          simp only [go_sem]
          refine vc2 (c1) ?_
          simp only [go_sem]
          refine vc1 (c2) ?_
          simp only [go_sem]
          refine vc1 (c3) ?_
          simp only [go_sem, g4]
          refine vc1 (p1) ?_
          simp only [go_sem, doc]
          refine vc2 (p2) ?_
          simp only [go_sem, doc]
          refine vc2 (p3) ?_
          simp only [go_sem, doc]
          refine vc2 (p4) ?_
          simp only [go_sem, doc]
          refine vc2 (p5) ?_
          simp only [go_sem, doc, e1, e2]
          refine vc1 (p6) ?_
          simp only [go_sem]
          refine vc1 (p7) ?_
          simp only [go_sem]
          refine vc1 (p8) ?_
          simp only [go_sem]
          have hwr : R.2 = 0 → IntKind.i64.wrap ((d.rows.length : Int) + 1) = ((d.rows.length + 1 : Nat) : Int) := fun _ => by rw [w64 (by have := sd.r; omega)]; rfl
          cases hz : R.2 == 0
          · simp only [go_sem, hz]
            cases hx : X.2 != 0
            · have hx' : X.2 = 0 := by simpa using hx
              obtain ⟨x1, x2, x3⟩ := fX hx'
              rw [x2] at q0
              rw [x1] at q1
              unfold entc at q1
              have q4 := SameEntries_pure [e] [e] h1m h1m (fun x hx => by rw [List.mem_singleton.1 hx]; exact he) (fun x hx => by rw [List.mem_singleton.1 hx]; exact he)
              rw [decide_eq_true rfl] at q4
              by_cases hk : look = e.at'
              · subst hk
                simp only [go_sem, hx]
                refine vc1 (q1) ?_
                simp only [go_sem, ent]
                refine vc1 (q4) ?_
                simp only [go_sem]
                refine vc2 (q0) ?_
                simp only [go_sem, ref]
              · rw [x3 look hk] at q3
                unfold entc at q2 q3
                have hy : (findM d it look).1.l.length ≤ maxLen := by have := find_len (it := it) (r := look) od; rw [maxLen_eq]; omega
                have hb := ref_ne hk
                generalize findM d it look = y at *
                have q5 := SameEntries_pure [y.1] [y.1] h1m h1m (fun x hx => by rw [List.mem_singleton.1 hx]; exact hy) (fun x hx => by rw [List.mem_singleton.1 hx]; exact hy)
                rw [decide_eq_true rfl] at q5
                have e3 : (y.2 == y.2) = true := by simp
                simp only [go_sem, hx]
                refine vc1 (q1) ?_
                simp only [go_sem, ent]
                refine vc1 (q4) ?_
                simp only [go_sem]
                refine vc2 (q0) ?_
                simp only [go_sem, ref, hb]
                refine vc1 (q2) ?_
                simp only [go_sem, ent]
                refine vc1 (q3) ?_
                simp only [go_sem, ent, e3]
                refine vc1 (q5) ?_
                simp only [go_sem]
            · simp only [go_sem, hx]
          · have hz' : R.2 = 0 := by simpa using hz
            obtain ⟨f1, f2⟩ := fR hz'
            rw [f1] at p9
            have hwl : ((R.1.rows.length : Int) != IntKind.i64.wrap ((d.rows.length : Int) + 1)) = false := by rw [hwr hz', f2]; simp
            simp only [go_sem, hz]
            refine vc2 (p9) ?_
            simp only [go_sem, hwl]
            cases hx : X.2 != 0
            · have hx' : X.2 = 0 := by simpa using hx
              obtain ⟨x1, x2, x3⟩ := fX hx'
              rw [x2] at q0
              rw [x1] at q1
              unfold entc at q1
              have q4 := SameEntries_pure [e] [e] h1m h1m (fun x hx => by rw [List.mem_singleton.1 hx]; exact he) (fun x hx => by rw [List.mem_singleton.1 hx]; exact he)
              rw [decide_eq_true rfl] at q4
              by_cases hk : look = e.at'
              · subst hk
                simp only [go_sem, hx]
                refine vc1 (q1) ?_
                simp only [go_sem, ent]
                refine vc1 (q4) ?_
                simp only [go_sem]
                refine vc2 (q0) ?_
                simp only [go_sem, ref]
              · rw [x3 look hk] at q3
                unfold entc at q2 q3
                have hy : (findM d it look).1.l.length ≤ maxLen := by have := find_len (it := it) (r := look) od; rw [maxLen_eq]; omega
                have hb := ref_ne hk
                generalize findM d it look = y at *
                have q5 := SameEntries_pure [y.1] [y.1] h1m h1m (fun x hx => by rw [List.mem_singleton.1 hx]; exact hy) (fun x hx => by rw [List.mem_singleton.1 hx]; exact hy)
                rw [decide_eq_true rfl] at q5
                have e3 : (y.2 == y.2) = true := by simp
                simp only [go_sem, hx]
                refine vc1 (q1) ?_
                simp only [go_sem, ent]
                refine vc1 (q4) ?_
                simp only [go_sem]
                refine vc2 (q0) ?_
                simp only [go_sem, ref, hb]
                refine vc1 (q2) ?_
                simp only [go_sem, ent]
                refine vc1 (q3) ?_
                simp only [go_sem, ent, e3]
                refine vc1 (q5) ?_
                simp only [go_sem]
            · simp only [go_sem, hx]
      · rw [g3] at c3
        refine pov1 Try.func6 rfl Try.ntmps6 Try.results6 ?_
        simp only [go_sem, flds, doc, ent, ref]
        refine vc1 (Awake_pure) ?_
        simp only [go_sem]
        refine vc2 (c1) ?_
        simp only [go_sem]
        refine vc1 (c2) ?_
        simp only [go_sem]
        refine vc1 (c3) ?_
        simp only [go_sem]
    · rw [g2] at c2
      refine pov1 Try.func6 rfl Try.ntmps6 Try.results6 ?_
      simp only [go_sem, flds, doc, ent, ref]
      refine vc1 (Awake_pure) ?_
      simp only [go_sem]
      refine vc2 (c1) ?_
      simp only [go_sem]
      refine vc1 (c2) ?_
      simp only [go_sem]
  · rw [g1] at c1
    refine pov1 Try.func6 rfl Try.ntmps6 Try.results6 ?_
    simp only [go_sem, flds, doc, ent, ref]
    refine vc1 (Awake_pure) ?_
    simp only [go_sem]
    refine vc2 (c1) ?_
    simp only [go_sem]
end Go.Proofs.Ytmnibpgmcgdfpaa
