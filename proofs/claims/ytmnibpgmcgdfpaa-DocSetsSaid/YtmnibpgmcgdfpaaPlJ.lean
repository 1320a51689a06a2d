/- A logic of values for functions that only read and build, over the model (part 10): no statement of the seat is proved here. -/
import Derived.Test.YtmnibpgmcgdfpaaPlI
import Derived.Test.YtmnibpgmcgdfpaaPlH
set_option linter.unusedSimpArgs false
set_option linter.unusedVariables false
namespace Go.PL
open Go.RowKit
set_option linter.unusedVariables false
/-! Calls with one vec, or one block, of the caller's: how the walk goes on -/
section
variable {P : Program}
theorem map_ren {f g : Nat → Nat} {es : List PV} (h : ∀ p ∈ es, p.ids = []) : es.map (PV.ren f g) = es := by
  rw [← PV.renL_map]
  exact ren_cleanL es (List.eq_nil_iff_forall_not_mem.2 fun i hi => by obtain ⟨c, hc, hic⟩ := PV.mem_idsL.1 hi; rw [h c hc] at hic; cases hic)
abbrev oneV (n sz : Nat) (e : TypeId) (es : List PV) : MemL := ⟨[], [(1000, .vec n sz e)], [(1000, es)]⟩
abbrev noV : MemL := ⟨[], [], []⟩
theorem oneV_ok {n sz : Nat} {e : TypeId} {es : List PV} (h : ∀ p ∈ es, p.ids = []) : (oneV n sz e es).Ok :=
  ⟨by simp, by simp, by simp, by simp, by simp, fun x hx c hc i hi => by simp only [List.mem_singleton] at hx; subst hx; rw [h c hc] at hi; cases hi⟩
theorem noV_ok : noV.Ok := ⟨by simp, by simp, by simp, by simp, by simp, by simp⟩
/-! how such contracts begin -/
theorem Eff.vr (vm : List Nat) {f : FuncId} {fn : Func} {c : Code} {args : List PV} {r : PV} {n k sz : Nat} {e : TypeId} {es' : List PV} {rs : List ResultVar} (hf : P.funcs[f]? = some fn) (hname : fn.name ≠ "runtime.NumGoroutine") (hb : fn.body = some c) (hn : fn.ntmps = n) (hrs : fn.results = rs.toArray) (hl : args.length ≤ n)
    (hes' : ∀ p ∈ es', p.ids = []) (ha : ∀ p ∈ args, p.ids = []) (hr : ∀ i ∈ r.ids, i = .r 1000)
    (h : @vC P ⟨c⟩ ⟨eRetQ P rs r noV (oneV k sz e es') (fun _ => 0) (fun _ => none)⟩ ((St.init args n).vms vm)) : Eff P f args noV r (oneV k sz e es') :=
  Eff.of_v vm hf hname hb hn hrs hl noV_ok (oneV_ok hes') (fun p hp i hi => by rw [ha p hp] at hi; cases hi) (fun i hi => by rw [hr i hi]; exact ⟨_, List.mem_singleton.2 rfl, rfl⟩) (by simp) (by simp) fun ph pq => by
    have h3 : eRetQ P rs r noV (oneV k sz e es') ph pq = eRetQ P rs r noV (oneV k sz e es') (fun _ => 0) (fun _ => none) := by
      have h4 : ∀ s, ERet P rs r noV (oneV k sz e es') ph pq s = ERet P rs r noV (oneV k sz e es') (fun _ => 0) (fun _ => none) s := fun s => propext ⟨fun h => ⟨h.r, h.h, h.q, h.v, by simp, by simp⟩, fun h => ⟨h.r, h.h, h.q, h.v, by simp, by simp⟩⟩
      funext e s
      cases e <;> first | exact h4 s | rfl
    rw [h3]
    exact h

theorem set_mapV {α : Type} {pv : α → PV} {l : List α} {k : Nat} {x : α} : (l.map pv).set k (pv x) = (l.set k x).map pv := by rw [List.map_set]
theorem ids_mapV {α : Type} {pv : α → PV} (h : ∀ a, (pv a).ids = []) (l : List α) : ∀ p ∈ l.map pv, p.ids = [] := fun p hp => by
  obtain ⟨a, _, rfl⟩ := List.mem_map.1 hp; exact h a
theorem idsL_mapV {α : Type} {pv : α → PV} (h : ∀ a, (pv a).ids = []) (l : List α) : PV.idsL (l.map pv) = [] :=
  List.eq_nil_iff_forall_not_mem.2 fun i hi => by obtain ⟨c, hc, hic⟩ := PV.mem_idsL.1 hi; rw [ids_mapV h l c hc] at hic; cases hic
end
end Go.PL

/-! Rows put in order: the plain theory (no program in sight) -/
namespace Go.PL.Srt
set_option linter.unusedVariables false
variable {α : Type}

structure Good (lt : α → α → Bool) : Prop where
  asym : ∀ a b, lt a b = true → lt b a = false
  trans : ∀ a b c, lt a b = true → lt b c = true → lt a c = true

def Inc (lt : α → α → Bool) (l : List α) : Prop := l.Pairwise fun a b => lt a b = true
/-- no two are alike -/
def Unl (lt : α → α → Bool) (l : List α) : Prop := l.Pairwise fun a b => lt a b = true ∨ lt b a = true

variable {lt : α → α → Bool}
theorem Unl.append {l l' : List α} : Unl lt (l ++ l') ↔ Unl lt l ∧ Unl lt l' ∧ ∀ a ∈ l, ∀ b ∈ l', lt a b = true ∨ lt b a = true := List.pairwise_append
theorem Inc.append {l l' : List α} : Inc lt (l ++ l') ↔ Inc lt l ∧ Inc lt l' ∧ ∀ a ∈ l, ∀ b ∈ l', lt a b = true := List.pairwise_append
theorem Inc.take {l : List α} (h : Inc lt l) (k : Nat) : Inc lt (l.take k) := List.Pairwise.sublist (List.take_sublist _ _) h
theorem getD_setN {l : List α} {i j : Nat} {x d : α} (h : i ≠ j) : (l.set i x).getD j d = l.getD j d := by
  simp [List.getD_eq_getElem?_getD, List.getElem?_set_ne h]
theorem getD_setE {l : List α} {i : Nat} {x d : α} (h : i < l.length) : (l.set i x).getD i d = x := by
  simp [List.getD_eq_getElem?_getD, List.getElem?_set_self h]
/-! ### two that change places -/
end Go.PL.Srt

/-! Steps that no code takes, as a relation of states; a loop whose next head is told behind such steps -/
namespace Go.PL
open Go.RowKit
set_option linter.unusedVariables false
section
variable {P : Program} {B : Frm} {S : Stable} {M : Maps} {s s' s'' : St} {a : Act} {w : World} {Q : Exit → St → Prop}

/-- a state told otherwise: no code runs -/
def Gh (s s'' : St) : Prop := ∀ B S M a w, Sim B S M s a w → ∃ S' M', Sim B S' M' s'' a w ∧ Ext B S S' w w
theorem Gh.refl (s : St) : Gh s s := fun B S M a w hs => ⟨S, M, hs, Ext.refl _ _ _⟩
theorem Gh.trans (h : Gh s s') (h' : Gh s' s'') : Gh s s'' := fun B S M a w hs => by
  obtain ⟨S1, M1, h1, h2⟩ := h B S M a w hs
  obtain ⟨S2, M2, h3, h4⟩ := h' B S1 M1 a w h1
  exact ⟨S2, M2, h3, h2.trans h4⟩
theorem Gh.weak (hw : Weak s' s) (hr : Refs s') : Gh s s' := fun B S M a w hs => ⟨S, M, hs.weak hw hr, Ext.refl _ _ _⟩
theorem awp_gh {c : Code} (g : Gh s s'') (h : awp P c Q s'') : awp P c Q s := fun B S M a w hs => by
  obtain ⟨S', M', h1, h2⟩ := g B S M a w hs
  exact wp_mono (h B S' M' a w h1) fun e a' w' ⟨s', S2, M2, k1, k2, k3⟩ => ⟨s', S2, M2, k1, k2, h2.trans k3⟩
theorem awp_loop_gh {c : Code} {ι : Type} (I : ι → St) (μ : ι → Nat) (i0 : ι) (h0 : Gh s (I i0))
    (round : ∀ i, awp P c (thenQ (fun s' => ∃ j, μ j < μ i ∧ Gh s' (I j)) Q) (I i)) : awp P (.loop c) Q s := awp_gh h0 fun B S M a w hs => by
  have key : ∀ (k : Nat) (i : ι), μ i < k → ∀ S1 M1 a1 w1, Sim B S1 M1 (I i) a1 w1 → Ext B S S1 w w1 →
      Code.rounds P c (fun e a' w' => ∃ s' S' M', Q e s' ∧ Sim B S' M' s' a' w' ∧ Ext B S S' w w') k a1 w1 := by
    intro k
    induction k with
    | zero => intro i hi; omega
    | succ k ih =>
      intro i hi S1 M1 a1 w1 hs1 he1
      rw [rounds_succ]
      refine wp_mono (round i B S1 M1 a1 w1 hs1) fun e a' w' hq => ?_
      obtain ⟨s', S', M', h1, h2, h3⟩ := hq
      cases e with
      | normal =>
        obtain ⟨j, hj, hg⟩ := h1
        obtain ⟨S2, M2, k1, k2⟩ := hg B S' M' a' w' h2
        exact ih j (by omega) S2 M2 a' w' k1 ((he1.trans h3).trans k2)
      | _ => exact ⟨s', S', M', h1, h2, he1.trans h3⟩
  exact wp_loop_rounds (μ i0 + 1) (key _ i0 (Nat.lt_succ_self _) S M a w hs (Ext.refl _ _ _))
/-- the next head, behind such steps -/
def NextG {ι : Type} (I : ι → St) (μ : ι → Nat) (i : ι) (s' : St) : Prop := ∃ j, μ j < μ i ∧ Gh s' (I j)
theorem vLoopG {c : Code} {ι : Type} (I : ι → St) (μ : ι → Nat) (i0 : ι) (h0 : Gh s (I i0)) (round : ∀ i, @vC P ⟨c⟩ ⟨thenQ (NextG I μ i) Q⟩ (I i)) : awp P (.loop c) Q s :=
  awp_loop_gh I μ i0 h0 fun i => vc_sound _ _ _ (round i)

end
attribute [go_sem] NextG
end Go.PL

/-! Calls that hand on one vec, under whatever name -/
namespace Go.PL
open Go.RowKit
set_option linter.unusedVariables false
section
variable {P : Program}
abbrev vecN (i n sz : Nat) (e : TypeId) (es : List PV) : MemL := ⟨[], [(i, .vec n sz e)], [(i, es)]⟩
theorem vecN_ok {i n sz : Nat} {e : TypeId} {es : List PV} (h : ∀ p ∈ es, p.ids = []) : (vecN i n sz e es).Ok :=
  ⟨by simp, by simp, by simp, by simp, by simp, fun x hx c hc i hi => by simp only [List.mem_singleton] at hx; subst hx; rw [h c hc] at hi; cases hi⟩
theorem vecN_v {i n sz : Nat} {e : TypeId} {es : List PV} : (vecN i n sz e es).hp.v i = some es := by simp [MemL.hp, upds_cons, upds_nil, upd]
theorem lay_vecN {i n sz : Nat} {e : TypeId} {es' : List PV} {m : Hp} {d : Nat} (hc : ∀ p ∈ es', p.ids = []) : layM (vecN i n sz e es') (fun _ => d) id m = { m.setq d (.vec n sz e) with v := upd m.v d (some es') } := by
  unfold layM
  simp only [List.map_nil, upds_nil, List.map_cons, upds_cons, vecN_v, Option.map_some, map_ren hc]
  rfl
/-- a call that hands on a vec, which is called d from here on -/
theorem vCall_vn {M : KH} {g : FuncId} {args args0 : List PV} {K : KR} {i n sz : Nat} {e : TypeId} {es : List PV} {r : PV} (d : Nat) (h1 : Eff P g args0 noV r (vecN i n sz e es)) (hes : ∀ p ∈ es, p.ids = []) (ha : ∀ p ∈ args0, p.ids = [])
    (hd : M.m.q d = none) (he : PV.giveL M.m args = args0) (h2 : K.k (r.ren (fun _ => d) id) { M.m.setq d (.vec n sz e) with v := upd M.m.v d (some es) }) : @vCall P true M (some (g, args)) K := by
  refine vCall_eff (fun _ => d) id h1 ⟨by simp, by simp, by simp, by simp, fun x hx => ?_, by simp, fun x hx y hy _ => ?_⟩ (by rw [map_ren ha]; exact he) ?_
  · simp only [List.mem_singleton] at hx; subst hx; exact .inr hd
  · simp only [List.mem_singleton] at hx hy; subst hx hy; rfl
  · rw [lay_vecN hes]; exact h2
theorem Eff.vn (vm : List Nat) {f : FuncId} {fn : Func} {c : Code} {args : List PV} {r : PV} {i n k sz : Nat} {e : TypeId} {es' : List PV} {rs : List ResultVar} (hf : P.funcs[f]? = some fn) (hname : fn.name ≠ "runtime.NumGoroutine") (hb : fn.body = some c) (hn : fn.ntmps = n) (hrs : fn.results = rs.toArray) (hl : args.length ≤ n)
    (hes' : ∀ p ∈ es', p.ids = []) (ha : ∀ p ∈ args, p.ids = []) (hr : ∀ j ∈ r.ids, j = .r i)
    (h : @vC P ⟨c⟩ ⟨eRetQ P rs r noV (vecN i k sz e es') (fun _ => 0) (fun _ => none)⟩ ((St.init args n).vms vm)) : Eff P f args noV r (vecN i k sz e es') :=
  Eff.of_v vm hf hname hb hn hrs hl noV_ok (vecN_ok hes') (fun p hp i hi => by rw [ha p hp] at hi; cases hi) (fun j hj => by rw [hr j hj]; exact ⟨_, List.mem_singleton.2 rfl, rfl⟩) (by simp) (by simp) fun ph pq => by
    have h3 : eRetQ P rs r noV (vecN i k sz e es') ph pq = eRetQ P rs r noV (vecN i k sz e es') (fun _ => 0) (fun _ => none) := by
      have h4 : ∀ s, ERet P rs r noV (vecN i k sz e es') ph pq s = ERet P rs r noV (vecN i k sz e es') (fun _ => 0) (fun _ => none) s := fun s => propext ⟨fun h => ⟨h.r, h.h, h.q, h.v, by simp, by simp⟩, fun h => ⟨h.r, h.h, h.q, h.v, by simp, by simp⟩⟩
      funext e s
      cases e <;> first | exact h4 s | rfl
    rw [h3]
    exact h
/-- the end of a walk that hands on a vec -/
theorem eret_vn {s : St} {rs : List ResultVar} {r r0 : PV} {i k sz : Nat} {e : TypeId} {es' : List PV} (hc : ∀ p ∈ es', p.ids = []) (hr : vRet0 P r0 s [] rs) (hp : Pub (vecN i k sz e es').has s.m r0 r) (hq : s.m.q i = some (.vec k sz e)) (hv : s.m.v i = some es') :
    ERet P rs r noV (vecN i k sz e es') (fun _ => 0) (fun _ => none) s :=
  ⟨⟨r0, hr, hp⟩, by simp, fun x hx => by simp only [List.mem_singleton] at hx; subst hx; exact hq, fun x hx => by
    simp only [List.mem_singleton] at hx; subst hx
    exact ⟨es', hv, rfl, fun i hi => .clean (hc _ (getD_mem hi))⟩, by simp, by simp⟩
theorem hasX_v1 {s : St} {n d k sz : Nat} {e : TypeId} {L : List (Nat × PV)} {es : List PV} (h0 : s.n = n) (hL : ∀ x ∈ L, s.fr x.1 = x.2) (hq : s.m.q d = some (.vec k sz e)) (hv : s.m.v d = some es) : HasX n L [] [(d, .vec k sz e)] [] [] [(d, es)] [] [] [] s :=
  ⟨⟨h0, hL, by simp, by simp [hq]⟩, by simp, by simp, by simp [hv], by simp, by simp, by simp⟩
theorem wholeX_v1 {L : List (Nat × PV)} {d n sz : Nat} {e : TypeId} {es : List PV} (hL : ∀ x ∈ L, x.2.ids.all (refInM [] [(d, .vec n sz e)]) = true) (he : PV.idsL es = []) : WholeX L [] [(d, .vec n sz e)] [(d, es)] [] [] [] :=
  ⟨⟨hL, by simp⟩, by simp [he], by simp, by simp, by simp, by simp⟩
end
end Go.PL

/-! Calls that hand on one row, under whatever name -/
namespace Go.PL
open Go.RowKit
set_option linter.unusedVariables false
section
variable {P : Program}
end
end Go.PL

/-! Calls with one block of the caller's whose cells are rows -/
namespace Go.PL
open Go.RowKit
set_option linter.unusedVariables false
/-- cells that are rows, one name behind the other -/
def rowCells : Nat → List (List PV) → List PV
  | _, [] => []
  | d, es :: L => .sl (.row d) es :: rowCells (d + 1) L
def rowRows (sz : Nat) (e : TypeId) : Nat → List (List PV) → List (Nat × Row)
  | _, [] => []
  | d, es :: L => (d, .live es.length sz e) :: rowRows sz e (d + 1) L
abbrev poolM (sz : Nat) (e : TypeId) (L : List (List PV)) : MemL := ⟨[(1000, rowCells 2000 L)], rowRows sz e 2000 L, []⟩
theorem rowRows_ge {sz : Nat} {e : TypeId} : ∀ {d : Nat} {L : List (List PV)}, ∀ x ∈ rowRows sz e d L, d ≤ x.1
  | _, [], x, hx => by cases hx
  | d, es :: L, x, hx => by
    rcases List.mem_cons.1 hx with rfl | hx
    · exact Nat.le_refl _
    · have := rowRows_ge x hx; omega
theorem rowRows_nodup {sz : Nat} {e : TypeId} : ∀ {d : Nat} {L : List (List PV)}, ((rowRows sz e d L).map (·.1)).Nodup
  | _, [] => by simp [rowRows]
  | d, es :: L => by
    simp only [rowRows, List.map_cons, List.nodup_cons]
    refine ⟨fun h => ?_, rowRows_nodup⟩
    obtain ⟨x, hx, e⟩ := List.mem_map.1 h
    have := rowRows_ge x hx
    omega
theorem rowCells_ids {sz : Nat} {e : TypeId} : ∀ {d : Nat} {L : List (List PV)}, (∀ l ∈ L, ∀ p ∈ l, p.ids = []) → ∀ c ∈ rowCells d L, ∀ i ∈ c.ids, ∃ y ∈ rowRows sz e d L, i = .r y.1
  | _, [], _, c, hc, _, _ => by cases hc
  | d, es :: L, h, c, hc, i, hi => by
    rcases List.mem_cons.1 hc with rfl | hc
    · simp only [PV.ids, List.mem_cons, List.not_mem_nil, or_false] at hi
      exact ⟨_, List.mem_cons_self .., hi⟩
    · obtain ⟨y, hy, e⟩ := rowCells_ids (fun l hl => h l (List.mem_cons_of_mem _ hl)) c hc i hi
      exact ⟨y, List.mem_cons_of_mem _ hy, e⟩
theorem poolM_ok {sz : Nat} {e : TypeId} {L : List (List PV)} (h : ∀ l ∈ L, ∀ p ∈ l, p.ids = []) : (poolM sz e L).Ok :=
  ⟨by simp, rowRows_nodup, by simp, by simp, fun x hx c hc i hi => by
    simp only [List.mem_singleton] at hx
    subst hx
    obtain ⟨y, hy, rfl⟩ := rowCells_ids (sz := sz) (e := e) h c hc i hi
    exact ⟨y, hy, rfl⟩, by simp⟩
section
variable {P : Program}
end
end Go.PL

namespace Go.PL
open Go.RowKit
set_option linter.unusedVariables false
/-! A reader that is told of a block that is written no more, called with one that its owner still writes: what it hands back must lean on no cell that holds a slice -/
end Go.PL

/-! Maps of rows: states told by functions, rows in a map under their own names, a map that is written no more -/
namespace Go.PL
open Go.RowKit
set_option linter.unusedVariables false
section
variable {P : Program} {B : Frm} {S : Stable} {M : Maps} {s s' s'' : St} {a : Act} {w : World} {Q : Exit → St → Prop}

/-- what a block holds, told otherwise -/
theorem Sim.tellBlkU (hs : Sim B S M s a w) {i : Nat} {cs cs' : List PV} (hi : s.m.h i = some cs) (hz : s.m.z i = false) (hl : cs'.length = cs.length)
    (hr : ∀ us t, w.heap[M.φ i]? = some (.cells ⟨us⟩ t (0, 0)) → ∀ j, j < cs.length → RepS S M s.m.q (us.getD j undef) (cs'.getD j .any)) (hc : ∀ c ∈ cs', ∀ k ∈ c.ids, Live s.m k) : Sim B S M (s.with { s.m with h := upd s.m.h i (some cs') }) a w := by
  have hne : ∀ k, (upd s.m.h i (some cs') k = none) ↔ s.m.h k = none := fun k => by
    by_cases e : i = k
    · subst e; rw [upd_same, hi]; simp
    · rw [upd_ne _ _ e]
  have live : ∀ k, Live s.m k → Live { s.m with h := upd s.m.h i (some cs') } k := fun k h => by
    cases k with
    | b k => exact fun e => h ((hne k).1 e)
    | r k => exact h
  have old : ∀ k cs2, upd s.m.h i (some cs') k = some cs2 → ∃ cs3, s.m.h k = some cs3 := fun k cs2 h => by
    cases e : s.m.h k with
    | none => rw [(hne k).2 e] at h; cases h
    | some x => exact ⟨x, rfl⟩
  refine ⟨hs.defers, hs.hn, hs.hB, hs.stable, hs.fr, fun j k hk => live k (hs.ids j k hk), fun id cs2 hb => ?_, hs.row, fun id id' c1 c2 h1 h2 => ?_, hs.injq, fun id id' c1 r h1 => ?_, fun b c hc => ?_, fun id es he => ?_, ⟨fun id b hb => ?_, hs.pn.q⟩, hs.hz⟩
  · have hb : upd s.m.h i (some cs') id = some cs2 := hb
    show BlkOk _ _ _ _ _ _ _ (s.m.z id)
    by_cases e : i = id
    · subst e
      rw [upd_same] at hb
      cases hb
      have hb' := hs.blk i cs hi
      rw [hz] at hb' ⊢
      obtain ⟨g1, g2, ⟨us, t, g3, g4, g5⟩, g6⟩ := hb'
      exact ⟨g1, g2, ⟨us, t, g3, by rw [g4, hl], fun j hj => hr us t g3 j (by omega)⟩, fun c hc' k hk => live k (hc c hc' k hk)⟩
    · rw [upd_ne _ _ e] at hb
      have hb' := hs.blk id cs2 hb
      cases hz' : s.m.z id with
      | false =>
        rw [hz'] at hb'
        obtain ⟨g1, g2, g3, g6⟩ := hb'
        exact ⟨g1, g2, g3, fun c hc k hk => live k (g6 c hc k hk)⟩
      | true => rw [hz'] at hb'; exact hb'
  · obtain ⟨c3, e3⟩ := old _ _ h1
    obtain ⟨c4, e4⟩ := old _ _ h2
    exact hs.inj _ _ _ _ e3 e4
  · obtain ⟨c3, e3⟩ := old _ _ h1
    exact hs.injx _ _ _ _ e3
  · obtain ⟨g1, g2, g3, g4⟩ := hs.rm b c hc
    exact ⟨g1, g2, g3, g4.move (SLe.refl _) rfl (fun v p r _ => r) live⟩
  · exact (hs.vc id es he).move (fun _ _ _ h => h) rfl rfl (fun _ => rfl) (fun v p r _ => r) live
  · obtain ⟨g1, g2⟩ := hs.pn.h id b hb
    exact ⟨fun e => g1 ((hne id).1 e), g2⟩

theorem Sim.tellBlk (hs : Sim B S M s a w) {i : Nat} {cs cs' : List PV} (hi : s.m.h i = some cs) (hz : s.m.z i = false) (hl : cs'.length = cs.length)
    (hr : ∀ j v, j < cs.length → RepS S M s.m.q v (cs.getD j .any) → RepS S M s.m.q v (cs'.getD j .any)) (hc : ∀ c ∈ cs', ∀ k ∈ c.ids, Live s.m k) : Sim B S M (s.with { s.m with h := upd s.m.h i (some cs') }) a w :=
  hs.tellBlkU hi hz hl (fun us t g j hj => by
    obtain ⟨_, _, ⟨us', t', g3, _, g5⟩, _⟩ := hs.own hi hz
    rw [g] at g3
    cases g3
    exact hr j _ hj (g5 j hj)) hc

end
end Go.PL

namespace Go.PL
open Go.RowKit Srt
set_option linter.unusedVariables false
/-! A pool of which one row bears another name: called by its own name again -/
section
variable {P : Program} {sz : Nat} {e : TypeId} {L : List (List PV)} {i k : Nat} {es : List PV}
end
end Go.PL

namespace Go.PL
open Srt
set_option linter.unusedVariables false
section
variable {s : St}
end
end Go.PL

namespace Go.PL
open Go.RowKit
set_option linter.unusedVariables false
/-! A call that hands on a block; the end of a walk that makes a pool's row longer -/
section
variable {P : Program}
end
end Go.PL

namespace Go.PL
open Go.RowKit
set_option linter.unusedVariables false
/-! As PoolL, for results that hold slices of structs: every element has a cell that is no slice, so it does not lie in the block lent -/
end Go.PL

namespace Go.PL
open Go.RowKit
set_option linter.unusedVariables false
/-! A call that hands on a pool -/
section
variable {P : Program}
theorem Eff.pn (vm : List Nat) {f : FuncId} {fn : Func} {c : Code} {args : List PV} {r : PV} {n sz : Nat} {e : TypeId} {L : List (List PV)} {rs : List ResultVar} (hf : P.funcs[f]? = some fn) (hname : fn.name ≠ "runtime.NumGoroutine") (hb : fn.body = some c) (hn : fn.ntmps = n) (hrs : fn.results = rs.toArray) (hl : args.length ≤ n)
    (hL : ∀ l ∈ L, ∀ p ∈ l, p.ids = []) (ha : ∀ p ∈ args, p.ids = []) (hr : ∀ j ∈ r.ids, j = .b 1000)
    (h : ∀ ph pq, @vC P ⟨c⟩ ⟨eRetQ P rs r noV (poolM sz e L) ph pq⟩ (St.vms ⟨initFr 0 args, noV.hpP ph pq, n⟩ vm)) : Eff P f args noV r (poolM sz e L) :=
  Eff.of_v vm hf hname hb hn hrs hl noV_ok (poolM_ok hL) (fun p hp j hj => by rw [ha p hp] at hj; cases hj) (fun j hj => by rw [hr j hj]; exact ⟨_, List.mem_singleton.2 rfl, rfl⟩) (by simp) (by simp) h
end
end Go.PL

namespace Go.PL
open Go.RowKit
set_option linter.unusedVariables false
end Go.PL

namespace Go.PL
open Go.RowKit
set_option linter.unusedVariables false
/-! Contracts that write one block through a pointer: how they begin and end -/
section
variable {P : Program}
end
end Go.PL

namespace Go.PL
open Go.RowKit
set_option linter.unusedVariables false
/-! Regions whose operations may be taken in a few orders only: each order walked -/
section
variable {P : Program} {ops : Array Oper}
/-- what is yet to be taken ends as said -/
def wAny (P : Program) (ops : Array Oper) (K : St → Prop) (fuel : Nat) (listed : Array Bool) (s : St) : Prop :=
  ∀ (B : Frm) (Qc : Exit → Act → World → Prop) (S0 : Stable) (w0 : World), (∀ s' S' M' a' w', K s' → Sim B S' M' s' a' w' → Ext B S0 S' w0 w' → Qc .normal a' w') → ∀ S M a w, Sim B S M s a w → Ext B S0 S w0 w → wpAny P .any ops Qc fuel listed a w
theorem wAny_nil {K : St → Prop} {listed : Array Bool} {s : St} : ∀ {fuel : Nat}, Region.ready .any ops listed = [] → K s → wAny P ops K fuel listed s
  | 0, hr, h => fun B Qc S0 w0 hQ S M a w hs he => ⟨hr, hQ s S M a w h hs he⟩
  | fuel + 1, hr, h => fun B Qc S0 w0 hQ S M a w hs he => ⟨fun _ => hQ s S M a w h hs he, fun i hi => by rw [hr] at hi; cases hi⟩
theorem wAny_step {K K' : St → Prop} {fuel : Nat} {listed : Array Bool} {s : St} (is : List Nat) (hr : Region.ready .any ops listed = is) (hne : is ≠ [])
    (h : ∀ i ∈ is, ∃ o l K', ops[i]? = some o ∧ lexX P ops K' (o :: l) s ∧ ∀ s', lexX P ops K' l s' → wAny P ops K fuel (listed.setIfInBounds i true) s') : wAny P ops K (fuel + 1) listed s :=
  fun B Qc S0 w0 hQ S M a w hs he => ⟨fun h0 => absurd (hr.symm.trans h0) hne, fun i hi => by
    rw [hr] at hi
    obtain ⟨o, l, K', ho, ⟨hd, h⟩, hK⟩ := h i hi
    unfold wpOp
    simp only [ho]
    rcases h with ⟨hg, ⟨v, m', hst, hrest⟩ | hsp⟩ | ⟨hg, hrest⟩
    · rw [gd_ok hs hg, if_pos rfl]
      exact .inl (step_sound hs (dstOk_spec hd) hst _ _ fun u w' S' M' hs' he' => hK _ hrest B Qc S0 w0 hQ S' M' _ w' hs' (he.trans he'))
    · rw [gd_ok hs hg, if_pos rfl]
      exact .inl (spec_sound hs (dstOk_spec hd) hsp _ _ fun s' u w' S' M' hk hs' he' => hK _ hk B Qc S0 w0 hQ S' M' _ w' hs' (he.trans he'))
    · rw [gd_ok hs hg, if_neg (by simp)]
      exact hK _ hrest B Qc S0 w0 hQ S M _ w (skip_sim hs hd) he⟩
/-- one order is forced -/
def forced (ops : Array Oper) : List Nat → Array Bool → Bool
  | [], _ => true
  | i :: L, listed => (Region.ready .any ops listed == [i]) && forced ops L (listed.setIfInBounds i true)
def markA (listed : Array Bool) (L : List Nat) : Array Bool := L.foldl (fun a i => a.setIfInBounds i true) listed
theorem wAny_seg {K : St → Prop} {fuel : Nat} : ∀ (L : List Nat) (l : List Oper) (listed : Array Bool) (s : St), forced ops L listed = true → L.map (fun i => ops[i]?) = l.map some → lexX P ops (wAny P ops K fuel (markA listed L)) l s → wAny P ops K (fuel + L.length) listed s
  | [], [], listed, s, _, _, h => h
  | [], _ :: _, _, _, _, h, _ => by simp at h
  | _ :: _, [], _, _, _, h, _ => by simp at h
  | i :: L, o :: l, listed, s, hf, hm, h => by
    simp only [forced, Bool.and_eq_true, beq_iff_eq] at hf
    simp only [List.map_cons, List.cons.injEq] at hm
    refine wAny_step (K' := K) [i] hf.1 (by simp) fun j hj => ?_
    rw [List.mem_singleton.1 hj]
    exact ⟨o, l, _, hm.1, h, fun s' h' => wAny_seg L l _ s' hf.2 hm.2 h'⟩
theorem awp_any {id : Nat} {Q : Exit → St → Prop} {s : St} (hm : P.follows .mixedOrders = true) (h : wAny P ops (Q .normal) ops.size (Array.replicate ops.size false) s) : awp P (.region id ops true) Q s := fun B S M a w hs => by
  refine wp_region_any hm ?_
  have he : Ext B S S w { w with drawn := w.drawn + 1 } := ⟨SLe.refl _, fun _ _ => ⟨fun _ => rfl, rfl⟩, (BelowF.refl B w).drew⟩
  have hs' : Sim B S M s a { w with drawn := w.drawn + 1 } := hs.world rfl
  have := h B (fun e a' w' => ∃ s' S' M', Q e s' ∧ Sim B S' M' s' a' w' ∧ Ext B S S' w w') S w (fun s' S' M' a' w' h1 h2 h3 => ⟨s', S', M', h1, h2, h3⟩) S M a _ hs' he
  simpa using this
/-- the same, out of simp's reach -/
def vAny (P : Program) (D : List Nat) [K : KS] [G : LST] (s : St) : Prop := wAny P G.l.toArray K.k (G.l.length - D.length) (markA (Array.replicate G.l.length false) D) s
end
end Go.PL
