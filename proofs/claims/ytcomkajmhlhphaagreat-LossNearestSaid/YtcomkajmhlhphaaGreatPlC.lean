/- A logic of values for functions that only read and build, over the model (part 3): no statement of the seat is proved here. -/
import Derived.Test.YtcomkajmhlhphaaGreatPlB
import Derived.Lib.Strings
import Derived.WideKeyRuns
import Derived.Scope
import Derived.ScopeJumps
import Derived.Orders
set_option linter.unusedSimpArgs false
set_option linter.unusedVariables false
namespace Go.PL
open Go.RowKit
set_option linter.unusedVariables false

mutual
/-- the value as it is handed on: no row of the call's own is told -/
def PV.share : PV → PV
  | .sl _ es => .sl .no es
  | .agg cs => .agg (PV.shareL cs)
  | .tup cs => .tup (PV.shareL cs)
  | .fn f cs => .fn f (PV.shareL cs)
  | p => p
def PV.shareL : List PV → List PV
  | [] => []
  | c :: cs => PV.share c :: PV.shareL cs
end
mutual
/-- it leans on no block of the call's own -/
def PV.clean : PV → Bool
  | .ptr _ _ => false
  | .osl _ _ _ _ => false
  | .agg cs => PV.cleanL cs
  | .tup cs => PV.cleanL cs
  | .fn _ cs => PV.cleanL cs
  | _ => true
def PV.cleanL : List PV → Bool
  | [] => true
  | c :: cs => PV.clean c && PV.cleanL cs
end

theorem PV.shareL_length : ∀ (cs : List PV), (PV.shareL cs).length = cs.length
  | [] => rfl
  | c :: cs => by simp [PV.shareL, PV.shareL_length cs]
theorem PV.shareL_getD : ∀ (cs : List PV) (i : Nat), i < cs.length → (PV.shareL cs).getD i .any = (cs.getD i .any).share
  | [], i, h => by simp at h
  | c :: cs, 0, _ => by simp [PV.shareL]
  | c :: cs, i + 1, h => by simpa [PV.shareL] using PV.shareL_getD cs i (by simpa using h)
theorem PV.cleanL_getD : ∀ {cs : List PV} (h : PV.cleanL cs = true) (i : Nat), i < cs.length → (cs.getD i .any).clean = true
  | [], _, i, h => by simp at h
  | c :: cs, hc, 0, _ => by simp [PV.cleanL] at hc ⊢; exact hc.1
  | c :: cs, hc, i + 1, h => by simp [PV.cleanL] at hc; simpa using PV.cleanL_getD hc.2 i (by simpa using h)

theorem share_cells (p : PV) : p.share.cells = PV.shareL p.cells := by
  cases p <;> simp [PV.share, PV.cells, PV.shareL]

theorem clean_cells {p : PV} (h : p.clean = true) {j : Nat} (hj : j < p.cells.length) : (p.cells.getD j .any).clean = true := by
  cases p with
  | agg cs => exact PV.cleanL_getD (cs := cs) (by simpa [PV.clean] using h) j hj
  | _ =>
    simp only [PV.cells, List.length_cons, List.length_nil] at hj
    have : j = 0 := by omega
    subst this
    exact h

theorem Rep.share {S : Stable} {v : Value} {p : PV} (r : Rep S v p) : Rep S v p.share := by
  induction r with
  | agg vs cs hl _ ih => exact .agg vs _ (by rw [PV.shareL_length]; exact hl) (fun i hi => by rw [PV.shareL_length] at hi; rw [PV.shareL_getD cs i hi]; exact ih i hi)
  | tup vs cs hl _ ih => exact .tup vs _ (by rw [PV.shareL_length]; exact hl) (fun i hi => by rw [PV.shareL_length] at hi; rw [PV.shareL_getD cs i hi]; exact ih i hi)
  | fn f vs cs hl _ ih => exact .fn f vs _ (by rw [PV.shareL_length]; exact hl) (fun i hi => by rw [PV.shareL_length] at hi; rw [PV.shareL_getD cs i hi]; exact ih i hi)
  | any v => exact .any v
  | int k n => exact .int k n
  | bool b => exact .bool b
  | str l => exact .str l
  | flt k b => exact .flt k b
  | cpx k a b => exact .cpx k a b
  | sl0 a cap => exact .sl0 a cap
  | slnil => exact .sl0 none 0
  | sl b o cap sz es vals h1 h2 h3 h4 _ => exact .sl b o cap sz es vals h1 h2 h3 h4
  | rptr b o cs vals h1 h2 _ => exact .rptr b o cs vals h1 h2
  | nilp => exact .nilp
  | nilfn => exact .nilfn
  | nilmap => exact .nilmap
  | mref b => exact .mref b
  | iptr b => exact .iptr b
  | rmap b es ks vs h1 h2 h3 h4 h5 h6 _ _ => exact .rmap b es ks vs h1 h2 h3 h4 h5 h6

theorem RepS.share {S : Stable} {M : Maps} {q : Rows} {v : Value} {p : PV} (r : RepS S M q v p) (h : p.clean = true) : Rep S v p.share := by
  induction r with
  | clean r => exact r.share
  | ptr id off => simp [PV.clean] at h
  | osl id off len cap sz hc => simp [PV.clean] at h
  | row id v es r _ => exact r
  | agg vs cs hl _ ih => exact .agg vs _ (by rw [PV.shareL_length]; exact hl) (fun i hi => by rw [PV.shareL_length] at hi; rw [PV.shareL_getD cs i hi]; exact ih i hi (PV.cleanL_getD h i hi))
  | tup vs cs hl _ ih => exact .tup vs _ (by rw [PV.shareL_length]; exact hl) (fun i hi => by rw [PV.shareL_length] at hi; rw [PV.shareL_getD cs i hi]; exact ih i hi (PV.cleanL_getD h i hi))
  | fn f vs cs hl _ ih => exact .fn f vs _ (by rw [PV.shareL_length]; exact hl) (fun i hi => by rw [PV.shareL_length] at hi; rw [PV.shareL_getD cs i hi]; exact ih i hi (PV.cleanL_getD h i hi))

def partsOk (size : Nat) : Nat → List (Nat × PV) → Prop
  | _, [] => True
  | k, (i, p) :: rest => i = k ∧ p.clean = true ∧ p.known = true ∧ p.cells.length = size ∧ partsOk size (k + 1) rest

def aBuildSlice (P : Program) (d : Nat) (t : TypeId) (len : Nat) (parts : List (Nat × PV)) (m : Hp) : ARes :=
  match telem P t with
  | some ei => ⟨m.q d = none ∧ len = parts.length ∧ len * ei.size ≤ 16777216 ∧ partsOk ei.size 0 parts, .sl (.row d) (parts.map fun x => x.2.share), m.setq d (.live len ei.size ei.e)⟩
  | none => .fail

section
variable {P : Program} {B : Frm} {S : Stable} {M : Maps} {s : St} {a : Act} {w : World}

theorem fill_slice {size : Nat} : ∀ (us : List Value) (k : Nat) (vs : List Value), vs.length = (k + us.length) * size → (∀ u ∈ us, u.cells.size = size) →
    Instr.fill (fun i => some (i * size, size)) ⟨vs⟩ (us.zipIdx k |>.map fun x => (x.2, x.1)) = some ⟨vs.take (k * size) ++ us.flatMap fun u => u.cells.toList⟩
  | [], k, vs, hl, _ => by
    have : vs.take (k * size) = vs := List.take_of_length_le (by simp at hl; omega)
    simp [Instr.fill, this]
  | u :: us, k, vs, hl, hu => by
    have hus := hu u (by simp)
    have hle : k * size + size ≤ vs.length := by
      rw [hl]
      have := Nat.mul_le_mul_right size (show k + 1 ≤ k + (u :: us).length by simp)
      rw [Nat.add_mul] at this
      omega
    simp only [List.zipIdx_cons, List.map_cons, Instr.fill]
    have hno : ¬ ((decide (u.cells.size ≠ size) || decide (k * size + u.cells.size > (⟨vs⟩ : Array Value).size)) = true) := by
      simp only [List.size_toArray, Bool.or_eq_true, decide_eq_true_eq, not_or]
      omega
    rw [if_neg hno]
    have hf := foldl_set u.cells.toList 0 ⟨vs⟩ (k * size) (by simp; omega)
    have hz2 : Array.foldl (fun cs x => cs.setIfInBounds (k * size + x.2) x.1) (⟨vs⟩ : Array Value) (Array.zipIdx u.cells) = ⟨vs.take (k * size) ++ u.cells.toList ++ vs.drop (k * size + u.cells.toList.length)⟩ := by
      rw [← Array.foldl_toList]
      simpa using hf
    have ih := fill_slice us (k + 1) (vs.take (k * size) ++ u.cells.toList ++ vs.drop (k * size + u.cells.toList.length))
      (by simp only [List.length_append, List.length_take, List.length_drop, Array.length_toList, hus]
          have : (k + 1 + us.length) * size = (k + (us.length + 1)) * size := by congr 1; omega
          simp only [List.length_cons] at hl
          omega) (fun x hx => hu x (by simp [hx]))
    have fin : Instr.fill (fun i => some (i * size, size)) ⟨vs.take (k * size) ++ u.cells.toList ++ vs.drop (k * size + u.cells.toList.length)⟩ ((us.zipIdx (k + 1)).map fun x => (x.2, x.1)) = some ⟨vs.take (k * size) ++ List.flatMap (fun u => u.cells.toList) (u :: us)⟩ := by
      rw [ih]
      congr 2
      have hl2 : (vs.take (k * size) ++ u.cells.toList).length = (k + 1) * size := by simp [hus, Nat.add_mul]; omega
      rw [← hl2, List.take_left]
      simp
    first | (rw [hz2]; exact fin) | (simp only [hz2]; exact fin)

theorem partsOk_idx {size : Nat} : ∀ {parts : List (Nat × PV)} {k : Nat}, partsOk size k parts → (∀ x ∈ parts, x.2.clean = true ∧ x.2.known = true ∧ x.2.cells.length = size) ∧ parts.map (·.1) = (List.range' k parts.length)
  | [], k, _ => by simp
  | (i, p) :: rest, k, h => by
    obtain ⟨rfl, h1, h2, h3, h4⟩ := h
    obtain ⟨g1, g2⟩ := partsOk_idx h4
    refine ⟨fun x hx => ?_, ?_⟩
    · rcases List.mem_cons.1 hx with rfl | hx
      · exact ⟨h1, h2, h3⟩
      · exact g1 x hx
    · simp [g2, List.range'_succ]

theorem flat_getD {size : Nat} : ∀ {us : List Value} (hu : ∀ u ∈ us, u.cells.size = size) {i j : Nat} (hi : i < us.length) (hj : j < size),
    (us.flatMap fun u => u.cells.toList).getD (i * size + j) undef = (us.getD i undef).cells.toList.getD j undef
  | [], _, i, j, hi, _ => by simp at hi
  | u :: us, hu, 0, j, _, hj => by
    have := hu u (by simp)
    simp only [List.flatMap_cons, Nat.zero_mul, Nat.zero_add, List.getD_cons_zero]
    rw [getD_append_left (by simpa [this] using hj)]
  | u :: us, hu, i + 1, j, hi, hj => by
    have h0 := hu u (by simp)
    simp only [List.flatMap_cons, List.getD_cons_succ]
    rw [getD_append_right (by simp [h0, Nat.add_mul]; omega)]
    have : (i + 1) * size + j - u.cells.toList.length = i * size + j := by simp [h0, Nat.add_mul]; omega
    rw [this]
    exact flat_getD (fun x hx => hu x (by simp [hx])) (by simpa using hi) hj

theorem sound_buildSlice (hs : Sim B S M s a w) {d : Nat} {t : TypeId} {len : Nat} {parts : List (Nat × PV)} {vparts : List (Nat × Value)} (hl : vparts.length = parts.length)
    (hp : ∀ i, i < parts.length → (vparts.getD i (0, undef)).1 = (parts.getD i (0, .any)).1 ∧ RepS S M s.m.q (vparts.getD i (0, undef)).2 (parts.getD i (0, .any)).2)
    (hok : (aBuildSlice P d t len parts s.m).ok) : Snd P B S s a w (Instr.buildSlice t len ⟨vparts⟩) (aBuildSlice P d t len parts s.m) := by
  revert hok
  unfold aBuildSlice
  split
  · rename_i ei hx
    rintro ⟨g1, g2, g3, g4⟩
    obtain ⟨ti, z, h1, h2, h3, h4, h5, h6, h7, h8⟩ := telem_spec hx
    obtain ⟨p1, p2⟩ := partsOk_idx g4
    subst g2
    -- the values of the parts
    have hus : ∀ i, i < parts.length → RepS S M s.m.q ((vparts.map (·.2)).getD i undef) (parts.getD i (0, .any)).2 := fun i hi => by
      have := (hp i hi).2
      rw [getD_lt (by simp; omega)]
      rw [getD_lt (by omega)] at this
      simpa using this
    have hcell : ∀ i, i < parts.length → ∃ ys : List Value, ((vparts.map (·.2)).getD i undef).cells = ⟨ys⟩ ∧ ys.length = ei.size ∧ ∀ j, j < ei.size → Rep S (ys.getD j undef) ((parts.getD i (0, .any)).2.share.cells.getD j .any) := fun i hi => by
      obtain ⟨q1, q2, q3⟩ := p1 _ (getD_mem (d := (0, PV.any)) hi)
      obtain ⟨ys, e1, e2, e3⟩ := (hus i hi).cells_inv q2
      refine ⟨ys, e1, by omega, fun j hj => ?_⟩
      have hr := e3 j (by omega)
      have hc : ((parts.getD i (0, .any)).2.cells.getD j .any).clean = true := by
        exact clean_cells q1 (by omega)
      have := hr.share hc
      rw [share_cells, PV.shareL_getD _ j (by omega)]
      exact this
    have hsz : ∀ u ∈ vparts.map (·.2), u.cells.size = ei.size := fun u hu => by
      obtain ⟨i, hi, rfl⟩ := List.getElem_of_mem hu
      simp only [List.length_map] at hi
      obtain ⟨ys, e1, e2, _⟩ := hcell i (by omega)
      rw [getD_lt (by simpa using hi)] at e1
      rw [e1]; simp [e2]
    have hpairs : vparts = ((vparts.map (·.2)).zipIdx 0).map fun x => (x.2, x.1) := by
      apply List.ext_getElem
      · simp
      · intro i hi1 hi2
        simp only [List.getElem_map, List.getElem_zipIdx, Nat.zero_add]
        have := (hp i (by omega)).1
        rw [getD_lt hi1, getD_lt (by omega)] at this
        have hidx : (parts[i]'(by omega)).1 = i := by
          have e := congrArg (fun l => l[i]?) p2
          simp only [List.getElem?_map] at e
          rw [List.getElem?_eq_getElem (by omega), List.getElem?_eq_getElem (by simp; omega)] at e
          simpa using e
        rw [hidx] at this
        exact Prod.ext this rfl
    have hz0 : ∃ zs : List Value, zs.length = parts.length * ei.size ∧ (Instr.buildSlice t parts.length ⟨vparts⟩).run P w = .ok (.slice (some ⟨w.heap.size, 0, none⟩) parts.length parts.length) (w.alloc (.cells ⟨zs.take (0 * ei.size) ++ (vparts.map (·.2)).flatMap fun u => u.cells.toList⟩ ei.e)) := by
      have nolim : ¬ parts.length * ei.size > 2 ^ 24 := by omega
      have hfill : ∀ zs : List Value, zs.length = parts.length * ei.size → Instr.fill (fun i => some (i * ei.size, ei.size)) ⟨zs⟩ vparts = some ⟨zs.take (0 * ei.size) ++ (vparts.map (·.2)).flatMap fun u => u.cells.toList⟩ := fun zs hzs => by
        have := fill_slice (size := ei.size) (vparts.map (·.2)) 0 zs (by simp [hl, hzs]) hsz
        rw [← hpairs] at this
        exact this
      have e5 : (sizeOf ei.e).run P w = .ok ei.size w := by rw [run_szo h2, h8]
      by_cases h0 : parts.length * ei.size = 0
      · refine ⟨[], by simp [h0], ?_⟩
        have hp0 : parts = [] := by
          rcases Nat.mul_eq_zero.1 h0 with h | h
          · exact List.eq_nil_of_length_eq_zero h
          · omega
        subst hp0
        have hv0 : vparts = [] := List.eq_nil_of_length_eq_zero (by simpa using hl)
        subst hv0
        simp [Instr.buildSlice, run_und h1, e5, Instr.fill, newRow, newObj, Sem.run, World.alloc_eq]
        have er : Array.map (fun _ : Nat => (default : Value)) (Array.range 0) = ⟨[]⟩ := by
          apply Array.ext'
          simp
        rw [er]
      · refine ⟨((List.range (parts.length * ei.size)).map fun x => z.cells[x % z.cells.size]!), by simp, ?_⟩
        have hf := hfill ((List.range (parts.length * ei.size)).map fun x => z.cells[x % z.cells.size]!) (by simp)
        have hzr : (zeroValue ei.e).run P w = .ok z w := by simp [zeroValue, run_inf h2, h3]
        simp only [Instr.buildSlice, Sem.run_bind, run_und h1, Result.andThen_ok, e5, nolim, if_false, Sem.run_pure, h0, hzr]
        have : (Array.range (parts.length * ei.size)).map (fun x => z.cells[x % z.cells.size]!) = ⟨(List.range (parts.length * ei.size)).map fun x => z.cells[x % z.cells.size]!⟩ := by
          apply Array.ext'
          simp
        simp only [this, hf]
        simp [newRow, newObj, Sem.run, World.alloc_eq]
    obtain ⟨zs, _, hrun⟩ := hz0
    simp only [Nat.zero_mul, List.take_zero, List.nil_append] at hrun
    generalize hvs : (vparts.map (·.2)).flatMap (fun u => u.cells.toList) = vs at hrun
    have hvl : vs.length = parts.length * ei.size := by
      rw [← hvs, List.length_flatMap]
      have : (List.map (fun u : Value => u.cells.toList.length) (vparts.map (·.2))) = List.replicate parts.length ei.size := by
        apply List.eq_replicate_iff.2
        refine ⟨by simp [hl], fun x hx => ?_⟩
        obtain ⟨u, hu, rfl⟩ := List.mem_map.1 hx
        simpa using hsz u hu
      rw [this]
      simp
    have hmax : parts.length ≤ maxLen := by
      have := Nat.le_mul_of_pos_right parts.length h7
      simp only [maxLen]
      omega
    have hsim := hs.newRow (d := d) (n := parts.length) (sz := ei.size) (c := parts.length) (e := ei.e) (vs := vs) (w' := w.alloc (.cells ⟨vs⟩ ei.e)) (.inl g1) (Nat.le_refl _) hmax hvl (fun k hk => alloc_heap_old w _ hk) (alloc_heap_new w _)
    have hle' : SLe S (addS S w.heap.size (parts.length * ei.size) vs) := .cells rfl fun b o v hv => by
      rw [addS_c]
      rw [if_neg]
      · exact hv
      · rintro ⟨rfl, _⟩; rw [hs.S_lt (Nat.le_refl _)] at hv; cases hv
    have hrep : Rep (addS S w.heap.size (parts.length * ei.size) vs) (.slice (some ⟨w.heap.size, 0, none⟩) parts.length parts.length) (.sl .no (parts.map fun x => x.2.share)) := by
      have := rep_of_cells (S := addS S w.heap.size (parts.length * ei.size) vs) (b := w.heap.size) (cap := parts.length) (es := parts.map fun x => x.2.share) (sz := ei.size)
        (fun e he => by
          obtain ⟨x, hx', rfl⟩ := List.mem_map.1 he
          rw [share_cells, PV.shareL_length]
          exact (p1 x hx').2.2) (by simp) (cells := vs)
        (fun k hk => by rw [addS_c, if_pos ⟨rfl, by simpa using hk⟩])
        (fun i j hi hj => by
          simp only [List.length_map] at hi
          obtain ⟨ys, e1, e2, e3⟩ := hcell i hi
          have hcells : vs.getD (i * ei.size + j) undef = ys.getD j undef := by
            rw [← hvs, flat_getD hsz (by simpa [hl] using hi) hj, e1]
          rw [hcells]
          rw [getD_lt (l := List.map _ parts) (by simpa using hi)]
          simp only [List.getElem_map]
          have := e3 j hj
          rw [getD_lt hi] at this
          exact this.mono hle')
      simpa using this
    refine ⟨_, _, _, _, hrun, hsim, ?_, ?_, hle', ?_, ?_⟩
    · refine .row d _ _ hrep fun n' sz' e' hq => ?_
      simp only [Hp.setq, upd_same] at hq
      cases hq
      refine ⟨by simp, fun _ => ⟨fun h0 => by simp [upd_same] at h0, fun c hc => ?_⟩⟩
      simp only [upd_same, Nat.add_right_cancel_iff] at hc ⊢
      rw [← hc]
    · intro i hi
      simp only [PV.ids, List.mem_singleton] at hi
      subst hi
      simp [Live, Hp.setq, Hp.new, upd_same]
    · intro b hb
      refine ⟨fun o => ?_, rfl⟩
      rw [addS_c, if_neg]
      rintro ⟨rfl, _⟩
      exact hs.new_ok hb
    · exact (BelowF.refl B w).alloc hs.hB _
  · exact fun hok => hok.elim
end
end Go.PL

namespace Go.PL
open Go.RowKit
set_option linter.unusedVariables false

def loOf : Option PV → Option Int
  | none => some 0
  | some (.int _ k) => some k
  | _ => none
def hiOf (n : Nat) : Option PV → Option Int
  | none => some n
  | some (.int _ k) => some k
  | _ => none

def cut {α : Type} (l : List α) (i j : Int) : List α := (l.drop i.toNat).take (j.toNat - i.toNat)

def aSlice (P : Program) (t : TypeId) (x : PV) (lo hi : Option PV) (m : Hp) : ARes :=
  match tix P t, x with
  | .str, .str l => match loOf lo, hiOf l.length hi with
    | some i, some j => ⟨0 ≤ i ∧ i ≤ j ∧ j ≤ l.length, .str (cut l i j), m⟩
    | _, _ => .fail
  | .slc esz _, .sl _ es => match loOf lo, hiOf es.length hi with
    | some i, some j => ⟨0 ≤ i ∧ i ≤ j ∧ j ≤ es.length ∧ Sized esz es, .sl .no (cut es i j), m⟩
    | _, _ => .fail
  | .slc esz _, .osl id off len sz => match loOf lo, hiOf len hi with
    | some i, some j => ⟨0 ≤ i ∧ i < j ∧ j ≤ len ∧ esz = sz, .osl id (off + i.toNat * sz) (j.toNat - i.toNat) sz, m⟩
    | _, _ => .fail
  | .arr n esz _, .ptr id off => match loOf lo, hiOf n hi with
    | some i, some j => ⟨0 ≤ i ∧ i < j ∧ j ≤ n, .osl id (off + i.toNat * esz) (j.toNat - i.toNat) esz, m⟩
    | _, _ => .fail
  | _, _ => .fail

def aMakeRow (P : Program) (d : Nat) (t : TypeId) (c : PV) (m : Hp) : ARes :=
  match telem P t, c with
  | some ei, .int _ c => ⟨m.q d = none ∧ 0 ≤ c ∧ (ei.bytes : Int) * c ≤ 281474976710656 ∧ c ≤ 9223372036854775807, .sl (.row d) [], m.setq d (.live 0 ei.size ei.e)⟩
  | _, _ => .fail

section
variable {P : Program} {B : Frm} {S : Stable} {M : Maps} {s : St} {a : Act} {w : World}

theorem extract_list (l : List UInt8) (i j : Nat) : (⟨⟨l⟩⟩ : ByteArray).extract i j = ⟨⟨(l.drop i).take (j - i)⟩⟩ := by
  apply ByteArray.ext
  apply Array.ext'
  rw [Lib.extract_data]

theorem run_sliceBounds {isSlice : Bool} {len cap : Nat} {lo hi : Option Value} {plo phi : Option PV} {i j : Int} (hlo : ∀ v p, lo = some v → plo = some p → RepS S M s.m.q v p) (hhi : ∀ v p, hi = some v → phi = some p → RepS S M s.m.q v p)
    (hl1 : lo.isSome = plo.isSome) (hl2 : hi.isSome = phi.isSome) (h1 : loOf plo = some i) (h2 : hiOf len phi = some j) (g1 : 0 ≤ i) (g2 : i ≤ j) (g3 : j ≤ len) (hc : len ≤ cap) :
    (Instr.sliceBounds isSlice len cap lo hi none).run P w = .ok (i.toNat, j.toNat, cap) w := by
  have hj0 : 0 ≤ j := by omega
  have hjc : j ≤ cap := by omega
  have hij : i ≤ (j.toNat : Int) := by omega
  have hh : ∀ code, (match hi, (none : Option Value) with
      | some v, some _ => Instr.sliceBound v cap .slice3B
      | some v, none => Instr.sliceBound v cap code
      | none, none => Pure.pure len
      | none, some _ => stuck "x").run P w = .ok j.toNat w := by
    intro code
    cases hi with
    | none =>
      cases phi with
      | none => simp only [hiOf, Option.some.injEq] at h2; subst h2; simp
      | some p => simp at hl2
    | some v =>
      cases phi with
      | none => simp at hl2
      | some p =>
        have r := hhi v p rfl rfl
        cases p <;> simp [hiOf] at h2
        subst h2
        rw [r.int_inv]
        simp [Instr.sliceBound, asIntOf, hj0, hjc]
  have hl : ∀ code, (match lo with
      | some v => Instr.sliceBound v j.toNat code
      | none => Pure.pure 0).run P w = .ok i.toNat w := by
    intro code
    cases lo with
    | none =>
      cases plo with
      | none => simp only [loOf, Option.some.injEq] at h1; subst h1; simp
      | some p => simp at hl1
    | some v =>
      cases plo with
      | none => simp at hl1
      | some p =>
        have r := hlo v p rfl rfl
        cases p <;> simp [loOf] at h1
        subst h1
        rw [r.int_inv]
        simp only [Instr.sliceBound, asIntOf, Sem.run_bind, Sem.run_pure, Result.andThen_ok]
        rw [if_pos ⟨g1, hij⟩]
        rfl
  unfold Instr.sliceBounds
  cases hi with
  | none =>
    have e := hh .sliceAlen
    simp only at e
    cases lo with
    | none => have e' := hl .sliceB; simp only at e'; simp only [Sem.run_bind, Sem.run_pure, Result.andThen_ok] at e e' ⊢; simp_all
    | some v => have e' := hl .sliceB; simp only at e'; simp only [Sem.run_bind, Sem.run_pure, Result.andThen_ok] at e e' ⊢; simp_all
  | some u =>
    have e1 := hh .sliceAlen
    have e2 := hh .sliceAcap
    simp only at e1 e2
    cases lo with
    | none => have e' := hl .sliceB; simp only at e'; cases isSlice <;> simp only [Sem.run_bind, Sem.run_pure, Result.andThen_ok, Bool.false_eq_true, if_false, if_true, e1, e2] at e' ⊢ <;> simp_all
    | some v => have e' := hl .sliceB; simp only at e'; cases isSlice <;> simp only [Sem.run_bind, Sem.run_pure, Result.andThen_ok, Bool.false_eq_true, if_false, if_true, e1, e2] at e' ⊢ <;> simp_all

theorem sound_slice (hs : Sim B S M s a w) {t : TypeId} {x : Value} {p : PV} {lo hi : Option Value} {plo phi : Option PV} (hx : RepS S M s.m.q x p) (hxi : ∀ i ∈ p.ids, Live s.m i)
    (hlo : ∀ v p, lo = some v → plo = some p → RepS S M s.m.q v p) (hhi : ∀ v p, hi = some v → phi = some p → RepS S M s.m.q v p) (hl1 : lo.isSome = plo.isSome) (hl2 : hi.isSome = phi.isSome)
    (hok : (aSlice P t p plo phi s.m).ok) : Snd P B S s a w (Instr.sliceAt t x lo hi none) (aSlice P t p plo phi s.m) := by
  revert hok
  unfold aSlice
  split
  · rename_i l heq
    have h1 := tix_str heq
    split
    · rename_i i j e1 e2
      rintro ⟨g1, g2, g3⟩
      rw [hx.str_inv]
      have hb := run_sliceBounds (P := P) (w := w) (isSlice := false) (cap := l.length) hlo hhi hl1 hl2 e1 e2 g1 g2 g3 (Nat.le_refl _)
      refine Snd.clean hs (v := .string ⟨⟨cut l i j⟩⟩) ?_ (.str _)
      have hsz : (⟨⟨l⟩⟩ : ByteArray).size = l.length := rfl
      simp [Instr.sliceAt, run_und h1, Instr.slice, hsz, hb, extract_list, cut]
    · exact fun hok => hok.elim
  · rename_i esz ea tk es heq
    obtain ⟨e, d, ti, h1, rfl, rfl, h2, h3⟩ := tix_slc heq
    split
    · rename_i i j e1 e2
      rintro ⟨g1, g2, g3, g4⟩
      have hr := hx.sl_inv
      obtain ⟨ad, cap, rfl, hcap⟩ := hr.sl_len
      have hb := run_sliceBounds (P := P) (w := w) (isSlice := true) (cap := cap) hlo hhi hl1 hl2 e1 e2 g1 g2 g3 hcap
      have hlen : (cut es i j).length = j.toNat - i.toNat := by simp [cut]; omega
      have hrun : (Instr.sliceAt t (.slice ad es.length cap) lo hi none).run P w = .ok (.slice (if cap = i.toNat then ad else ad.map (·.add (i.toNat * tsz P e))) (j.toNat - i.toNat) (cap - i.toNat)) w := by
        simp [Instr.sliceAt, run_und h1, Instr.slice, hb, run_szo h3]
      refine Snd.clean hs hrun ?_
      by_cases h0 : j.toNat - i.toNat = 0
      · have : cut es i j = [] := List.eq_nil_of_length_eq_zero (by omega)
        rw [this, h0]
        exact .sl0 _ _
      · have hlt : i.toNat < es.length := by omega
        obtain ⟨b, o, cap', vals, ev, hcap', hu, hS, hR⟩ := hr.sl_at hlt
        cases ev
        have e0 : (es.getD i.toNat .any).cells.length = tsz P e := g4 _ (getD_mem hlt)
        rw [e0] at hS hR hu
        rw [if_neg (by omega)]
        simp only [Option.map_some, add_none]
        have gd : ∀ k, k < (cut es i j).length → (cut es i j).getD k .any = es.getD (i.toNat + k) .any := fun k hk => by
          unfold cut
          rw [getD_take (by omega), getD_drop]
        have := Rep.sl (S := S) b (o + i.toNat * tsz P e) (cap - i.toNat) (tsz P e) (cut es i j) (fun k l => vals (i.toNat + k) l) (fun k hk => by rw [gd k hk]; exact hu _ (by omega)) (by omega)
          (fun k l hk hl => by
            have := hS (i.toNat + k) l (by omega) hl
            rw [Nat.add_mul] at this
            rw [← this]
            congr 1
            omega)
          (fun k l hk hl => by rw [gd k hk]; exact hR _ _ (by omega) hl)
        rw [hlen] at this
        exact this
    · exact fun hok => hok.elim
  · rename_i esz ea id off len sz heq
    obtain ⟨e, d, ti, h1, rfl, rfl, h2, h3⟩ := tix_slc heq
    split
    · rename_i i j e1 e2
      rintro ⟨g1, g2, g3, rfl⟩
      obtain ⟨cap, hcap, rfl⟩ := hx.osl_inv
      have hb := run_sliceBounds (P := P) (w := w) (isSlice := true) (cap := cap) hlo hhi hl1 hl2 e1 e2 g1 (by omega) g3 hcap
      refine Snd.pure hs (v := .slice (some ⟨M.φ id, off + i.toNat * tsz P e, none⟩) (j.toNat - i.toNat) (cap - i.toNat)) ?_ (.osl _ _ _ _ _ (by omega)) (by simpa [PV.ids] using hxi)
      have hne : ¬ cap = i.toNat := by omega
      simp [Instr.sliceAt, run_und h1, Instr.slice, hb, run_szo h3, hne, add_none]
    · exact fun hok => hok.elim
  · rename_i n esz ea id off heq
    obtain ⟨e, d, ti, h1, rfl, rfl, h2, h3⟩ := tix_arr heq
    split
    · rename_i i j e1 e2
      rintro ⟨g1, g2, g3⟩
      rw [hx.ptr_inv]
      have hb := run_sliceBounds (P := P) (w := w) (isSlice := false) (cap := n) hlo hhi hl1 hl2 e1 e2 g1 (by omega) g3 (Nat.le_refl _)
      refine Snd.pure hs (v := .slice (some ⟨M.φ id, off + i.toNat * tsz P e, none⟩) (j.toNat - i.toNat) (n - i.toNat)) ?_ (.osl _ _ _ _ _ (by omega)) (by simpa [PV.ids] using hxi)
      have hne : ¬ n = i.toNat := by omega
      simp [Instr.sliceAt, run_und h1, Instr.sureAddr, hb, run_szo h3, hne, add_none]
    · exact fun hok => hok.elim
  · exact fun hok => hok.elim

theorem sound_makeRow (hs : Sim B S M s a w) {d : Nat} {t : TypeId} {k : IntKind} {c : Value} {p : PV} (hc : RepS S M s.m.q c p)
    (hok : (aMakeRow P d t p s.m).ok) : Snd P B S s a w (Instr.makeSlice t (.int k 0) c) (aMakeRow P d t p s.m) := by
  revert hok
  unfold aMakeRow
  split
  · rename_i ei kc n hx
    rintro ⟨g1, g2, g3, g4⟩
    obtain ⟨ti, z, h1, h2, h3, h4, h5, h6, h7, h8⟩ := telem_spec hx
    rw [hc.int_inv]
    have hrun := run_make (P := P) w t ei.e ti z h1 h2 h3 k kc 0 n (Int.le_refl _) g2 (by rw [h6]; exact g3) g4
    have hm : madeCells z.cells (n.toNat * ti.size) = ⟨(madeCells z.cells (n.toNat * ti.size)).toList⟩ := rfl
    have hl : (madeCells z.cells (n.toNat * ti.size)).toList.length = n.toNat * ei.size := by rw [Array.length_toList, size_madeCells, h5]
    have hsim := hs.newRow (d := d) (n := 0) (sz := ei.size) (c := n.toNat) (e := ei.e) (w' := w.alloc (.cells (madeCells z.cells (n.toNat * ti.size)) ei.e)) (.inl g1) (Nat.zero_le _) (by simp only [maxLen]; omega) hl (fun k hk => alloc_heap_old w _ hk) (alloc_heap_new w _)
    have hS : addS S w.heap.size (0 * ei.size) (madeCells z.cells (n.toNat * ti.size)).toList = S := by
      unfold addS
      congr 1
      funext b o
      rw [if_neg (by simp)]
    rw [hS] at hsim
    refine ⟨_, _, S, _, hrun, hsim, ?_, ?_, hs.ext_alloc _⟩
    · refine .row d _ [] (.sl0 _ _) fun n' sz' e' hq => ?_
      simp only [Hp.setq, upd_same] at hq
      cases hq
      refine ⟨Nat.le_refl _, fun _ => ⟨fun h0 => by simp [upd_same] at h0, fun c hc => ?_⟩⟩
      simp only [upd_same, Nat.add_right_cancel_iff] at hc ⊢
      rw [← hc]
      rfl
    · intro i hi
      simp only [PV.ids, List.mem_singleton] at hi
      subst hi
      simp [Live, Hp.setq, Hp.new, upd_same]
  · exact fun hok => hok.elim

/-- a slice that is made whole -/
def aMakeFull (P : Program) (d : Nat) (t : TypeId) (l c : PV) (m : Hp) : ARes :=
  match telem P t, l, c with
  | some ei, .int _ n, .int _ n' => match tbdz P ei.e with
    | some z => ⟨m.h d = none ∧ n = n' ∧ 0 ≤ n ∧ (ei.bytes : Int) * n ≤ 281474976710656 ∧ n ≤ 9223372036854775807 ∧ z.length = ei.size, .osl d 0 n.toNat ei.size, m.new d (List.replicate n.toNat z).flatten⟩
    | none => .fail
  | _, _, _ => .fail
where
  tbdz (P : Program) (e : TypeId) : Option (List PV) := match P.info? e with
    | some i => match i.zero with
      | some z => if (ofVal z).known then some (ofVal z).cells else none
      | none => none
    | none => none

theorem rep_flat {z : Value} {zs : List PV} {size : Nat} (hz : RepL S M s.m.q z.cells.toList zs) (hl : zs.length = size) (hpos : 0 < size) : ∀ n, RepL S M s.m.q (madeCells z.cells (n * size)).toList (List.replicate n zs).flatten := by
  intro n
  have hzl : z.cells.size = size := by have := hz.1; simpa [hl] using this
  refine ⟨by rw [Array.length_toList, size_madeCells]; simp [hl], fun k hk => ?_⟩
  have hk' : k < n * size := by simpa [hl] using hk
  have hmod : k % size < size := Nat.mod_lt _ hpos
  have hdiv : k / size < n := by rw [Nat.div_lt_iff_lt_mul hpos]; exact hk'
  have e1 : (madeCells z.cells (n * size)).toList.getD k undef = z.cells.toList.getD (k % size) undef := by
    rw [getD_lt (by rw [Array.length_toList, size_madeCells]; exact hk'), getD_lt (by simpa [hzl] using hmod)]
    simp only [madeCells, Array.getElem_toList, Array.getElem_map, Array.getElem_range, hzl]
    rw [getElem!_pos _ _ (by rw [hzl]; exact hmod)]
  have e2 : ∀ (n k : Nat), k < n * size → ((List.replicate n zs).flatten).getD k .any = zs.getD (k % size) .any := by
    intro n
    induction n with
    | zero => intro k hk; simp at hk
    | succ n ih =>
      intro k hk
      rw [List.replicate_succ, List.flatten_cons]
      by_cases hlt : k < size
      · rw [getD_append_left (by omega), Nat.mod_eq_of_lt hlt]
      · rw [getD_append_right (by omega), ih _ (by rw [Nat.add_mul] at hk; omega), hl, ← Nat.mod_eq_sub_mod (by omega)]
  rw [e1, e2 n k hk']
  exact hz.2 _ (by omega)

theorem sound_makeFull (hs : Sim B S M s a w) {d : Nat} {t : TypeId} {l c : Value} {pl pc : PV} (hl : RepS S M s.m.q l pl) (hc : RepS S M s.m.q c pc)
    (hok : (aMakeFull P d t pl pc s.m).ok) : Snd P B S s a w (Instr.makeSlice t l c) (aMakeFull P d t pl pc s.m) := by
  revert hok
  unfold aMakeFull
  split
  · rename_i ei kl n kc m hx
    split
    · rename_i z hz
      rintro ⟨g1, rfl, g2, g3, g4, g5⟩
      obtain ⟨ti, zv, h1, h2, h3, h4, h5, h6, h7, h8⟩ := telem_spec hx
      rw [hl.int_inv, hc.int_inv]
      have hrun := run_make (P := P) w t ei.e ti zv h1 h2 h3 kl kc n n g2 (Int.le_refl _) (by rw [h6]; exact g3) g4
      unfold aMakeFull.tbdz at hz
      rw [h2] at hz
      simp only [h3] at hz
      split at hz
      · rename_i hk
        cases hz
        obtain ⟨zs, e1, e2, e3⟩ := (RepS.clean (S := S) (M := M) (q := s.m.q) (rep_ofVal S zv)).cells_inv hk
        have hzr : RepL S M s.m.q zv.cells.toList (ofVal zv).cells := by rw [e1]; exact ⟨e2, e3⟩
        have hrl := rep_flat hzr g5 h7 n.toNat
        rw [h5] at hrun
        have hids : ∀ c ∈ (List.replicate n.toNat (ofVal zv).cells).flatten, ∀ i ∈ c.ids, Live s.m i := fun c hc i hi => by
          obtain ⟨l, hl', hcl⟩ := List.mem_flatten.1 hc
          have := List.eq_of_mem_replicate hl'
          subst this
          have := cells_ids hcl hi
          rw [ids_ofVal] at this
          cases this
        refine ⟨_, _, S, _, hrun, hs.alloc (t := ei.e) g1 hrl.1 hrl.2 hids, ?_, ?_, hs.ext_alloc _⟩
        · have : RepS S { M with φ := upd M.φ d w.heap.size } s.m.q (.slice (some ⟨upd M.φ d w.heap.size d, 0, none⟩) n.toNat n.toNat) (.osl d 0 n.toNat ei.size) := .osl d 0 _ _ _ (Nat.le_refl _)
          rwa [upd_same] at this
        · intro i hi
          simp only [PV.ids, List.mem_singleton] at hi
          subst hi
          simp [Live, Hp.setq, Hp.new, upd_same]
      · cases hz
    · exact fun hok => hok.elim
  · exact fun hok => hok.elim
end
end Go.PL

namespace Go.PL
open Go.RowKit
set_option linter.unusedVariables false
section
variable {P : Program} {B : Frm} {S : Stable} {M : Maps} {s : St} {a : Act} {w : World}

theorem idsL_nil {cs : List PV} (h : PV.idsL cs = []) {i : Nat} (hi : i < cs.length) : (cs.getD i .any).ids = [] := by
  have hm := getD_mem (d := PV.any) hi
  apply List.eq_nil_iff_forall_not_mem.2
  intro r hr
  have := PV.mem_idsL.2 ⟨_, hm, hr⟩
  rw [h] at this
  cases this

/-- a value that leans on nothing of the call's own -/
theorem RepS.alone {q : Rows} {v : Value} {p : PV} (r : RepS S M q v p) (h : p.ids = []) : Rep S v p := by
  induction r with
  | clean r => exact r
  | ptr id off => simp [PV.ids] at h
  | osl id off len cap sz hc => simp [PV.ids] at h
  | row id v es r _ => simp [PV.ids] at h
  | agg vs cs hl _ ih => exact .agg vs cs hl (fun i hi => ih i hi (idsL_nil h hi))
  | tup vs cs hl _ ih => exact .tup vs cs hl (fun i hi => ih i hi (idsL_nil h hi))
  | fn f vs cs hl _ ih => exact .fn f vs cs hl (fun i hi => ih i hi (idsL_nil h hi))

theorem Sim.freeze (hs : Sim B S M s a w) {id : Nat} {cs : List PV} (hid : s.m.h id = some cs) (hp : PV.idsL cs = []) :
    ∃ S', Sim B S' M (s.with (s.m.freeze id)) a w ∧ Ext B S S' w w := by
  cases hz : s.m.z id with
  | true =>
    have e : s.m.freeze id = s.m := by
      have : upd s.m.z id true = s.m.z := by
        funext k; by_cases e : id = k
        · subst e; simp [upd, hz]
        · simp [upd, e]
      unfold Hp.freeze
      rw [this]
    exact ⟨S, by rw [e]; exact hs, Ext.refl _ _ _⟩
  | false =>
    obtain ⟨h1, h2, ⟨vs, t, h3, h4, h5⟩, h6⟩ := hs.own hid hz
    have hle : SLe S (addS S (M.φ id) vs.length vs) := .cells rfl fun b o v hv => by
      rw [addS_c]
      rw [if_neg]
      · exact hv
      · rintro ⟨rfl, _⟩; rw [h2 o] at hv; cases hv
    have rep : ∀ {v p}, RepS S M s.m.q v p → RepS (addS S (M.φ id) vs.length vs) M s.m.q v p := fun r => r.heap hle (fun _ _ => rfl) (fun _ _ n sz e h => .inl ⟨h, rfl, rfl⟩)
    have e4 : ∀ i, i ≠ id → (s.m.freeze id).z i = s.m.z i := fun i h => upd_ne _ _ (Ne.symm h)
    have n2 : (s.m.freeze id).z id = true := upd_same _ _ _
    have other : ∀ {b o}, b ≠ M.φ id → addS S (M.φ id) vs.length vs b o = S b o := fun {b o} h => by
      rw [addS_c, if_neg (fun hh => h hh.1)]
    refine ⟨addS S (M.φ id) vs.length vs, ⟨hs.defers, hs.hn, hs.hB, hs.stable.move hle (fun b c hc => (hs.stable.o b c hc).2.1) ⟨fun b o v hv => ?_, hs.stable.s.m⟩ (fun _ _ _ => rfl) (fun _ _ _ => rfl), fun i => rep (hs.fr i), hs.ids, fun i ds hd => ?_, fun i r hr => ?_, ?_, hs.injq, ?_⟩, hle, ?_, BelowF.refl _ _⟩
    · rw [addS_c] at hv
      split at hv
      · rename_i hb
        obtain ⟨rfl, ho⟩ := hb
        rw [cell_of h3, List.getElem?_eq_getElem ho, ← hv, getD_lt ho]
      · exact hs.stable b o v hv
    · simp only [St.with] at hd ⊢
      by_cases e : i = id
      · subst e
        rw [n2]
        have : ds = cs := by
          have hd' : s.m.h i = some ds := hd
          rw [hid] at hd'
          exact (Option.some.inj hd').symm
        subst this
        refine ⟨fun j => vs.getD j undef, fun j hj => ⟨?_, ?_⟩⟩
        · rw [addS_c, if_pos ⟨rfl, by omega⟩]
        · exact ((h5 j hj).alone (idsL_nil hp hj)).mono hle
      · rw [e4 i e]
        have hb' := hs.blk i ds hd
        cases hzi : s.m.z i with
        | false =>
          rw [hzi] at hb'
          obtain ⟨g1, g2, ⟨us, t', g3, g4, g5⟩, g6⟩ := hb'
          have hne := hs.inj i id _ _ hd hid hzi hz e
          exact ⟨g1, fun o => by rw [other hne]; exact g2 o, ⟨us, t', g3, g4, fun k hk => rep (g5 k hk)⟩, g6⟩
        | true =>
          rw [hzi] at hb'
          obtain ⟨vals, hv⟩ := hb'; exact ⟨vals, fun j hj => ⟨hle _ _ _ (hv j hj).1, (hv j hj).2.mono hle⟩⟩
    · have hr' := hs.row i r hr
      cases r with
      | live n sz et =>
        obtain ⟨g1, g2⟩ := hr'
        refine ⟨g1, fun c hk => ?_⟩
        obtain ⟨k0, k0', k1, ⟨us, k2, k3⟩, k4⟩ := g2 c hk
        have hne := hs.injx id i _ _ _ _ hid hz hr (by omega)
        exact ⟨k0, k0', k1, ⟨us, k2, k3⟩, fun o ho => by rw [other (Ne.symm hne)]; exact k4 o ho⟩
      | dead => trivial
    · intro i k b b' hbi hbk zi zk hik
      simp only [St.with] at zi zk
      have hi' : i ≠ id := fun e => by subst e; rw [n2] at zi; cases zi
      have hk' : k ≠ id := fun e => by subst e; rw [n2] at zk; cases zk
      rw [e4 i hi'] at zi; rw [e4 k hk'] at zk
      exact hs.inj i k _ _ hbi hbk zi zk hik
    · intro i k b n sz e hbi zi hq hk
      simp only [St.with] at zi
      have hi' : i ≠ id := fun e => by subst e; rw [n2] at zi; cases zi
      rw [e4 i hi'] at zi
      exact hs.injx i k _ _ _ _ hbi zi hq hk
    · intro b hb
      exact ⟨fun o => other (fun e => h1 (e ▸ hb)), rfl⟩

/-- what a function value captures is handed out -/
def frozenBy (m : Hp) : List PV → Hp
  | [] => m
  | .ptr id _ :: cs => frozenBy (m.freeze id) cs
  | _ :: cs => frozenBy m cs
def capsOk (m : Hp) : List PV → Prop
  | [] => True
  | .ptr id _ :: cs => (match m.h id with | some ds => PV.idsL ds = [] | none => False) ∧ capsOk m cs
  | c :: cs => c.ids = [] ∧ capsOk m cs

theorem capsOk_freeze {m : Hp} (d : Nat) : ∀ {cs : List PV}, capsOk m cs → capsOk (m.freeze d) cs
  | [], _ => trivial
  | c :: cs, h => by
    cases c <;> exact ⟨h.1, capsOk_freeze d h.2⟩

theorem Sim.frozenBy (hs : Sim B S M s a w) : ∀ (cs : List PV), capsOk s.m cs → ∃ S', Sim B S' M (s.with (frozenBy s.m cs)) a w ∧ Ext B S S' w w := by
  intro cs
  induction cs generalizing s S with
  | nil => intro _; exact ⟨S, hs, Ext.refl _ _ _⟩
  | cons c cs ih =>
    intro hok
    have skip : ∀ m', PL.frozenBy s.m (c :: cs) = PL.frozenBy m' cs → (∃ S1, Sim B S1 M (s.with m') a w ∧ Ext B S S1 w w) → capsOk m' cs → ∃ S', Sim B S' M (s.with (PL.frozenBy s.m (c :: cs))) a w ∧ Ext B S S' w w := by
      intro m' e h1 h2
      obtain ⟨S1, hs1, he1⟩ := h1
      obtain ⟨S2, hs2, he2⟩ := ih hs1 h2
      refine ⟨S2, ?_, he1.trans he2⟩
      rw [e]
      exact hs2
    cases c with
    | ptr id off =>
      obtain ⟨h1, h2⟩ := hok
      cases hid : s.m.h id with
      | none => rw [hid] at h1; exact h1.elim
      | some ds =>
        rw [hid] at h1
        exact skip (s.m.freeze id) rfl (hs.freeze hid h1) (capsOk_freeze id h2)
    | _ => exact skip s.m rfl ⟨S, hs, Ext.refl _ _ _⟩ hok.2

theorem frozenBy_h (m : Hp) : ∀ cs, (frozenBy m cs).h = m.h
  | [] => rfl
  | c :: cs => by
    cases c <;> first | exact frozenBy_h m cs | exact frozenBy_h (m.freeze _) cs
theorem frozenBy_q (m : Hp) : ∀ cs, (frozenBy m cs).q = m.q
  | [] => rfl
  | c :: cs => by
    cases c <;> first | exact frozenBy_q m cs | exact frozenBy_q (m.freeze _) cs

mutual
/-- the value as it is handed to a callee: no row is told; a block that is handed out is told by what it holds -/
def PV.give (m : Hp) : PV → PV
  | .sl _ es => .sl .no es
  | .ptr id off => match m.z id, m.h id with
    | true, some cs => .rptr (cs.drop off)
    | _, _ => .ptr id off
  | .agg cs => .agg (PV.giveL m cs)
  | .tup cs => .tup (PV.giveL m cs)
  | .fn f cs => .fn f (PV.giveL m cs)
  | p => p
def PV.giveL (m : Hp) : List PV → List PV
  | [] => []
  | c :: cs => PV.give m c :: PV.giveL m cs
end
mutual
def PV.givable (m : Hp) : PV → Prop
  | .ptr id _ => m.z id = true ∧ m.h id ≠ none
  | .osl _ _ _ _ => False
  | .agg cs => PV.givableL m cs
  | .tup cs => PV.givableL m cs
  | .fn _ cs => PV.givableL m cs
  | _ => True
def PV.givableL (m : Hp) : List PV → Prop
  | [] => True
  | c :: cs => PV.givable m c ∧ PV.givableL m cs
end

theorem PV.giveL_length (m : Hp) : ∀ (cs : List PV), (PV.giveL m cs).length = cs.length
  | [] => rfl
  | c :: cs => by simp [PV.giveL, PV.giveL_length m cs]
theorem PV.giveL_getD (m : Hp) : ∀ (cs : List PV) (i : Nat), i < cs.length → (PV.giveL m cs).getD i .any = (cs.getD i .any).give m
  | [], i, h => by simp at h
  | c :: cs, 0, _ => by simp [PV.giveL]
  | c :: cs, i + 1, h => by simpa [PV.giveL] using PV.giveL_getD m cs i (by simpa using h)
theorem PV.givableL_getD {m : Hp} : ∀ {cs : List PV} (h : PV.givableL m cs) (i : Nat), i < cs.length → (cs.getD i .any).givable m
  | [], _, i, h => by simp at h
  | c :: cs, hc, 0, _ => by simpa using hc.1
  | c :: cs, hc, i + 1, h => by simpa using PV.givableL_getD hc.2 i (by simpa using h)

theorem Rep.give (m : Hp) {v : Value} {p : PV} (r : Rep S v p) : Rep S v (p.give m) := by
  induction r with
  | agg vs cs hl _ ih => exact .agg vs _ (by rw [PV.giveL_length]; exact hl) (fun i hi => by rw [PV.giveL_length] at hi; rw [PV.giveL_getD m cs i hi]; exact ih i hi)
  | tup vs cs hl _ ih => exact .tup vs _ (by rw [PV.giveL_length]; exact hl) (fun i hi => by rw [PV.giveL_length] at hi; rw [PV.giveL_getD m cs i hi]; exact ih i hi)
  | fn f vs cs hl _ ih => exact .fn f vs _ (by rw [PV.giveL_length]; exact hl) (fun i hi => by rw [PV.giveL_length] at hi; rw [PV.giveL_getD m cs i hi]; exact ih i hi)
  | any v => exact .any v
  | int k n => exact .int k n
  | bool b => exact .bool b
  | str l => exact .str l
  | flt k b => exact .flt k b
  | cpx k a b => exact .cpx k a b
  | sl0 a cap => exact .sl0 a cap
  | slnil => exact .sl0 none 0
  | sl b o cap sz es vals h1 h2 h3 h4 _ => exact .sl b o cap sz es vals h1 h2 h3 h4
  | rptr b o cs vals h1 h2 _ => exact .rptr b o cs vals h1 h2
  | nilp => exact .nilp
  | nilfn => exact .nilfn
  | nilmap => exact .nilmap
  | mref b => exact .mref b
  | iptr b => exact .iptr b
  | rmap b es ks vs h1 h2 h3 h4 h5 h6 _ _ => exact .rmap b es ks vs h1 h2 h3 h4 h5 h6

theorem RepS.give (hs : Sim B S M s a w) {v : Value} {p : PV} (r : RepS S M s.m.q v p) (h : p.givable s.m) : Rep S v (p.give s.m) := by
  induction r with
  | clean r => exact r.give s.m
  | ptr id off =>
    obtain ⟨h1, h2⟩ := h
    cases hid : s.m.h id with
    | none => exact absurd hid h2
    | some cs =>
      have hb := hs.blk id cs hid
      rw [h1] at hb
      obtain ⟨vals, hv⟩ := hb
      simp only [PV.give, h1, hid]
      refine .rptr (M.φ id) off _ (fun j => vals (off + j)) (fun j hj => ?_) (fun j hj => ?_)
      · simp only [List.length_drop] at hj
        exact (hv (off + j) (by omega)).1
      · simp only [List.length_drop] at hj
        rw [getD_drop]
        exact (hv (off + j) (by omega)).2
  | osl id off len cap sz hc => exact h.elim
  | row id v es r _ => exact r
  | agg vs cs hl _ ih => exact .agg vs _ (by rw [PV.giveL_length]; exact hl) (fun i hi => by rw [PV.giveL_length] at hi; rw [PV.giveL_getD s.m cs i hi]; exact ih i hi (PV.givableL_getD h i hi))
  | tup vs cs hl _ ih => exact .tup vs _ (by rw [PV.giveL_length]; exact hl) (fun i hi => by rw [PV.giveL_length] at hi; rw [PV.giveL_getD s.m cs i hi]; exact ih i hi (PV.givableL_getD h i hi))
  | fn f vs cs hl _ ih => exact .fn f vs _ (by rw [PV.giveL_length]; exact hl) (fun i hi => by rw [PV.giveL_length] at hi; rw [PV.giveL_getD s.m cs i hi]; exact ih i hi (PV.givableL_getD h i hi))

end
end Go.PL

namespace Go.PL
open Go.RowKit
set_option linter.unusedVariables false

def basicB (P : Program) (t : TypeId) : Bool := match P.underlying t with | some (.int _) | some .string | some .bool => true | _ => false
/-- a map's type: the leaves of its keys, the zero value of what it holds -/
def tmap (P : Program) (t : TypeId) : Option (List Leaf × PV) :=
  match P.underlying t with
  | some (.map kt et) => match P.underlying kt with
    | some (.struct fs) => match leaves P eqDepth kt, P.info? et with
      | some ls, some i => match i.zero with
        | some z => if fs.toList.all fun f => basicB P f.type && (decide (f.offset < ls.length) && decide (tsz P f.type = 1)) then some (ls, ofVal z) else none
        | none => none
      | _, _ => none
    | _ => none
  | _ => none
/-- what a map holds -/
def mapOf (m : Hp) : PV → Option MapC
  | .rmap ks vs => some ⟨ks, vs⟩
  | .mref b => m.o b
  | _ => none
/-- where a key stands -/
def findP (ls : List Leaf) (a : List PV) : List PV → Nat → Option (Option Nat)
  | [], _ => some none
  | .agg b :: xs, i => match eqLeaves ls a b with
    | some true => some (some i)
    | some false => findP ls a xs (i + 1)
    | none => none
  | _ :: _, _ => none
def lookV (z : PV) (vs : List PV) (ok : Bool) : Option Nat → PV
  | some i => if ok then .tup [vs.getD i .any, .bool true] else vs.getD i .any
  | none => if ok then .tup [z, .bool false] else z
def aLookup (P : Program) (t : TypeId) (x k : PV) (ok : Bool) (m : Hp) : ARes :=
  match tmap P t, mapOf m x, k with
  | some (ls, z), some c, .agg a => match findP ls a c.ks 0 with
    | some r => ⟨a.length = ls.length, lookV z c.vs ok r, m⟩
    | none => .fail
  | _, _, _ => .fail
def aMapUpdate (P : Program) (t : TypeId) (x k v : PV) (m : Hp) : ARes :=
  match x with
  | .mref b => match tmap P t, m.o b, k with
    | some (ls, _), some c, .agg a => match findP ls a c.ks 0 with
      | some (some i) => ⟨a.length = ls.length ∧ PV.cleanL a = true ∧ v.clean = true, .tup [], { m with o := upd m.o b (some ⟨c.ks, c.vs.set i v.share⟩) }⟩
      | some none => ⟨a.length = ls.length ∧ PV.cleanL a = true ∧ v.clean = true, .tup [], { m with o := upd m.o b (some ⟨c.ks ++ [.agg (PV.shareL a)], c.vs ++ [v.share]⟩) }⟩
      | none => .fail
    | _, _, _ => .fail
  | _ => .fail
/-- what the map of a walk holds: told with the walk where it is written no more -/
def mapIt (m : Hp) (it : IterC) : Option MapC := match it.c with
  | some c => some c
  | none => m.o it.b
/-- the entry at which a walk stands -/
def aEntry (x : PV) (m : Hp) : ARes :=
  match x with
  | .iptr b => match m.it b with
    | some it => match mapIt m it, it.seen.getLast? with
      | some c, some i => ⟨c.ks.length = it.n ∧ i < c.ks.length, .tup [c.ks.getD i .any, c.vs.getD i .any], m⟩
      | _, _ => .fail
    | none => .fail
  | _ => .fail

def isMapPV : PV → Bool
  | .mref _ => true
  | .rmap _ _ => true
  | _ => false
def tmapB (P : Program) (t : TypeId) : Bool := match P.underlying t with | some (.map _ _) => true | _ => false
def aMapLen (P : Program) (t : TypeId) (x : PV) (m : Hp) : ARes :=
  match mapOf m x with
  | some c => ⟨tmapB P t = true, .int .i64 c.ks.length, m⟩
  | none => .fail

section
variable {P : Program} {B : Frm} {S : Stable} {M : Maps} {s : St} {a : Act} {w : World}

theorem tmap_spec {t : TypeId} {ls : List Leaf} {z : PV} (h : tmap P t = some (ls, z)) : ∃ kt et fs i zv, P.underlying t = some (.map kt et) ∧ P.underlying kt = some (.struct fs) ∧ leaves P eqDepth kt = some ls ∧ P.info? et = some i ∧ i.zero = some zv ∧ z = ofVal zv ∧
    ∀ f ∈ fs.toList, basicB P f.type = true ∧ f.offset < ls.length ∧ tsz P f.type = 1 := by
  unfold tmap at h
  split at h
  · rename_i kt et h1
    split at h
    · rename_i fs h2
      split at h
      · rename_i l i h3 h4
        split at h
        · rename_i zv h5
          split at h
          · rename_i h6
            simp only [Option.some.injEq, Prod.mk.injEq] at h
            obtain ⟨rfl, rfl⟩ := h
            exact ⟨kt, et, fs, i, zv, h1, h2, h3, h4, h5, rfl, fun f hf => by
              have := List.all_eq_true.1 h6 f hf
              simpa using this⟩
          · cases h
        · cases h
      · cases h
    · cases h
  · cases h

theorem mapOf_spec (hs : Sim B S M s a w) {v : Value} {x : PV} {c : MapC} (hr : RepS S M s.m.q v x) (hm : mapOf s.m x = some c) :
    ∃ b es, v = .map (some b) ∧ w.heap[b]? = some (.map ⟨es⟩ es.length) ∧ es.length = c.ks.length ∧ c.vs.length = c.ks.length ∧
      (∀ i, i < c.ks.length → (es.getD i default).born = i) ∧ (∀ i, i < c.ks.length → Rep S (es.getD i default).key (c.ks.getD i .any)) ∧ (∀ i, i < c.ks.length → Rep S (es.getD i default).val (c.vs.getD i .any)) := by
  cases x with
  | rmap ks vs =>
    simp only [mapOf, Option.some.injEq] at hm
    subst hm
    cases hr with
    | clean r =>
      cases r with
      | rmap b es _ _ hS hk hv hb hK hV => exact ⟨b, es, rfl, hs.stable.s.m b es hS, hk, hv, hb, hK, hV⟩
  | mref b =>
    simp only [mapOf] at hm
    obtain ⟨_, _, es, h1, h2, h3, h4, h5, h6⟩ := hs.stable.o b c hm
    have e : v = .map (some b) := by cases hr with | clean r => cases r; rfl
    exact ⟨b, es, e, h1, h2, h3, h4, h5, h6⟩
  | _ => simp [mapOf] at hm

theorem sound_mapLen (hs : Sim B S M s a w) {t ty : TypeId} {u : Value} {p : PV} (hu : RepS S M s.m.q u p) (hok : (aMapLen P t p s.m).ok) : Snd P B S s a w (Builtin.len_ #[t] ty #[u]) (aMapLen P t p s.m) := by
  revert hok
  unfold aMapLen
  split
  · rename_i c hm
    intro hk
    simp only at hk
    obtain ⟨b, es, rfl, e1, e2, _⟩ := mapOf_spec hs hu hm
    unfold tmapB at hk
    split at hk
    · rename_i k e h1
      have hg := MapKept.run_getObj_map (P := P) e1
      refine Snd.clean hs (v := .int .i64 c.ks.length) ?_ (.int _ _)
      simp [Builtin.len_, run_underlying h1, hg, goInt, e2]
    · cases hk
  · exact fun h => h.elim

theorem run_checkKey_flat {kt : TypeId} {fs : Array Field} {vs : List Value} (hu : P.underlying kt = some (.struct fs)) (hf : ∀ f ∈ fs.toList, basicB P f.type = true ∧ f.offset < vs.length ∧ tsz P f.type = 1) (em : Bool) (n : Nat) (w : World) :
    (Instr.checkKey em (n + 2) kt (.agg ⟨vs⟩)).run P w = .ok () w := by
  obtain ⟨fs⟩ := fs
  have step : ∀ f ∈ fs, ∃ v, (part f.type ⟨vs⟩ f.offset).run P w = .ok v w ∧ (Instr.checkKey em (n + 1) f.type v).run P w = .ok () w := fun f hm => by
    obtain ⟨h1, h2, h3⟩ := hf f hm
    have hb : ∃ d, P.underlying f.type = some d ∧ tagg P f.type = false ∧ ∀ v, (Instr.checkKey em (n + 1) f.type v).run P w = .ok () w := by
      unfold basicB at h1
      split at h1
      · rename_i k hk; exact ⟨_, hk, by simp [tagg, hk], fun v => by simp [Instr.checkKey, run_underlying hk]⟩
      · rename_i hk; exact ⟨_, hk, by simp [tagg, hk], fun v => by simp [Instr.checkKey, run_underlying hk]⟩
      · rename_i hk; exact ⟨_, hk, by simp [tagg, hk], fun v => by simp [Instr.checkKey, run_underlying hk]⟩
      · cases h1
    obtain ⟨d, hd, ht, hc⟩ := hb
    exact ⟨_, run_part_val hd (by omega) (fun _ => h3) w, hc _⟩
  have loop : ∀ (l : List Field), (∀ f ∈ l, f ∈ fs) → (forIn l PUnit.unit (fun f (_ : PUnit) => (if f.name ≠ "_" then (do let x ← part f.type ⟨vs⟩ f.offset; Instr.checkKey em (n + 1) f.type x; Pure.pure (ForInStep.yield PUnit.unit)) else Pure.pure (ForInStep.yield PUnit.unit) : Sem (ForInStep PUnit)))).run P w = .ok PUnit.unit w := by
    intro l
    induction l with
    | nil => intro _; simp
    | cons f l ih =>
      intro hl
      obtain ⟨v, h1, h2⟩ := step f (hl f (by simp))
      rw [List.forIn_cons]
      by_cases hn : f.name ≠ "_"
      · simp only [hn, ne_eq, not_false_eq_true, if_true, Sem.run_bind, h1, h2, Result.andThen_ok, Sem.run_pure]
        simpa using ih (fun g hg => hl g (by simp [hg]))
      · simp only [hn, if_false, Sem.run_bind, Result.andThen_ok, Sem.run_pure]
        simpa using ih (fun g hg => hl g (by simp [hg]))
  have := loop fs (fun _ h => h)
  unfold Instr.checkKey
  simp only [Sem.run_bind, run_underlying hu, Result.andThen_ok]
  simp at this ⊢
  rw [this]
  rfl

theorem find_ok {kt : TypeId} {ls : List Leaf} {vs : List Value} {cs : List PV} {q : Rows} (hl : leaves P eqDepth kt = some ls) (ht : tagg P kt = true) (hk : RepL S M q vs cs) (w : World) :
    ∀ (es : List MapEntry) (ks : List PV) (i : Nat) (r : Option Nat), es.length = ks.length → (∀ j, j < ks.length → Rep S (es.getD j default).key (ks.getD j .any)) → findP ls cs ks i = some r →
      (Instr.findAsking kt (.agg ⟨vs⟩) es i).run P w = .ok (r.map fun j => (j, (es.getD (j - i) default).val)) w ∧ (∀ j, r = some j → i ≤ j ∧ j < i + ks.length ∧ ∃ ds, ks.getD (j - i) .any = .agg ds ∧ eqLeaves ls cs ds = some true)
  | [], [], i, r, _, _, h => by
    simp only [findP, Option.some.injEq] at h
    subst h
    exact ⟨by simp [Instr.findAsking], by simp⟩
  | e :: es, k :: ks, i, r, hlen, hK, h => by
    have hk0 := hK 0 (by simp)
    simp only [List.getD_cons_zero] at hk0
    cases k with
    | agg ds =>
      simp only [findP] at h
      obtain ⟨us, hus, hl2, hru⟩ := (RepS.clean (S := S) (M := M) (q := q) hk0).agg_inv
      have heq : ∀ {b}, eqLeaves ls cs ds = some b → (Op.equal kt (.agg ⟨vs⟩) e.key).run P w = .ok b w := fun {b} hb => by
        have := eq_ok (S := S) (M := M) (h := q) eqDepth kt ls hl Op.maxDepth (by decide) vs us cs ds b hk ⟨hl2, hru⟩ hb w
        rw [hus]
        simpa [cellsVal, ht, Op.equal] using this
      cases hb : eqLeaves ls cs ds with
      | none => rw [hb] at h; cases h
      | some b =>
        rw [hb] at h
        cases b with
        | true =>
          simp only [Option.some.injEq] at h
          subst h
          refine ⟨by simp [Instr.findAsking, heq hb], fun j hj => ?_⟩
          cases hj
          exact ⟨Nat.le_refl _, by simp, ds, by simp, hb⟩
        | false =>
          simp only at h
          obtain ⟨h1, h2⟩ := find_ok hl ht hk w es ks (i + 1) r (by simpa using hlen) (fun j hj => by simpa using hK (j + 1) (by simpa using hj)) h
          refine ⟨?_, fun j hj => ?_⟩
          · simp only [Instr.findAsking, Sem.run_bind, heq hb, Result.andThen_ok, Bool.false_eq_true, if_false, h1]
            cases r with
            | none => rfl
            | some j =>
              obtain ⟨g1, g2, _⟩ := h2 j rfl
              have : j - i = (j - (i + 1)) + 1 := by omega
              simp only [Option.map_some, this, List.getD_cons_succ]
          · obtain ⟨g1, g2, ds', g3, g4⟩ := h2 j hj
            have : j - i = (j - (i + 1)) + 1 := by omega
            exact ⟨by omega, by simp; omega, ds', by rw [this, List.getD_cons_succ]; exact g3, g4⟩
    | _ => simp [findP] at h
  | [], _ :: _, _, _, hlen, _, _ => by simp at hlen
  | _ :: _, [], _, _, hlen, _, _ => by simp at hlen

theorem sound_lookup (hs : Sim B S M s a w) {t : TypeId} {u v : Value} {x k : PV} {ok : Bool} (hu : RepS S M s.m.q u x) (hv : RepS S M s.m.q v k) (hok : (aLookup P t x k ok s.m).ok) : Snd P B S s a w (Instr.lookup t u v ok) (aLookup P t x k ok s.m) := by
  revert hok
  unfold aLookup
  split
  · rename_i ls z c cs h1 h2
    split
    · rename_i r hr
      intro hlen
      obtain ⟨kt, et, fs, i, zv, t1, t2, t3, t4, t5, rfl, t6⟩ := tmap_spec h1
      obtain ⟨b, es, rfl, e1, e2, e3, e4, e5, e6⟩ := mapOf_spec hs hu h2
      obtain ⟨vs, rfl, hl, hrv⟩ := hv.agg_inv
      have ht : tagg P kt = true := by simp [tagg, t2]
      obtain ⟨f1, f2⟩ := find_ok (S := S) (M := M) (q := s.m.q) t3 ht ⟨hl, hrv⟩ w es c.ks 0 r e2 e5 hr
      have hck := run_checkKey_flat (vs := vs) t2 (fun f hf => by rw [hl, hlen]; exact t6 f hf) (⟨es⟩ : Array MapEntry).isEmpty 9998 w
      have hfk : (Instr.findKey kt (.agg ⟨vs⟩) es).run P w = .ok (r.map fun j => (j, (es.getD (j - 0) default).val)) w := by
        rw [run_findKey_eq w (by rw [t2]) (.agg ⟨vs⟩) es]; exact f1
      have hz : (zeroValue et).run P w = .ok zv w := by simp [zeroValue, run_inf t4, t5]
      have hg := MapKept.run_getObj_map (P := P) e1
      cases r with
      | none =>
        refine Snd.clean hs (v := if ok then .tuple #[zv, .bool false] else zv) ?_ ?_
        · simp only [Instr.lookup, Sem.run_bind, run_underlying t1, Result.andThen_ok, hg, Sem.run_pure, hck, hfk, Option.map_none, hz]
        · cases ok
          · exact rep_ofVal S zv
          · refine .tup [zv, .bool false] [ofVal zv, .bool false] rfl (fun i hi => ?_)
            match i, hi with
            | 0, _ => exact rep_ofVal S zv
            | 1, _ => exact .bool _
      | some j =>
        obtain ⟨_, g2, _⟩ := f2 j rfl
        have hval := e6 j (by omega)
        refine Snd.clean hs (v := if ok then .tuple #[(es.getD j default).val, .bool true] else (es.getD j default).val) ?_ ?_
        · simp only [Instr.lookup, Sem.run_bind, run_underlying t1, Result.andThen_ok, hg, Sem.run_pure, hck, hfk, Option.map_some, Nat.sub_zero]
        · cases ok
          · exact hval
          · refine .tup [_, .bool true] [_, .bool true] rfl (fun i hi => ?_)
            match i, hi with
            | 0, _ => exact hval
            | 1, _ => exact .bool _
    · exact fun h => h.elim
  · exact fun h => h.elim

/-- a block that holds a map or a walk, laid anew -/
theorem Sim.special (hs : Sim B S M s a w) {w' : World} {b : Nat} (hb : ∀ vs t f, w.heap[b]? ≠ some (.cells vs t f)) (hw : ∀ k, k ≠ b → w'.heap[k]? = w.heap[k]?) (hsz : w'.heap.size = w.heap.size)
    {o' : Nat → Option MapC} {it' : Nat → Option IterC} (hst : Stab B S w' o' it') : Sim B S M (s.with { s.m with o := o', it := it' }) a w' := by
  refine ⟨hs.defers, hs.hn, fun k hk => by rw [hsz]; exact hs.hB k hk, hst, hs.fr, hs.ids, fun i cs hi => ?_, fun i r hi => ?_, hs.inj, hs.injq, hs.injx⟩
  · have h' := hs.blk i cs hi
    show BlkOk _ _ _ _ _ _ _ (s.m.z i)
    cases hz : s.m.z i with
    | false =>
      rw [hz] at h'
      obtain ⟨g1, g2, ⟨us, t', g3, g4, g5⟩, g6⟩ := h'
      exact ⟨g1, g2, ⟨us, t', by rw [hw _ (fun e => hb _ _ _ (e ▸ g3))]; exact g3, g4, g5⟩, g6⟩
    | true => rw [hz] at h'; exact h'
  · have h' := hs.row i r hi
    cases r with
    | live n sz e =>
      obtain ⟨g1, g2⟩ := h'
      refine ⟨g1, fun c hc => ?_⟩
      obtain ⟨k0, k1, k2, ⟨us, k3, k4⟩, k5⟩ := g2 c hc
      exact ⟨k0, k1, k2, ⟨us, by rw [hw _ (fun e => hb _ _ _ (e ▸ k3))]; exact k3, k4⟩, k5⟩
    | dead => trivial

theorem setObj_at {w : World} {b : Nat} {o o' : Obj} (h : w.heap[b]? = some o) : ({ w with heap := w.heap.setIfInBounds b o' } : World).heap[b]? = some o' ∧ ∀ k, k ≠ b → ({ w with heap := w.heap.setIfInBounds b o' } : World).heap[k]? = w.heap[k]? :=
  MapKept.heap_set h
theorem stabS_special {w' : World} {b : Nat} (hs : StabS S w) (hb : ∀ vs t f, w.heap[b]? ≠ some (.cells vs t f)) (hm : S.m b = none) (hw : ∀ k, k ≠ b → w'.heap[k]? = w.heap[k]?) : StabS S w' := by
  refine ⟨fun k o v h => ?_, fun k es h => ?_⟩
  · have h' := hs.c k o v h
    have hk : k ≠ b := fun e => by
      subst e
      unfold World.cell? at h'
      simp only at h'
      cases h'
    rw [← h']; exact World.cell?_of_block (hw k hk)
  · rw [hw k (fun e => by subst e; rw [hm] at h; cases h)]; exact hs.m k es h

theorem eqLeaf_same {l : Leaf} {c d : PV} {q : Rows} {u v : Value} (h : eqLeaf l c d = some true) (hu : RepS S M q u c) (hv : RepS S M q v d) : u = v ∧ ∀ n, Instr.sameBits n v v = true := by
  cases l with
  | int =>
    obtain ⟨k, x, y, rfl, rfl, e⟩ := eqLeaf_int h
    have e : x = y := by simpa using e.symm
    subst e
    exact ⟨by rw [hu.int_inv, hv.int_inv], fun n => by rw [hv.int_inv]; simp [Instr.sameBits]⟩
  | bool =>
    obtain ⟨x, y, rfl, rfl, e⟩ := eqLeaf_bool h
    have e : x = y := by simpa using e.symm
    subst e
    exact ⟨by rw [hu.bool_inv, hv.bool_inv], fun n => by rw [hv.bool_inv]; simp [Instr.sameBits]⟩
  | str =>
    obtain ⟨x, y, rfl, rfl, e⟩ := eqLeaf_str h
    have e : x = y := by simpa using e.symm
    subst e
    exact ⟨by rw [hu.str_inv, hv.str_inv], fun n => by rw [hv.str_inv]; simp only [Instr.sameBits]; exact (MapKept.bytes_beq _ _).2 rfl⟩
theorem eqLeaves_same {q : Rows} : ∀ {ls : List Leaf} {cs ds : List PV} {us vs : List Value}, eqLeaves ls cs ds = some true → RepL S M q us cs → RepL S M q vs ds → us = vs ∧ ∀ v ∈ vs, ∀ n, Instr.sameBits n v v = true
  | [], [], [], us, vs, _, hu, hv => by
    have e1 : us = [] := by have := hu.1; simpa using this
    have e2 : vs = [] := by have := hv.1; simpa using this
    subst e1; subst e2
    exact ⟨rfl, fun v hv => by cases hv⟩
  | l :: ls, c :: cs, d :: ds, u :: us, v :: vs, h, hu, hv => by
    simp only [eqLeaves] at h
    split at h
    · rename_i x y h1 h2
      simp only [Option.some.injEq, Bool.and_eq_true] at h
      obtain ⟨rfl, rfl⟩ := h
      obtain ⟨a1, a2⟩ := hu.cons
      obtain ⟨b1, b2⟩ := hv.cons
      obtain ⟨rfl, e1⟩ := eqLeaf_same h1 a1 b1
      obtain ⟨rfl, e2⟩ := eqLeaves_same h2 a2 b2
      refine ⟨rfl, fun x hx => ?_⟩
      rcases List.mem_cons.1 hx with rfl | hx
      · exact e1
      · exact e2 x hx
    · cases h
  | [], c :: cs, _, _, _, h, _, _ => by simp [eqLeaves] at h
  | [], [], d :: ds, _, _, h, _, _ => by simp [eqLeaves] at h
  | l :: ls, [], _, _, _, h, _, _ => by simp [eqLeaves] at h
  | l :: ls, c :: cs, [], _, _, h, _, _ => by simp [eqLeaves] at h
  | l :: ls, c :: cs, d :: ds, [], _, _, hu, _ => by have := hu.1; simp at this
  | l :: ls, c :: cs, d :: ds, _ :: _, [], _, _, hv => by have := hv.1; simp at this

theorem sound_mapUpdate (hs : Sim B S M s a w) {t : TypeId} {u v z : Value} {x k y : PV} (hu : RepS S M s.m.q u x) (hv : RepS S M s.m.q v k) (hy : RepS S M s.m.q z y) (hok : (aMapUpdate P t x k y s.m).ok) :
    SndU P B S s a w (Instr.mapUpdate t u v z) (aMapUpdate P t x k y s.m) := by
  revert hok
  unfold aMapUpdate
  split
  · rename_i b
    split
    · rename_i ls zz c cs h1 h2
      obtain ⟨kt, et, fs, i, zv, t1, t2, t3, t4, t5, rfl, t6⟩ := tmap_spec h1
      have hu' : u = .map (some b) := by cases hu with | clean r => cases r; rfl
      subst hu'
      obtain ⟨o1, o2, es, e1, e2, e3, e4, e5, e6⟩ := hs.stable.o b c h2
      obtain ⟨vs, rfl, hl, hrv⟩ := hv.agg_inv
      have ht : tagg P kt = true := by simp [tagg, t2]
      have hg := MapKept.run_getObj_map (P := P) e1
      have hnc : ∀ vs t f, w.heap[b]? ≠ some (.cells vs t f) := fun vs t f h => by rw [e1] at h; cases h
      have hck : ∀ (hlen : cs.length = ls.length), (Instr.checkKey false 10000 kt (.agg ⟨vs⟩)).run P w = .ok () w := fun hlen => run_checkKey_flat (vs := vs) t2 (fun f hf => by rw [hl, hlen]; exact t6 f hf) false 9998 w
      have main : ∀ (es' : List MapEntry) (c' : MapC), (Instr.mapUpdate t (.map (some b)) (.agg ⟨vs⟩) z).run P w = .ok () { w with heap := w.heap.setIfInBounds b (.map ⟨es'⟩ es'.length) } →
          es'.length = c'.ks.length → c'.vs.length = c'.ks.length → (∀ i, i < c'.ks.length → (es'.getD i default).born = i) → (∀ i, i < c'.ks.length → Rep S (es'.getD i default).key (c'.ks.getD i .any)) → (∀ i, i < c'.ks.length → Rep S (es'.getD i default).val (c'.vs.getD i .any)) →
          SndU P B S s a w (Instr.mapUpdate t (.map (some b)) (.agg ⟨vs⟩) z) ⟨cs.length = ls.length ∧ PV.cleanL cs = true ∧ y.clean = true, .tup [], { s.m with o := upd s.m.o b (some c') }⟩ := by
        intro es' c' hrun g1 g2 g3 g4 g5
        obtain ⟨w1, w2⟩ := setObj_at (o' := .map ⟨es'⟩ es'.length) e1
        refine ⟨_, S, M, hrun, hs.special hnc w2 (by simp) ⟨stabS_special hs.stable.s hnc o2 w2, fun b2 c2 hc2 => ?_, fun b2 x2 hx2 => ?_⟩, rfl, SLe.refl _, fun _ _ => ⟨fun _ => rfl, rfl⟩, ⟨rfl, rfl, rfl, by simp, fun k hk => w2 k (fun e => o1 (e ▸ hk))⟩⟩
        · by_cases e : b = b2
          · subst e
            rw [upd_same] at hc2
            cases hc2
            exact ⟨o1, o2, es', w1, g1, g2, g3, g4, g5⟩
          · rw [upd_ne _ _ e] at hc2
            obtain ⟨q1, q2, q3⟩ := hs.stable.o b2 c2 hc2
            exact ⟨q1, q2, q3.move (SLe.refl _) (w2 b2 (Ne.symm e))⟩
        · obtain ⟨q1, q2⟩ := hs.stable.i b2 x2 hx2
          refine ⟨q1, ?_⟩
          unfold IterAt at q2 ⊢
          rw [w2 b2 (fun e => by subst e; have q3 := q2.1; rw [e1] at q3; cases q3)]
          exact q2
      split
      · rename_i j hf
        rintro ⟨hlen, hc1, hc2⟩
        obtain ⟨f1, f2⟩ := find_ok (S := S) (M := M) (q := s.m.q) t3 ht ⟨hl, hrv⟩ w es c.ks 0 _ e2 e5 hf
        obtain ⟨_, g2, ds, g3, g4⟩ := f2 j rfl
        have hj : j < c.ks.length := by omega
        rw [Nat.sub_zero] at g3
        have hkj := e5 j hj
        rw [g3] at hkj
        obtain ⟨us, hus, hul, hru⟩ := (RepS.clean (S := S) (M := M) (q := s.m.q) hkj).agg_inv
        obtain ⟨hsame, hbits⟩ := eqLeaves_same g4 ⟨hl, hrv⟩ ⟨hul, hru⟩
        subst hsame
        have hjl : j < es.length := by omega
        have hkey : (es.getD j default).key = .agg ⟨vs⟩ := hus
        have hsb : Instr.sameBits 10000 (.agg ⟨vs⟩) (.agg ⟨vs⟩) = true := by
          simp only [Instr.sameBits, BEq.rfl, Bool.true_and]
          rw [List.all_eq_true]
          rintro ⟨p, q⟩ hpq
          rw [List.zip_eq_zipWith] at hpq
          simp only at hpq ⊢
          obtain ⟨n, hn, hpn⟩ := List.getElem_of_mem hpq
          simp only [List.getElem_zipWith] at hpn
          cases hpn
          exact hbits _ (List.getElem_mem _) _
        have hfk : (Instr.findKey kt (.agg ⟨vs⟩) es).run P w = .ok (some (j, (es.getD j default).val)) w := by
          rw [run_findKey_eq w (by rw [t2]) (.agg ⟨vs⟩) es]; simpa using f1
        have hej : (⟨es⟩ : Array MapEntry)[j]? = some (es.getD j default) := by
          rw [getD_lt hjl]; simp [hjl]
        have hmod : (⟨es⟩ : Array MapEntry).modify j (fun e => { e with key := .agg ⟨vs⟩, val := z }) = ⟨es.set j { es.getD j default with key := .agg ⟨vs⟩, val := z }⟩ := by
          apply Array.ext'
          apply List.ext_getElem?
          intro n
          rw [Array.getElem?_toList, Array.getElem?_modify]
          simp only [List.getElem?_set]
          by_cases e : j = n
          · subst e; simp [hjl, getD_lt hjl]
          · simp [e]
        have hrun : (Instr.mapUpdate t (.map (some b)) (.agg ⟨vs⟩) z).run P w = .ok () { w with heap := w.heap.setIfInBounds b (.map ⟨es.set j { es.getD j default with key := .agg ⟨vs⟩, val := z }⟩ es.length) } := by
          have hks : (Instr.keyThatStays (.agg ⟨vs⟩) (.agg ⟨vs⟩)).run P w = .ok (.agg ⟨vs⟩) w := by simp [Instr.keyThatStays, hsb]
          simp only [Instr.mapUpdate, Sem.run_bind, run_underlying t1, Result.andThen_ok, hg, hck hlen, hfk, hej, Option.map_some, Option.getD_some, hkey, hks, hmod]
          exact MapKept.run_setObj_map _ e1
        have hsetlen : (es.set j { es.getD j default with key := .agg ⟨vs⟩, val := z }).length = es.length := by simp
        have hget : ∀ i, i < c.ks.length → (es.set j { es.getD j default with key := .agg ⟨vs⟩, val := z }).getD i default = if i = j then { es.getD j default with key := .agg ⟨vs⟩, val := z } else es.getD i default := fun i hi => by
          rw [getD_lt (by simp; omega), List.getElem_set]
          by_cases e : j = i
          · subst e; simp
          · rw [if_neg e, if_neg (Ne.symm e)]; exact (getD_lt (by omega)).symm
        refine main (es.set j { es.getD j default with key := .agg ⟨vs⟩, val := z }) ⟨c.ks, c.vs.set j y.share⟩ (by rw [hsetlen]; exact hrun) (by rw [hsetlen]; exact e2) (by simp [e3]) (fun i hi => ?_) (fun i hi => ?_) (fun i hi => ?_)
        · rw [hget i hi]
          split
          · rename_i e; subst e; exact e4 i hi
          · exact e4 i hi
        · rw [hget i hi]
          split
          · rename_i e; subst e; rw [← hkey]; exact e5 i hi
          · exact e5 i hi
        · rw [hget i hi]
          have hgv : (c.vs.set j y.share).getD i .any = if i = j then y.share else c.vs.getD i .any := by
            simp only at hi
            rw [getD_lt (by simp; omega), List.getElem_set]
            by_cases e : j = i
            · subst e; simp
            · rw [if_neg e, if_neg (Ne.symm e)]; exact (getD_lt (by omega)).symm
          show Rep S _ ((c.vs.set j y.share).getD i .any)
          rw [hgv]
          split
          · exact hy.share hc2
          · exact e6 i hi
      · rename_i hf
        rintro ⟨hlen, hc1, hc2⟩
        obtain ⟨f1, f2⟩ := find_ok (S := S) (M := M) (q := s.m.q) t3 ht ⟨hl, hrv⟩ w es c.ks 0 _ e2 e5 hf
        have hfk : (Instr.findKey kt (.agg ⟨vs⟩) es).run P w = .ok none w := by
          rw [run_findKey_eq w (by rw [t2]) (.agg ⟨vs⟩) es]; simpa using f1
        have hrun : (Instr.mapUpdate t (.map (some b)) (.agg ⟨vs⟩) z).run P w = .ok () { w with heap := w.heap.setIfInBounds b (.map ⟨es ++ [{ key := .agg ⟨vs⟩, val := z, born := es.length }]⟩ (es.length + 1)) } := by
          simp only [Instr.mapUpdate, Sem.run_bind, run_underlying t1, Result.andThen_ok, hg, hck hlen, hfk, List.push_toArray]
          exact MapKept.run_setObj_map _ e1
        have hget : ∀ i, i < c.ks.length + 1 → (es ++ [({ key := .agg ⟨vs⟩, val := z, born := es.length } : MapEntry)]).getD i default = if i < c.ks.length then es.getD i default else { key := .agg ⟨vs⟩, val := z, born := es.length } := fun i hi => by
          by_cases e : i < c.ks.length
          · rw [if_pos e, getD_append_left (by omega)]
          · rw [if_neg e, getD_append_right (by omega)]
            have : i - es.length = 0 := by omega
            simp [this]
        have hkc : Rep S (.agg ⟨vs⟩) (.agg (PV.shareL cs)) := (RepS.agg (S := S) (M := M) (q := s.m.q) vs cs hl hrv).share hc1
        refine main (es ++ [{ key := .agg ⟨vs⟩, val := z, born := es.length }]) ⟨c.ks ++ [.agg (PV.shareL cs)], c.vs ++ [y.share]⟩ (by simpa using hrun) (by simp [e2]) (by simp [e3]) (fun i hi => ?_) (fun i hi => ?_) (fun i hi => ?_)
        · simp only [List.length_append, List.length_cons, List.length_nil] at hi
          rw [hget i (by omega)]
          split
          · rename_i e; exact e4 i e
          · show es.length = i; omega
        · simp only [List.length_append, List.length_cons, List.length_nil] at hi
          rw [hget i (by omega)]
          show Rep S _ ((c.ks ++ [PV.agg (PV.shareL cs)]).getD i .any)
          split
          · rename_i e; rw [getD_append_left e]; exact e5 i e
          · rename_i e
            rw [getD_append_right (by omega)]
            have : i - c.ks.length = 0 := by omega
            simpa [this] using hkc
        · simp only [List.length_append, List.length_cons, List.length_nil] at hi
          rw [hget i (by omega)]
          show Rep S _ ((c.vs ++ [y.share]).getD i .any)
          split
          · rename_i e; rw [getD_append_left (by omega)]; exact e6 i e
          · rename_i e
            rw [getD_append_right (by omega)]
            have : i - c.vs.length = 0 := by omega
            simpa [this] using hy.share hc2
      · exact fun h => h.elim
    · exact fun h => h.elim
  · exact fun h => h.elim

theorem Sim.mapIt (hs : Sim B S M s a w) {ib : Nat} {it : IterC} {c : MapC} (h1 : s.m.it ib = some it) (h2 : mapIt s.m it = some c) : MapAt S w it.b c := by
  unfold PL.mapIt at h2
  cases hc : it.c with
  | some d =>
    rw [hc] at h2
    simp only [Option.some.injEq] at h2
    subst h2
    obtain ⟨es, e1, e2, e3, e4, e5, e6⟩ := (hs.stable.i ib it h1).2.2 d hc
    exact ⟨es, hs.stable.s.m _ _ e1, e2, e3, e4, e5, e6⟩
  | none =>
    rw [hc] at h2
    exact (hs.stable.o it.b c h2).2.2
theorem sound_entry (hs : Sim B S M s a w) {u : Value} {x : PV} (hu : RepS S M s.m.q u x) (hok : (aEntry x s.m).ok) : Snd P B S s a w (Instr.entry u) (aEntry x s.m) := by
  revert hok
  unfold aEntry
  split
  · rename_i b
    split
    · rename_i it h1
      split
      · rename_i c i h2 h3
        rintro ⟨g1, g2⟩
        have hu' : u = .pointer (some ⟨b, 0, none⟩) := by cases hu with | clean r => cases r; rfl
        subst hu'
        obtain ⟨_, i2, _⟩ := hs.stable.i b it h1
        obtain ⟨es, e1, e2, e3, e4, e5, e6⟩ := hs.mapIt h1 h2
        unfold IterAt at i2
        have hgi : (getObj b).run P w = .ok (.mapIter (some it.b) it.n ⟨it.seen⟩ it.n) w := by simp [getObj, Sem.run, i2]
        have hg := MapKept.run_getObj_map (P := P) e1
        have hlast : (⟨it.seen⟩ : Array Nat).back? = some i := by rw [List.getLast?_eq_getElem?] at h3; simpa [Array.back?] using h3
        have hfind : (⟨es⟩ : Array MapEntry).find? (fun e => e.born == i) = some (es.getD i default) := by
          simp only [List.find?_toArray]
          have hle : i < es.length := by omega
          rw [List.find?_eq_some_iff_getElem]
          refine ⟨by simpa using e4 i g2, i, hle, (getD_lt hle).symm, fun j hj => ?_⟩
          have := e4 j (by omega)
          rw [getD_lt (by omega)] at this
          simp [this]; omega
        refine Snd.clean hs (v := .tuple #[(es.getD i default).key, (es.getD i default).val]) ?_ ?_
        · have hcl : (es.length != it.n) = false := by simp; omega
          simp only [Instr.entry, Sem.run_bind, hgi, Result.andThen_ok, hlast, hg, hcl, Bool.false_eq_true, if_false, hfind, Sem.run_pure]
        · refine .tup [_, _] [_, _] rfl (fun j hj => ?_)
          match j, hj with
          | 0, _ => exact e5 i g2
          | 1, _ => exact e6 i g2
      · exact fun h => h.elim
    · exact fun h => h.elim
  · exact fun h => h.elim
end
end Go.PL

namespace Go.PL
open Go.RowKit
set_option linter.unusedVariables false

/-- the type has a shape -/
def tkn (P : Program) (t : TypeId) : Bool := (P.underlying t).isSome
/-- a type's zero cells -/
def tzero (P : Program) (t : TypeId) : Option (List PV) := aMakeFull.tbdz P t

def aBuiltin (P : Program) (b : Builtin) (ts : List TypeId) (d : Option Nat) (xs : List PV) (m : Hp) : ARes :=
  match b, ts, xs with
  | .len, [t], [x] => if isMapPV x then aMapLen P t x m else aLen P t x m
  | .append, [t, tx], [x, y] => match d with
    | some d => aAppend P d t tx x y m
    | none => .fail
  | .max, _, [x, y] => aMax x y m
  | .min, _, [x, y] => aMin x y m
  | .complex, _, [x, y] => aCpx x y m
  | .real, _, [x] => aReal x m
  | .imag, _, [x] => aImag x m
  | _, _, _ => .fail

def aop (P : Program) (o : Oper) (ρ : Operand → PV) (m : Hp) : ARes :=
  match o.op with
  | .move x => ⟨True, ρ x, m⟩
  | .assign x => ⟨True, ρ x, m⟩
  | .pick c x y => aPick (ρ c) (ρ x) (ρ y) m
  | .alloc t => match o.dst, tzero P t with
    | some d, some z => ⟨m.h d = none, .ptr d 0, m.new d z⟩
    | _, _ => .fail
  | .box _ x => match o.dst with
    | some d => ⟨m.h d = none ∧ (ρ x).known = true, .ptr d 0, m.new d (ρ x).cells⟩
    | none => .fail
  | .build t parts => aBuild P t (parts.toList.map fun x => (x.1, ρ x.2)) m
  | .buildSlice t len parts => match o.dst with
    | some d => aBuildSlice P d t len (parts.toList.map fun x => (x.1, ρ x.2)) m
    | none => .fail
  | .load t x => if tkn P t then aLoad P t (ρ x) m else .fail
  | .store t x y => if tkn P t then aStore P t (ρ x) (ρ y) m else .fail
  | .nilCheck x => aNilCheck (ρ x) m
  | .binOp op t x y _ => aBin P op t (ρ x) (ρ y) m
  | .unOp op _ x => aUn op (ρ x) m
  | .convert src dst x => aConv P src dst (ρ x) m
  | .makeFunc (.func f) first caps => if first.isEmpty then ⟨capsOk m (caps.toList.map ρ), .fn f (caps.toList.map ρ), frozenBy m (caps.toList.map ρ)⟩ else .fail
  | .makeSlice t l c => match o.dst with
    | some d => match l with
      | .const (.int _ 0) => aMakeRow P d t (ρ c) m
      | _ => aMakeFull P d t (ρ l) (ρ c) m
    | none => .fail
  | .slice t x lo hi mx => if mx.isNone then aSlice P t (ρ x) (lo.map ρ) (hi.map ρ) m else .fail
  | .fieldAddr t x f => aFieldAddr P t (ρ x) f m
  | .field t x f => aField P t (ρ x) f m
  | .indexAddr t x i => aIndexAddr P t (ρ x) (ρ i) m
  | .index t x i => aIndex P t (ρ x) (ρ i) m
  | .extract x i => aExtract (ρ x) i m
  | .lookup t x k ok => aLookup P t (ρ x) (ρ k) ok m
  | .mapUpdate t x k v => aMapUpdate P t (ρ x) (ρ k) (ρ v) m
  | .entry x => aEntry (ρ x) m
  | .call { callee := .builtin b, args, argTypes } => aBuiltin P b argTypes.toList o.dst (args.toList.map ρ) m
  | _ => .fail

mutual
/-- what a value leans on, all that lies below it too -/
def PV.dids : PV → List Ref
  | .ptr id _ => [.b id]
  | .osl id _ _ _ => [.b id]
  | .sl (.row id) es => .r id :: PV.didsL es
  | .sl _ es => PV.didsL es
  | .rptr cs => PV.didsL cs
  | .rmap ks vs => PV.didsL ks ++ PV.didsL vs
  | .agg cs => PV.didsL cs
  | .tup cs => PV.didsL cs
  | .fn _ cs => PV.didsL cs
  | _ => []
def PV.didsL : List PV → List Ref
  | [] => []
  | c :: cs => PV.dids c ++ PV.didsL cs
end

/-- what a function of one way does, told of values: WHATEVER MEMORY IT IS CALLED IN -/
def Callable (P : Program) (f : FuncId) : Prop := ∃ fn, P.funcs[f]? = some fn ∧ fn.name ≠ "runtime.NumGoroutine" ∧ fn.body.isSome = true

def Pure (P : Program) (f : FuncId) (args : List PV) (r : PV) : Prop :=
  Callable P f ∧ r.dids = [] ∧ ∀ (w : World) (S : Stable) (vs : List Value), StabS S w → vs.length = args.length → (∀ i, i < args.length → Rep S (vs.getD i undef) (args.getD i .any)) →
    Calls P f ⟨vs⟩ w fun e w' => ∃ v S', e = .returned v ∧ Rep S' v r ∧ StabS S' w' ∧ SLe S S' ∧ (∀ b, b < w.heap.size → (∀ o, S' b o = S b o) ∧ S'.m b = S.m b) ∧ Below w.heap.size w w'

/-- a call: what is called, with what -/
def calleeOf (ρ : Operand → PV) (c : Call) : Option (FuncId × List PV) :=
  match c.callee with
  | .value f => match ρ f with
    | .fn g caps => some (g, c.args.toList.map ρ ++ caps)
    | _ => none
  | _ => none

/-- one operation: the value, and the call's own memory behind it -/
def StepM (P : Program) (o : Oper) (ρ : Operand → PV) (m : Hp) (v : PV) (m' : Hp) : Prop :=
  ((aop P o ρ m).ok ∧ v = (aop P o ρ m).v ∧ m' = (aop P o ρ m).m) ∨
  (∃ c g args, o.op = .call c ∧ calleeOf ρ c = some (g, args) ∧ PV.givableL m args ∧ Pure P g (PV.giveL m args) v ∧ m' = m)

section
variable {P : Program} {B : Frm} {S : Stable} {M : Maps} {s : St} {a : Act} {w : World}

/-- what an operation comes to -/
def Done (P : Program) (B : Frm) (S : Stable) (s : St) (a : Act) (w : World) (o : Oper) (p : PV) (m' : Hp) : Prop :=
  ∀ (next : Act → World → Prop) (Q : Exit → Act → World → Prop), (∀ v w' S' M', Sim B S' M' ((s.with m').put o.dst p) (a.put o.dst v) w' → Ext B S S' w w' → next (a.put o.dst v) w') → o.wp P a w next Q

theorem Done.of_snd {o : Oper} {sm : Sem Value} {r : ARes} (he : (execOp a.eval o).run P w = (sm.run P w).andThen fun v w' => .ok (.value v) w') (hd : ∀ x, o.dst = some x → x < s.n) (h : Snd P B S s a w sm r) : Done P B S s a w o r.v r.m := by
  intro next Q hn
  obtain ⟨v, w', S', M', h1, h2, h3, h4, h5⟩ := h
  unfold Oper.wp
  rw [he, h1]
  exact hn v w' S' M' (h2.put hd h3 h4) h5

theorem Done.of_sndU {o : Oper} {sm : Sem Unit} {r : ARes} (he : (execOp a.eval o).run P w = (sm.run P w).andThen fun _ w' => .ok .skip w') (hd : ∀ x, o.dst = some x → x < s.n) (h : SndU P B S s a w sm r) : Done P B S s a w o r.v r.m := by
  intro next Q hn
  obtain ⟨w', S', M', h1, h2, h3, h4⟩ := h
  unfold Oper.wp
  rw [he, h1]
  refine hn undef w' S' M' (h2.put hd ?_ ?_) h4
  · rw [h3]; exact .clean (.tup [] [] rfl (fun i hi => by simp at hi))
  · rw [h3]; simp [PV.ids, PV.idsL]

theorem map_getD {f : Operand → PV} {g : Operand → Value} {l : List Operand} (h : ∀ x, RepS S M s.m.q (g x) (f x)) : ∀ i, i < (l.map f).length → RepS S M s.m.q ((l.map g).getD i undef) ((l.map f).getD i .any) := by
  intro i hi
  simp only [List.length_map] at hi
  rw [getD_lt (by simpa using hi), getD_lt (by simpa using hi)]
  simp only [List.getElem_map]
  exact h _

theorem run_v {sm : Sem Value} : (do Pure.pure (Next.value (← sm)) : Sem Next).run P w = (sm.run P w).andThen fun v w' => .ok (.value v) w' := by
  simp
theorem run_u {sm : Sem Unit} : (do sm; Pure.pure Next.skip : Sem Next).run P w = (sm.run P w).andThen fun _ w' => .ok .skip w' := by
  simp

theorem parts_ok (hs : Sim B S M s a w) (parts : List (Nat × Operand)) : (parts.map fun x => (x.1, a.eval x.2)).length = (parts.map fun x => (x.1, s.eval x.2)).length ∧
    (∀ i, i < (parts.map fun x => (x.1, s.eval x.2)).length → ((parts.map fun x => (x.1, a.eval x.2)).getD i (0, undef)).1 = ((parts.map fun x => (x.1, s.eval x.2)).getD i (0, .any)).1 ∧
      RepS S M s.m.q ((parts.map fun x => (x.1, a.eval x.2)).getD i (0, undef)).2 ((parts.map fun x => (x.1, s.eval x.2)).getD i (0, .any)).2) ∧
    ∀ x ∈ (parts.map fun x => (x.1, s.eval x.2)), ∀ i ∈ x.2.ids, Live s.m i := by
  refine ⟨by simp, fun i hi => ?_, fun x hx i hi => ?_⟩
  · simp only [List.length_map] at hi
    rw [getD_lt (by simpa using hi), getD_lt (by simpa using hi)]
    simp only [List.getElem_map]
    exact ⟨trivial, hs.eval _⟩
  · obtain ⟨y, hy, rfl⟩ := List.mem_map.1 hx
    exact hs.eval_ids _ i hi

set_option maxHeartbeats 1000000 in
theorem aop_sound (hs : Sim B S M s a w) {o : Oper} (hd : ∀ x, o.dst = some x → x < s.n) (hok : (aop P o s.eval s.m).ok) : Done P B S s a w o (aop P o s.eval s.m).v (aop P o s.eval s.m).m := by
  have E := hs.eval
  have I := hs.eval_ids
  obtain ⟨dst, op, ty, pos, after, guard⟩ := o
  unfold aop at hok ⊢
  simp only at hok ⊢ hd
  have mv : ∀ x : Operand, op = .move x ∨ op = .assign x → Done P B S s a w ⟨dst, op, ty, pos, after, guard⟩ (s.eval x) s.m := by
    intro x hx next Q hn
    unfold Oper.wp
    have : (execOp a.eval ⟨dst, op, ty, pos, after, guard⟩).run P w = .ok (.value (a.eval x)) w := by rcases hx with rfl | rfl <;> rfl
    rw [this]
    exact hn _ w S M (hs.put hd (E x) (I x)) (Ext.refl _ _ _)
  cases op with
  | move x => exact mv x (.inl rfl)
  | assign x => exact mv x (.inr rfl)
  | pick c x y =>
    have ec := E c
    revert hok
    show (aPick (s.eval c) (s.eval x) (s.eval y) s.m).ok → Done P B S s a w _ (aPick (s.eval c) (s.eval x) (s.eval y) s.m).v (aPick (s.eval c) (s.eval x) (s.eval y) s.m).m
    unfold aPick
    split
    · rename_i hc
      intro _ next Q hn
      rw [hc] at ec
      unfold Oper.wp
      have : (execOp a.eval ⟨dst, .pick c x y, ty, pos, after, guard⟩).run P w = .ok (.value (a.eval x)) w := by simp [execOp, ec.bool_inv, asBool]
      rw [this]
      exact hn _ w S M (hs.put hd (E x) (I x)) (Ext.refl _ _ _)
    · rename_i hc
      intro _ next Q hn
      rw [hc] at ec
      unfold Oper.wp
      have : (execOp a.eval ⟨dst, .pick c x y, ty, pos, after, guard⟩).run P w = .ok (.value (a.eval y)) w := by simp [execOp, ec.bool_inv, asBool]
      rw [this]
      exact hn _ w S M (hs.put hd (E y) (I y)) (Ext.refl _ _ _)
    · exact fun h => h.elim
  | alloc t =>
    simp only at hok ⊢
    cases dst with
    | none => exact hok.elim
    | some d =>
      cases hz : tzero P t with
      | none => simp only [hz] at hok; exact hok.elim
      | some z =>
        simp only [hz] at hok ⊢
        unfold tzero aMakeFull.tbdz at hz
        split at hz
        · rename_i i hi
          split at hz
          · rename_i zv hzv
            split at hz
            · rename_i hk
              cases hz
              exact Done.of_snd (sm := Instr.alloc t true (.tuple #[])) run_v hd (sound_alloc hs hi hzv hok hk (s.m.h d = none))
            · cases hz
          · cases hz
        · cases hz
  | box t x =>
    simp only at hok ⊢
    cases dst with
    | none => exact hok.elim
    | some d => exact Done.of_snd (sm := Instr.box t (a.eval x)) run_v hd (sound_box hs (E x) (I x) hok.1 hok.2 _)
  | build t parts =>
    obtain ⟨parts⟩ := parts
    simp only at hok ⊢
    obtain ⟨p1, p2, p3⟩ := parts_ok hs parts
    exact Done.of_snd (sm := Instr.build t ⟨parts.map fun x => (x.1, a.eval x.2)⟩) (by simp [execOp]) hd (sound_build hs p1 p2 p3 hok)
  | buildSlice t len parts =>
    obtain ⟨parts⟩ := parts
    simp only at hok ⊢
    cases dst with
    | none => exact hok.elim
    | some d =>
      obtain ⟨p1, p2, p3⟩ := parts_ok hs parts
      exact Done.of_snd (sm := Instr.buildSlice t len ⟨parts.map fun x => (x.1, a.eval x.2)⟩) (by simp [execOp]) hd (sound_buildSlice hs p1 p2 hok)
  | load t x =>
    simp only at hok ⊢
    split at hok
    · rename_i hk
      rw [if_pos hk]
      exact Done.of_snd (sm := Instr.loadAt t (a.eval x)) run_v hd (sound_load hs (E x) (by intro h; simp [tkn, h] at hk) hok)
    · exact hok.elim
  | store t x y =>
    simp only at hok ⊢
    split at hok
    · rename_i hk
      rw [if_pos hk]
      exact Done.of_sndU (sm := Instr.storeAt t (a.eval x) (a.eval y)) run_u hd (sound_store hs (E x) (E y) (I y) (by intro h; simp [tkn, h] at hk) hok)
    · exact hok.elim
  | nilCheck x =>
    simp only at hok ⊢
    revert hok
    have ex := E x
    have ix := I x
    unfold aNilCheck
    have fin : ∀ {p : PV}, s.eval x = p → (execOp a.eval ⟨dst, .nilCheck x, ty, pos, after, guard⟩).run P w = .ok (.value (a.eval x)) w → Done P B S s a w ⟨dst, .nilCheck x, ty, pos, after, guard⟩ p s.m := by
      intro p hp hrun next Q hn
      unfold Oper.wp
      rw [hrun]
      exact hn _ w S M (hs.put hd (hp ▸ E x) (hp ▸ I x)) (Ext.refl _ _ _)
    split
    · rename_i id off hx
      intro _
      rw [hx] at ex
      exact fin hx (by simp [execOp, ex.ptr_inv])
    · rename_i cs hx
      intro _
      rw [hx] at ex
      obtain ⟨b, o, vals, e, _⟩ := ex.rptr_inv
      exact fin hx (by simp [execOp, e])
    · rename_i f cs hx
      intro _
      rw [hx] at ex
      obtain ⟨vs, e, _⟩ := ex.fn_inv
      exact fin hx (by simp [execOp, e])
    · exact fun h => h.elim
  | binOp op t x y yt => exact Done.of_snd (sm := do eqGuard op t x y (a.eval x) (a.eval y); binOp op t (a.eval x) (a.eval y)) run_v hd (sound_bin hs (E x) (E y) hok)
  | unOp op t x => exact Done.of_snd (sm := Op.unary op (a.eval x)) run_v hd (sound_un hs (E x) hok)
  | convert src d x => exact Done.of_snd (sm := convert src d (a.eval x)) run_v hd (sound_conv hs (E x) hok)
  | makeFunc fn first caps =>
    obtain ⟨caps⟩ := caps
    cases fn with
    | func f =>
      simp only at hok ⊢
      split at hok
      · rename_i hf
        rw [if_pos hf]
        simp only at hok ⊢
        obtain ⟨S', hs', he⟩ := hs.frozenBy _ hok
        intro next Q hn
        unfold Oper.wp
        have hfe : first = #[] := by simpa using hf
        have : (execOp a.eval ⟨dst, .makeFunc (.func f) first ⟨caps⟩, ty, pos, after, guard⟩).run P w = .ok (.value (.func (.func f) #[] ⟨caps.map a.eval⟩)) w := by
          subst hfe
          simp [execOp, Instr.makeFunc]
        rw [this]
        refine hn _ w S' M (hs'.put hd ?_ ?_) he
        · refine .fn f _ _ (by simp) (fun i hi => ?_)
          have := map_getD (s := s) (S := S) (M := M) (l := caps) E i hi
          refine this.heap he.1 (fun _ _ => rfl) (fun k hk n sz e hq => .inl ⟨?_, rfl, rfl⟩)
          simpa [St.with, frozenBy_q] using hq
        · intro i hi
          obtain ⟨c, hc, hic⟩ := PV.mem_idsL.1 (by simpa [PV.ids] using hi)
          obtain ⟨x, hx, rfl⟩ := List.mem_map.1 hc
          have := I x i hic
          cases i with
          | b k => show (frozenBy s.m _).h k ≠ none; rw [frozenBy_h]; exact this
          | r k => show (frozenBy s.m _).q k ≠ none; rw [frozenBy_q]; exact this
      · exact hok.elim
    | _ => exact hok.elim
  | makeSlice t l c =>
    simp only at hok ⊢
    cases dst with
    | none => exact hok.elim
    | some d =>
      simp only at hok ⊢
      split at hok
      · rename_i k
        exact Done.of_snd (sm := Instr.makeSlice t (.int k 0) (a.eval c)) run_v hd (sound_makeRow hs (E c) hok)
      · exact Done.of_snd (sm := Instr.makeSlice t (a.eval l) (a.eval c)) run_v hd (sound_makeFull hs (E l) (E c) hok)
  | slice t x lo hi mx =>
    simp only at hok ⊢
    split at hok
    · rename_i hm
      rw [if_pos hm]
      cases mx with
      | some _ => simp at hm
      | none =>
        refine Done.of_snd (sm := Instr.sliceAt t (a.eval x) (lo.map a.eval) (hi.map a.eval) none) run_v hd (sound_slice hs (E x) (I x) ?_ ?_ (by simp) (by simp) hok)
        · intro v p h1 h2
          cases lo with
          | none => cases h1
          | some y => cases h1; cases h2; exact E y
        · intro v p h1 h2
          cases hi with
          | none => cases h1
          | some y => cases h1; cases h2; exact E y
    · exact hok.elim
  | fieldAddr t x f => exact Done.of_snd (sm := Instr.fieldAt t (a.eval x) f) run_v hd (sound_fieldAddr hs (E x) (I x) hok)
  | field t x f => exact Done.of_snd (sm := Instr.field t (a.eval x) f) run_v hd (sound_field hs (E x) (I x) hok)
  | indexAddr t x i => exact Done.of_snd (sm := Instr.indexAt t (a.eval x) (a.eval i)) run_v hd (sound_indexAddr hs (E x) (I x) (E i) hok)
  | index t x i => exact Done.of_snd (sm := Instr.index t (a.eval x) (a.eval i)) run_v hd (sound_index hs (E x) (I x) (E i) hok)
  | lookup t x k ok => exact Done.of_snd (sm := Instr.lookup t (a.eval x) (a.eval k) ok) run_v hd (sound_lookup hs (E x) (E k) hok)
  | mapUpdate t x k v => exact Done.of_sndU (sm := Instr.mapUpdate t (a.eval x) (a.eval k) (a.eval v)) run_u hd (sound_mapUpdate hs (E x) (E k) (E v) hok)
  | entry x => exact Done.of_snd (sm := Instr.entry (a.eval x)) run_v hd (sound_entry hs (E x) hok)
  | extract x i => exact Done.of_snd (sm := Instr.extract (a.eval x) i) run_v hd (sound_extract hs (E x) (I x) hok)
  | call c =>
    obtain ⟨callee, args, argTypes⟩ := c
    cases callee with
    | builtin b =>
      obtain ⟨args⟩ := args
      obtain ⟨tys⟩ := argTypes
      simp only at hok ⊢
      revert hok
      unfold aBuiltin
      split
      · rename_i t p hx
        intro hok
        obtain ⟨x, rfl, rfl⟩ : ∃ x, args = [x] ∧ p = s.eval x := by
          match args, hx with
          | [x], hx => exact ⟨x, rfl, by simpa using hx.symm⟩
        split at hok
        · rename_i hmx
          rw [if_pos hmx]
          exact Done.of_snd (sm := Builtin.len_ #[t] ty #[a.eval x]) (by simp [execOp, resolve, invoke, builtin]) hd (sound_mapLen hs (E x) hok)
        · rename_i hmx
          rw [if_neg hmx]
          exact Done.of_snd (sm := Builtin.len_ #[t] ty #[a.eval x]) (by simp [execOp, resolve, invoke, builtin]) hd (sound_len hs (E x) hok)
      · rename_i t tx p p' hx
        obtain ⟨x, y, rfl, rfl, rfl⟩ : ∃ x y, args = [x, y] ∧ p = s.eval x ∧ p' = s.eval y := by
          match args, hx with
          | [x, y], hx => simp at hx; exact ⟨x, y, rfl, hx.1.symm, hx.2.symm⟩
        split
        · rename_i d
          intro hok
          exact Done.of_snd (sm := Builtin.append_ #[t, tx] ty #[a.eval x, a.eval y]) (by simp [execOp, resolve, invoke, builtin]) hd (sound_append hs (E x) (I x) (E y) hok)
        · exact fun h => h.elim
      · rename_i tys b0 ts0 xs0 p p' hx
        intro hok
        obtain ⟨x, y, rfl, rfl, rfl⟩ : ∃ x y, args = [x, y] ∧ p = s.eval x ∧ p' = s.eval y := by
          match args, hx with
          | [x, y], hx => simp at hx; exact ⟨x, y, rfl, hx.1.symm, hx.2.symm⟩
        exact Done.of_snd (sm := Builtin.max_ ⟨tys⟩ ty #[a.eval x, a.eval y]) (by simp [execOp, resolve, invoke, builtin]) hd (sound_max hs (E x) (E y) hok)
      · rename_i tys b0 ts0 xs0 p p' hx
        intro hok
        obtain ⟨x, y, rfl, rfl, rfl⟩ : ∃ x y, args = [x, y] ∧ p = s.eval x ∧ p' = s.eval y := by
          match args, hx with
          | [x, y], hx => simp at hx; exact ⟨x, y, rfl, hx.1.symm, hx.2.symm⟩
        exact Done.of_snd (sm := Builtin.min_ ⟨tys⟩ ty #[a.eval x, a.eval y]) (by simp [execOp, resolve, invoke, builtin]) hd (sound_min hs (E x) (E y) hok)
      · rename_i tys b0 ts0 xs0 p p' hx
        intro hok
        obtain ⟨x, y, rfl, rfl, rfl⟩ : ∃ x y, args = [x, y] ∧ p = s.eval x ∧ p' = s.eval y := by
          match args, hx with
          | [x, y], hx => simp at hx; exact ⟨x, y, rfl, hx.1.symm, hx.2.symm⟩
        exact Done.of_snd (sm := Builtin.complex_ ⟨tys⟩ ty #[a.eval x, a.eval y]) (by simp [execOp, resolve, invoke, builtin]) hd (sound_cpx hs (E x) (E y) hok)
      · rename_i tys b0 ts0 xs0 p hx
        intro hok
        obtain ⟨x, rfl, rfl⟩ : ∃ x, args = [x] ∧ p = s.eval x := by
          match args, hx with
          | [x], hx => exact ⟨x, rfl, by simpa using hx.symm⟩
        exact Done.of_snd (sm := Builtin.real_ ⟨tys⟩ ty #[a.eval x]) (by simp [execOp, resolve, invoke, builtin]) hd (sound_real hs (E x) hok)
      · rename_i tys b0 ts0 xs0 p hx
        intro hok
        obtain ⟨x, rfl, rfl⟩ : ∃ x, args = [x] ∧ p = s.eval x := by
          match args, hx with
          | [x], hx => exact ⟨x, rfl, by simpa using hx.symm⟩
        exact Done.of_snd (sm := Builtin.imag_ ⟨tys⟩ ty #[a.eval x]) (by simp [execOp, resolve, invoke, builtin]) hd (sound_imag hs (E x) hok)
      · exact fun h => h.elim
    | _ => exact hok.elim
  | _ => exact hok.elim

theorem call_sound (hs : Sim B S M s a w) {o : Oper} {c : Call} {g : FuncId} {args : List PV} {r : PV} (hd : ∀ x, o.dst = some x → x < s.n) (ho : o.op = .call c) (hc : calleeOf s.eval c = some (g, args)) (hg : PV.givableL s.m args)
    (hp : Pure P g (PV.giveL s.m args) r) : Done P B S s a w o r s.m := by
  intro next Q hn
  obtain ⟨dst, op, ty, pos, after, guard⟩ := o
  simp only at ho hd
  subst ho
  obtain ⟨callee, cargs, ts⟩ := c
  obtain ⟨cargs⟩ := cargs
  unfold calleeOf at hc
  cases callee with
  | value f =>
    simp only at hc
    split at hc
    · rename_i g' caps hf
      simp only [Option.some.injEq, Prod.mk.injEq] at hc
      obtain ⟨rfl, rfl⟩ := hc
      have ef := hs.eval f
      rw [hf] at ef
      obtain ⟨vs, hv, hl, hr⟩ := ef.fn_inv
      obtain ⟨⟨fn, c1, c2, c3⟩, _, hcalls⟩ := hp
      have hargs : ∀ i, i < (cargs.map s.eval ++ caps).length → RepS S M s.m.q ((cargs.map a.eval ++ vs).getD i undef) ((cargs.map s.eval ++ caps).getD i .any) := by
        intro i hi
        by_cases h1 : i < cargs.length
        · rw [getD_append_left (by simpa using h1), getD_append_left (by simpa using h1)]
          exact map_getD (s := s) hs.eval i (by simpa using h1)
        · rw [getD_append_right (by simp; omega), getD_append_right (by simp; omega)]
          simp only [List.length_map]
          exact hr _ (by simp at hi; omega)
      have hrun : (execOp a.eval ⟨dst, .call ⟨.value f, ⟨cargs⟩, ts⟩, ty, pos, after, guard⟩).run P w = .ok (.enter g' ⟨cargs.map a.eval ++ vs⟩) w := by
        have hb : ¬ fn.body = none := by intro h; simp [h] at c3
        simp [execOp, resolve, Deferred.ofValue, hv, invoke, callFunc, program, Sem.run, c1, hb, c2]
      unfold Oper.wp
      rw [hrun]
      show Calls P g' ⟨cargs.map a.eval ++ vs⟩ w _
      have hcl := hcalls w S (cargs.map a.eval ++ vs) hs.stable.s (by simp [PV.giveL_length, hl]) (fun i hi => by
        rw [PV.giveL_length] at hi
        rw [PV.giveL_getD _ _ i hi]
        exact (hargs i hi).give hs (PV.givableL_getD hg i hi))
      refine hcl.mono fun e w' h => ?_
      obtain ⟨v, S', rfl, h2, h3, h4, h5, h6⟩ := h
      have hs' := hs.grow h4 h5 h3 h6.block h6.size
      exact hn v w' S' M (hs'.put hd (.clean h2) (fun i hi => absurd hi (h2.clean_ids i))) ⟨h4, fun b hb => h5 b (hs.hB b hb), (BelowF.of h6).mono hs.hB⟩
    · cases hc
  | _ => simp at hc

theorem step_sound (hs : Sim B S M s a w) {o : Oper} {v : PV} {m' : Hp} (hd : ∀ x, o.dst = some x → x < s.n) (h : StepM P o s.eval s.m v m') : Done P B S s a w o v m' := by
  rcases h with ⟨h1, rfl, rfl⟩ | ⟨c, g, args, ho, hc, hg, hp, rfl⟩
  · exact aop_sound hs hd h1
  · exact call_sound hs hd ho hc hg hp

end
end Go.PL

namespace Go.PL
open Go.RowKit
set_option linter.unusedVariables false

/-- is the operation wanted? -/
def gdOf (want : Bool) : PV → Option Bool
  | .bool b => some (b == want)
  | .tup _ => some false
  | _ => none
def gd (ops : Array Oper) (s : St) (o : Oper) : Option Bool :=
  match o.guard with
  | none => some true
  | some (j, want) => match (ops[j]?).bind (·.dst) with
    | some d => if d < s.n then gdOf want (s.fr d) else none
    | none => some false

def dstOk (n : Nat) : Option Nat → Prop
  | some d => d < n
  | none => True

/-- the operations in the order of the text -/
def lexA (P : Program) (ops : Array Oper) (K : St → Prop) : List Oper → St → Prop
  | [], s => K s
  | o :: rest, s => dstOk s.n o.dst ∧ ((gd ops s o = some true ∧ ∃ v m', StepM P o s.eval s.m v m' ∧ lexA P ops K rest ((s.with m').put o.dst v)) ∨ (gd ops s o = some false ∧ lexA P ops K rest (s.put o.dst (.tup []))))

/-- what holds behind a piece of code, told of values -/
def awp (P : Program) (c : Code) (Q : Exit → St → Prop) (s : St) : Prop :=
  ∀ B S M a w, Sim B S M s a w → c.wp P (fun e a' w' => ∃ s' S' M', Q e s' ∧ Sim B S' M' s' a' w' ∧ Ext B S S' w w') a w

section
variable {P : Program} {B : Frm} {S : Stable} {M : Maps} {s : St} {a : Act} {w : World} {Q Q' : Exit → St → Prop}

theorem dstOk_spec {n : Nat} {d : Option Nat} (h : dstOk n d) : ∀ x, d = some x → x < n := fun x e => by subst e; exact h

def asB : Value → Option Bool
  | .bool b => some b
  | _ => none
theorem RepS.gdOf {q : Rows} {v : Value} {p : PV} {want c : Bool} (r : RepS S M q v p) (h : PL.gdOf want p = some c) : (asB v == some want) = c := by
  cases p <;> simp [PL.gdOf] at h
  · rw [r.bool_inv]; simpa [asB] using h
  · obtain ⟨vs, rfl, _⟩ := r.tup_inv; simpa [asB] using h

theorem gd_ok (hs : Sim B S M s a w) {ops : Array Oper} {o : Oper} {b : Bool} (h : gd ops s o = some b) : Region.wanted o (yielded ops a.tmps) = b := by
  unfold gd at h
  unfold Region.wanted
  cases hg : o.guard with
  | none => rw [hg] at h; simpa using h
  | some jw =>
    obtain ⟨j, want⟩ := jw
    rw [hg] at h
    simp only at h ⊢
    unfold yielded
    cases hd : (ops[j]?).bind (·.dst) with
    | none => rw [hd] at h; simpa using h
    | some d =>
      rw [hd] at h
      simp only at h
      split at h
      · rename_i hlt
        have hsz : d < a.tmps.size := by rw [hs.hn]; exact hlt
        have hr := hs.fr d
        have he : a.tmps[d]? = some (a.tmps.getD d undef) := by
          rw [Array.getD_eq_getD_getElem?, Array.getElem?_eq_getElem hsz]; rfl
        have hb := hr.gdOf h
        simp only [Option.bind_some, he]
        rw [← hb]
        cases a.tmps.getD d undef <;> rfl
      · cases h

theorem skip_sim (hs : Sim B S M s a w) {d : Option Nat} (hd : dstOk s.n d) : Sim B S M (s.put d (.tup [])) (a.put d undef) w :=
  hs.put (dstOk_spec hd) (.clean (.tup [] [] rfl (fun i hi => by simp at hi))) (by simp [PV.ids, PV.idsL])

theorem awp_mono {c : Code} (h : ∀ e s, Q e s → Q' e s) (hh : awp P c Q s) : awp P c Q' s := fun B S M a w hs =>
  wp_mono (hh B S M a w hs) fun e a' w' ⟨s', S', M', h1, h2, h3⟩ => ⟨s', S', M', h _ _ h1, h2, h3⟩

theorem awp_skip (h : Q .normal s) : awp P .skip Q s := fun B S M a w hs => wp_skip ⟨s, S, M, h, hs, Ext.refl _ _ _⟩
theorem awp_label {l : Nat} (h : Q .normal s) : awp P (.label l) Q s := fun B S M a w hs => wp_label ⟨s, S, M, h, hs, Ext.refl _ _ _⟩
theorem awp_exit {id : Nat} (h : Q (.exit id) s) : awp P (.exit id) Q s := fun B S M a w hs => wp_exit ⟨s, S, M, h, hs, Ext.refl _ _ _⟩
theorem awp_goto {l : Nat} (h : Q (.goto l) s) : awp P (.goto l) Q s := fun B S M a w hs => wp_goto ⟨s, S, M, h, hs, Ext.refl _ _ _⟩
theorem awp_ret (h : Q .ret s) : awp P .ret Q s := fun B S M a w hs => wp_ret ⟨s, S, M, h, hs, Ext.refl _ _ _⟩

def thenQ (K : St → Prop) (Q : Exit → St → Prop) : Exit → St → Prop
  | .normal, s => K s
  | e, s => Q e s
theorem awp_seq {x y : Code} (h : awp P x (thenQ (awp P y Q) Q) s) : awp P (.seq x y) Q s := fun B S M a w hs => by
  refine wp_seq (wp_mono (h B S M a w hs) fun e a' w' hq => ?_)
  obtain ⟨s', S', M', h1, h2, h3⟩ := hq
  cases e with
  | normal =>
    refine wp_mono (h1 B S' M' a' w' h2) fun e a'' w'' hq' => ?_
    obtain ⟨s'', S'', M'', g1, g2, g3⟩ := hq'
    exact ⟨s'', S'', M'', g1, g2, h3.trans g3⟩
  | _ => exact ⟨s', S', M', h1, h2, h3⟩

theorem awp_cond {c : Operand} {x y : Code} {b : Bool} (hc : s.eval c = .bool b) (h : awp P (if b then x else y) Q s) : awp P (.cond c x y) Q s := fun B S M a w hs => by
  have he := hs.eval c
  rw [hc] at he
  exact wp_cond he.bool_inv (h B S M a w hs)

def blockQ (id : Nat) (Q : Exit → St → Prop) : Exit → St → Prop
  | .exit j, s => if j = id then Q .normal s else Q (.exit j) s
  | e, s => Q e s
theorem awp_block {id : Nat} {c : Code} (h : awp P c (blockQ id Q) s) : awp P (.block id c) Q s := fun B S M a w hs => by
  refine wp_block (wp_mono (h B S M a w hs) fun e a' w' hq => ?_)
  obtain ⟨s', S', M', h1, h2, h3⟩ := hq
  cases e with
  | exit j =>
    simp only [Exit.inBlock, blockQ] at h1 ⊢
    split at h1
    · rename_i hj
      simp only [hj, if_true]
      exact ⟨s', S', M', h1, h2, h3⟩
    · rename_i hj
      simp only [hj, if_false]
      exact ⟨s', S', M', h1, h2, h3⟩
  | _ => exact ⟨s', S', M', h1, h2, h3⟩

end
end Go.PL
