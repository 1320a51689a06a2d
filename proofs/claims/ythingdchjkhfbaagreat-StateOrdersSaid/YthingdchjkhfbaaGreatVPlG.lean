/- A logic of values for functions that only read and build, over the model (part 7): no statement of the seat is proved here. -/
import Derived.Test.YthingdchjkhfbaaGreatVPlF
import Derived.Still
import GoSem.ClaimChange
import Derived.WalkKit
import Derived.ProofKit
import Derived.OpenShut
import Derived.Carry
set_option linter.unusedSimpArgs false
set_option linter.unusedVariables false
namespace Go.PL
open Go.RowKit
set_option linter.unusedVariables false
section
variable {P : Program} {ops : Array Oper}
theorem PV.mem_didsL {id : Ref} : ∀ {cs : List PV}, id ∈ PV.didsL cs ↔ ∃ c ∈ cs, id ∈ c.dids
 | [] => by simp [PV.didsL]
 | c :: cs => by simp [PV.didsL, PV.mem_didsL (cs := cs)]
theorem didsL_sub {l l' : List PV} (h : ∀ c ∈ l, c ∈ l') {i : Ref} (hi : i ∈ PV.didsL l) : i ∈ PV.didsL l' := by
 obtain ⟨c, hc, hr⟩ := PV.mem_didsL.1 hi
 exact PV.mem_didsL.2 ⟨c, h c hc, hr⟩
mutual
theorem ids_dids : ∀ (p : PV) {r : Ref}, r ∈ p.ids → r ∈ p.dids
 | .ptr _ _, r, h => h
 | .osl _ _ _ _, r, h => h
 | .sl t es, r, h => by cases t <;> simp [PV.ids] at h; subst h; simp [PV.dids]
 | .agg cs, r, h => by simp only [PV.ids, PV.dids] at *; exact idsL_didsL cs h
 | .tup cs, r, h => by simp only [PV.ids, PV.dids] at *; exact idsL_didsL cs h
 | .fn _ cs, r, h => by simp only [PV.ids, PV.dids] at *; exact idsL_didsL cs h
 | .any, r, h => by simp [PV.ids] at h
 | .int _ _, r, h => by simp [PV.ids] at h
 | .bool _, r, h => by simp [PV.ids] at h
 | .str _, r, h => by simp [PV.ids] at h
 | .flt _ _, r, h => by simp [PV.ids] at h
 | .cpx _ _ _, r, h => by simp [PV.ids] at h
 | .rptr _, r, h => by simp [PV.ids] at h
 | .nilp, r, h => by simp [PV.ids] at h
 | .nilfn, r, h => by simp [PV.ids] at h
 | .nilmap, r, h => by simp [PV.ids] at h
 | .mref _, r, h => by simp [PV.ids] at h
 | .rmap _ _, r, h => by simp [PV.ids] at h
 | .vsl _ _ _, r, h => h
 | .vptr _ _ _ _ _, r, h => h
 | .iptr _, r, h => by simp [PV.ids] at h
theorem idsL_didsL : ∀ (cs : List PV) {r : Ref}, r ∈ PV.idsL cs → r ∈ PV.didsL cs
 | [], r, h => by simp [PV.idsL] at h
 | c :: cs, r, h => by
  simp only [PV.idsL, PV.didsL, List.mem_append] at *
  exact h.imp (ids_dids c) (idsL_didsL cs)
end
theorem dids_ofAtom (v : Value) : (ofAtom v).dids = [] := by unfold ofAtom; split <;> rfl
theorem didsL_ofAtom (l : List Value) : PV.didsL (l.map ofAtom) = [] := by
 induction l with
 | nil => rfl
 | cons a l ih => simp [PV.didsL, dids_ofAtom, ih]
theorem dids_ofVal (v : Value) : (ofVal v).dids = [] := by
 unfold ofVal
 split
 ·simp [PV.dids, didsL_ofAtom]
 ·split <;> rfl
 ·exact dids_ofAtom _
theorem sl_dids {t : Tok} {es : List PV} {r : Ref} (h : r ∈ PV.didsL es) : r ∈ (PV.sl t es).dids := by
 cases t <;> simp [PV.dids, h]
theorem cells_dids {p c : PV} (hc : c ∈ p.cells) {k : Ref} (hk : k ∈ c.dids) : k ∈ p.dids := by
 cases p with
 | agg cs => simp only [PV.cells] at hc; simp only [PV.dids]; exact PV.mem_didsL.2 ⟨c, hc, hk⟩
 | _ => simp only [PV.cells, List.mem_singleton] at hc; subst hc; exact hk
theorem getD_ids {cs : List PV} {o : Nat} {r : Ref} (h : r ∈ (cs.getD o .any).dids) : r ∈ PV.didsL cs := by
 rw [List.getD_eq_getElem?_getD] at h
 cases hg : cs[o]? with
 | none => rw [hg] at h; simp [PV.dids] at h
 | some c => rw [hg] at h; exact PV.mem_didsL.2 ⟨c, List.mem_of_getElem? hg, h⟩
theorem partPV_ids {ag : Bool} {sz : Nat} {cs : List PV} {o : Nat} {r : Ref} (h : r ∈ (partPV ag sz cs o).dids) : r ∈ PV.didsL cs := by
 unfold partPV at h
 split at h
 ·simp only [PV.dids] at h
  exact didsL_sub (fun c hc => List.mem_of_mem_drop (List.mem_of_mem_take hc)) h
 ·exact getD_ids h
theorem splice_ids {cs ns : List PV} {o : Nat} {r : Ref} (h : r ∈ PV.didsL (splice cs o ns)) : r ∈ PV.didsL cs ∨ r ∈ PV.didsL ns := by
 obtain ⟨c, hc, hr⟩ := PV.mem_didsL.1 h
 unfold splice at hc
 rw [List.mem_append, List.mem_append] at hc
 rcases hc with (hc | hc) | hc
 ·exact .inl (PV.mem_didsL.2 ⟨c, List.mem_of_mem_take hc, hr⟩)
 ·exact .inr (PV.mem_didsL.2 ⟨c, hc, hr⟩)
 ·exact .inl (PV.mem_didsL.2 ⟨c, List.mem_of_mem_drop hc, hr⟩)
theorem cellsL_ids {p : PV} {r : Ref} (h : r ∈ PV.didsL p.cells) : r ∈ p.dids := by
 obtain ⟨c, hc, hr⟩ := PV.mem_didsL.1 h
 exact cells_dids hc hr
theorem fill_ids {place : Nat → Option (Nat × Nat)} : ∀ (l : List (Nat × PV)) (cs cs' : List PV), fillPV place cs l = some cs' → ∀ r ∈ PV.didsL cs', r ∈ PV.didsL cs ∨ ∃ x ∈ l, r ∈ x.2.dids
 | [], cs, cs', h, r, hr => by
  simp only [fillPV, Option.some.injEq] at h; subst h; exact .inl hr
 | (i, p) :: rest, cs, cs', h, r, hr => by
  simp only [fillPV] at h
  split at h
  ·cases h
  ·split at h
   ·rcases fill_ids rest _ _ h r hr with h1 | ⟨x, hx, h1⟩
    ·rcases splice_ids h1 with h2 | h2
     ·exact .inl h2
     ·exact .inr ⟨(i, p), by simp, cellsL_ids h2⟩
    ·exact .inr ⟨x, by simp [hx], h1⟩
   ·cases h
theorem zero_ids {t : TypeId} {z : List PV} (h : tzero P t = some z) : PV.didsL z = [] := by
 unfold tzero aMakeFull.tbdz at h
 split at h
 ·split at h
  ·split at h
   ·simp only [Option.some.injEq] at h
    subst h
    rw [List.eq_nil_iff_forall_not_mem]
    intro r hr
    have := cellsL_ids hr
    rw [dids_ofVal] at this
    cases this
   ·cases h
  ·cases h
 ·cases h
theorem tz_ids {t : TypeId} {z : PV} (h : aMakeFull.tz P t = some z) : z.dids = [] := by
 unfold aMakeFull.tz at h
 split at h
 ·split at h
  ·split at h
   ·simp only [Option.some.injEq] at h
    subst h
    exact dids_ofVal _
   ·cases h
  ·cases h
 ·cases h
theorem ofVal_cells_ids (v : Value) : PV.didsL (ofVal v).cells = [] := by
 rw [List.eq_nil_iff_forall_not_mem]
 intro r hr
 have := cellsL_ids hr
 rw [dids_ofVal] at this
 cases this
def drefsOf (o : Oper) (ρ : Operand → PV) : List Ref := o.op.operands.toList.flatMap fun x => (ρ x).dids
theorem mem_refs {o : Oper} {ρ : Operand → PV} {x : Operand} {r : Ref} (hx : x ∈ o.op.operands.toList) (h : r ∈ (ρ x).dids) : r ∈ drefsOf o ρ := List.mem_flatMap.2 ⟨x, hx, h⟩
theorem fail_ids {r : Ref} : r ∉ (ARes.fail).v.dids := by simp [ARes.fail, PV.dids]
theorem v_field {t : TypeId} {x : PV} {f : Nat} {m : Hp} : ∀ r ∈ (aField P t x f m).v.dids, r ∈ x.dids := by
 intro r; unfold aField; split
 ·exact fun h => by simpa [PV.dids] using partPV_ids h
 ·exact fun h => absurd h fail_ids
theorem drop_ids {cs : List PV} {n : Nat} {r : Ref} (h : r ∈ PV.didsL (cs.drop n)) : r ∈ PV.didsL cs := didsL_sub (fun c hc => List.mem_of_mem_drop hc) h
theorem v_fieldAddr {t : TypeId} {x : PV} {f : Nat} {m : Hp} : ∀ r ∈ (aFieldAddr P t x f m).v.dids, r ∈ x.dids := by
 intro r; unfold aFieldAddr; split
 ·exact fun h => h
 ·exact fun h => by simp only [PV.dids] at *; exact drop_ids h
 ·exact fun h => h
 ·exact fun h => absurd h fail_ids
theorem v_index {t : TypeId} {x i : PV} {m : Hp} : ∀ r ∈ (aIndex P t x i m).v.dids, r ∈ x.dids := by
 intro r; unfold aIndex; split
 ·exact fun h => by simpa [PV.dids] using partPV_ids h
 ·exact fun h => by simp [PV.dids] at h
 ·exact fun h => absurd h fail_ids
theorem v_indexAddr {t : TypeId} {x i : PV} {m : Hp} : ∀ r ∈ (aIndexAddr P t x i m).v.dids, r ∈ x.dids := by
 intro r; unfold aIndexAddr; split
 ·exact fun h => by simp only [PV.dids] at h; exact sl_dids (getD_ids (cellsL_ids h))
 ·exact fun h => h
 ·exact fun h => h
 ·exact fun h => by simp only [PV.dids] at *; exact drop_ids h
 ·exact fun h => h
 ·exact fun h => h
 ·exact fun h => absurd h fail_ids
theorem v_none {a : ARes} (h : a.v.dids = []) {r : Ref} : r ∉ a.v.dids := by rw [h]; simp
theorem v_int {op : BinOp} {k k' : IntKind} {x y : Int} {m : Hp} : (aInt op k k' x y m).v.dids = [] := by
 unfold aInt; split <;> rfl
theorem v_str {op : BinOp} {x y : List UInt8} {m : Hp} : (aStr op x y m).v.dids = [] := by
 unfold aStr; split <;> rfl
theorem v_flt {op : BinOp} {k k' : FloatKind} {x y : Nat} {m : Hp} : (aFlt op k k' x y m).v.dids = [] := by
 unfold aFlt; split <;> rfl
theorem v_eq {b : Bool} {r : Option Bool} {m : Hp} : (aEq b r m).v.dids = [] := by
 unfold aEq; split <;> rfl
theorem v_eql {b : Bool} {t : TypeId} {x y : PV} {m : Hp} : (aEql P b t x y m).v.dids = [] := by
 unfold aEql; repeat' split
 all_goals first | rfl | exact v_eq
theorem v_bin {op : BinOp} {t : TypeId} {x y : PV} {m : Hp} : (aBin P op t x y m).v.dids = [] := by
 unfold aBin; repeat' split
 all_goals first | rfl | exact v_int | exact v_str | exact v_flt | exact v_eql
theorem v_un {op : UnOp} {x : PV} {m : Hp} : (aUn op x m).v.dids = [] := by
 unfold aUn; split <;> rfl
theorem v_conv {a b : TypeId} {x : PV} {m : Hp} : (aConv P a b x m).v.dids = [] := by
 unfold aConv; split <;> first | rfl | (split <;> first | rfl | (split <;> rfl))
theorem v_len {t : TypeId} {x : PV} {m : Hp} : (aLen P t x m).v.dids = [] := by
 unfold aLen; split <;> rfl
theorem v_max {x y : PV} {m : Hp} : (aMax x y m).v.dids = [] := by
 unfold aMax; split <;> rfl
theorem v_min {x y : PV} {m : Hp} : (aMin x y m).v.dids = [] := by
 unfold aMin; split <;> rfl
theorem v_cpx {x y : PV} {m : Hp} : (aCpx x y m).v.dids = [] := by
 unfold aCpx; split <;> rfl
theorem v_real {x : PV} {m : Hp} : (aReal x m).v.dids = [] := by
 unfold aReal; split <;> rfl
theorem v_imag {x : PV} {m : Hp} : (aImag x m).v.dids = [] := by
 unfold aImag; split <;> rfl
theorem v_extract {x : PV} {i : Nat} {m : Hp} : ∀ r ∈ (aExtract x i m).v.dids, r ∈ x.dids := by
 intro r; unfold aExtract; split
 ·exact fun h => by simpa [PV.dids] using getD_ids h
 ·exact fun h => absurd h fail_ids
theorem v_nilCheck {x : PV} {m : Hp} : ∀ r ∈ (aNilCheck x m).v.dids, r ∈ x.dids := by
 intro r; unfold aNilCheck; split <;> first | exact fun h => h | exact fun h => absurd h fail_ids
theorem v_pick {c x y : PV} {m : Hp} : ∀ r ∈ (aPick c x y m).v.dids, r ∈ x.dids ∨ r ∈ y.dids := by
 intro r; unfold aPick; split <;> first | exact fun h => .inl h | exact fun h => .inr h | exact fun h => absurd h fail_ids
theorem v_build {t : TypeId} {l : List (Nat × PV)} {m : Hp} : ∀ r ∈ (aBuild P t l m).v.dids, ∃ x ∈ l, r ∈ x.2.dids := by
 intro r
 have key : ∀ {z : List PV} {pl cs}, PV.didsL z = [] → fillPV pl z l = some cs → r ∈ PV.didsL cs → ∃ x ∈ l, r ∈ x.2.dids := fun hz hf hr => by
  rcases fill_ids _ _ _ hf r hr with h | h
  ·rw [hz] at h; cases h
  ·exact h
 have tz : ∀ fs z, tbd P t = .str fs z → PV.didsL z = [] := fun fs z h => by
  unfold tbd at h
  repeat' split at h
  all_goals first | (cases h; exact ofVal_cells_ids _) | cases h
 have tz2 : ∀ n z, tbd P t = .arr n z → PV.didsL z = [] := fun fs z h => by
  unfold tbd at h
  repeat' split at h
  all_goals first | (cases h; exact ofVal_cells_ids _) | cases h
 unfold aBuild
 split
 ·rename_i fs z hz
  split
  ·rename_i cs hf; exact fun h => key (tz _ _ hz) hf (by simpa [PV.dids] using h)
  ·exact fun h => absurd h fail_ids
 ·rename_i fs z hz
  split
  ·rename_i cs hf; exact fun h => key (tz2 _ _ hz) hf (by simpa [PV.dids] using h)
  ·exact fun h => absurd h fail_ids
 ·exact fun h => absurd h fail_ids
theorem v_slice {t : TypeId} {x : PV} {lo hi : Option PV} {m : Hp} : ∀ r ∈ (aSlice P t x lo hi m).v.dids, r ∈ x.dids := by
 intro r; unfold aSlice; repeat' split
 all_goals first | exact fun h => h | exact fun h => absurd h fail_ids | (exact fun h => sl_dids (didsL_sub (fun c hc => List.mem_of_mem_drop (List.mem_of_mem_take hc)) h)) | exact fun h => by simp [PV.dids] at h
end
end Go.PL
namespace Go.PL
open Go.RowKit
set_option linter.unusedVariables false
section
variable {P : Program} {ops : Array Oper}
structure RefsD (s : St) : Prop where
 fr : ∀ i r, r ∈ (s.fr i).dids → Live s.m r
 h : ∀ i cs, s.m.h i = some cs → ∀ c ∈ cs, ∀ r ∈ c.dids, Live s.m r
 o : ∀ b c, s.m.o b = some c → ∀ r, (r ∈ PV.didsL c.ks ∨ r ∈ PV.didsL c.vs) → Live s.m r
 it : ∀ b x c, s.m.it b = some x → x.c = some c → ∀ r, ¬ (r ∈ PV.didsL c.ks ∨ r ∈ PV.didsL c.vs)
 v : ∀ i es, s.m.v i = some es → ∀ r ∈ PV.didsL es, Live s.m r
 om : ∀ b c, s.m.om b = some c → ∀ r ∈ PV.didsL c.vs, Live s.m r
theorem RefsD.refs {s : St} (h : RefsD s) : Refs s := ⟨fun i r hr => h.fr i r (ids_dids _ hr), fun i cs hi c hc r hr => h.h i cs hi c hc r (ids_dids _ hr), fun i es hi p hp r hr => h.v i es hi r (PV.mem_didsL.2 ⟨p, hp, ids_dids _ hr⟩), fun b c hb p hp r hr => h.om b c hb r (PV.mem_didsL.2 ⟨p, hp, ids_dids _ hr⟩)⟩
theorem Rep.clean_dids {S : Stable} {v : Value} {p : PV} (r : Rep S v p) : ∀ k, k ∉ p.dids := by
 have go : ∀ (cs : List PV), (∀ i, i < cs.length → ∀ k, k ∉ (cs.getD i .any).dids) → ∀ k, k ∉ PV.didsL cs := fun cs h k hk => by
  obtain ⟨c, hc, hkc⟩ := PV.mem_didsL.1 hk
  obtain ⟨j, hj, rfl⟩ := List.getElem_of_mem hc
  have := h j hj k; rw [getD_lt hj] at this; exact this hkc
 induction r with
 | agg vs cs hl _ ih => intro k hk; exact go cs ih k (by simpa [PV.dids] using hk)
 | tup vs cs hl _ ih => intro k hk; exact go cs ih k (by simpa [PV.dids] using hk)
 | fn f vs cs hl _ ih => intro k hk; exact go cs ih k (by simpa [PV.dids] using hk)
 | rptr b o cs vals hS _ ih => intro k hk; exact go cs ih k (by simpa [PV.dids] using hk)
 | rmap b es ks vs h1 h2 h3 h4 h5 h6 ihK ihV =>
  intro k hk
  simp only [PV.dids, List.mem_append] at hk
  rcases hk with hk | hk
  ·exact go ks ihK k hk
  ·exact go vs (fun i hi => ihV i (by omega)) k hk
 | sl b o cap sz es vals hsz hcap hS _ ih =>
  intro k hk
  refine go es (fun i hi k hk => ?_) k (by simpa [PV.dids] using hk)
  have hc := go (es.getD i .any).cells (fun j hj => ih i j hi (by rw [hsz i hi] at hj; exact hj)) k
  refine hc ?_
  cases hp : es.getD i .any with
  | agg cs => rw [hp] at hk; simpa [PV.cells, PV.dids] using hk
  | _ => rw [hp] at hk; simpa [PV.cells, PV.didsL] using hk
 | _ => intro k hk; simp [PV.dids, PV.didsL] at hk
theorem RepS.dids_ids {S : Stable} {M : Maps} {q : Rows} {v : Value} {p : PV} (r : RepS S M q v p) : ∀ k ∈ p.dids, k ∈ p.ids := by
 have go : ∀ (cs : List PV), (∀ i, i < cs.length → ∀ k ∈ (cs.getD i .any).dids, k ∈ (cs.getD i .any).ids) → ∀ k ∈ PV.didsL cs, k ∈ PV.idsL cs := fun cs h k hk => by
  obtain ⟨c, hc, hkc⟩ := PV.mem_didsL.1 hk
  obtain ⟨j, hj, rfl⟩ := List.getElem_of_mem hc
  have := h j hj k; rw [getD_lt hj] at this; exact PV.mem_idsL.2 ⟨_, hc, this hkc⟩
 induction r with
 | clean r => exact fun k hk => absurd hk (r.clean_dids k)
 | ptr id off => exact fun k hk => hk
 | osl id off len cap sz hc => exact fun k hk => hk
 | vsl id len sz v hv t => exact fun k hk => hk
 | vptr id n sz i off v hv hi t => exact fun k hk => hk
 | row id v es r t =>
  intro k hk
  simp only [PV.dids, List.mem_cons] at hk
  rcases hk with rfl | hk
  ·simp [PV.ids]
  ·exact absurd (by simpa [PV.dids] using hk) (r.clean_dids k)
 | agg vs cs hl _ ih => intro k hk; simp only [PV.dids, PV.ids] at *; exact go cs ih k hk
 | tup vs cs hl _ ih => intro k hk; simp only [PV.dids, PV.ids] at *; exact go cs ih k hk
 | fn f vs cs hl _ ih => intro k hk; simp only [PV.dids, PV.ids] at *; exact go cs ih k hk
theorem Sim.refsD {B : Frm} {S : Stable} {M : Maps} {s : St} {a : Act} {w : World} (hs : Sim B S M s a w) : RefsD s := by
 have clean : ∀ (ks vs : List PV) (es : List MapEntry), vs.length = ks.length → (∀ i, i < ks.length → Rep S (es.getD i default).key (ks.getD i .any)) → (∀ i, i < ks.length → Rep S (es.getD i default).val (vs.getD i .any)) → ∀ r, ¬ (r ∈ PV.didsL ks ∨ r ∈ PV.didsL vs) := fun ks vs es e3 e5 e6 r hr => by
  rcases hr with hr | hr
  ·obtain ⟨x, hx, hxr⟩ := PV.mem_didsL.1 hr
   obtain ⟨j, hj, rfl⟩ := List.getElem_of_mem hx
   have := (e5 j hj).clean_dids r
   rw [getD_lt hj] at this
   exact this hxr
  ·obtain ⟨x, hx, hxr⟩ := PV.mem_didsL.1 hr
   obtain ⟨j, hj, rfl⟩ := List.getElem_of_mem hx
   have := (e6 j (by omega)).clean_dids r
   rw [getD_lt hj] at this
   exact this hxr
 refine ⟨fun i r hr => hs.ids i r ((hs.fr i).dids_ids r hr), fun i cs hi c hc r hr => ?_, fun b c hc r hr => ?_, fun b x c hx hc r hr => ?_, fun i es hi r hr => ?_, fun b c hc r hr => ?_⟩
 rotate_left
 ·obtain ⟨_, _, es, e1, e2, e3, e4, e5, e6⟩ := hs.stable.o b c hc
  exact absurd hr (clean _ _ es e3 e5 e6 r)
 ·obtain ⟨es, e1, e2, e3, e4, e5, e6⟩ := (hs.stable.i b x hx).2.2 c hc
  exact clean _ _ es e3 e5 e6 r hr
 ·obtain ⟨sz, e, q1, k1, k2, k3⟩ := hs.vc i es hi
  obtain ⟨p, hp, hpr⟩ := PV.mem_didsL.1 hr
  obtain ⟨j, hj, rfl⟩ := List.getElem_of_mem hp
  obtain ⟨o1, o2⟩ := hs.row i _ q1
  cases hκ : M.κ i with
  | zero => have := o1 hκ; omega
  | succ c =>
   obtain ⟨_, _, _, ⟨vs, g5, g6⟩, _⟩ := o2 c hκ
   have g7 := k3 c hκ vs e (0, 0) g5
   -- the element's cells
   have hx := k1 _ hp
   have hin : ∃ x ∈ es[j].cells, r ∈ x.dids := by
    cases hp2 : es[j] with
    | agg cs => rw [hp2] at hpr; simp only [PV.dids] at hpr; exact PV.mem_didsL.1 hpr
    | _ => rw [hp2] at hpr; exact ⟨_, List.mem_singleton.2 rfl, hpr⟩
   obtain ⟨x, hx1, hx2⟩ := hin
   obtain ⟨l, hl, rfl⟩ := List.getElem_of_mem hx1
   have hr2 := g7 j l hj (by rw [← hx.1]; exact hl)
   rw [getD_lt hj, getD_lt hl] at hr2
   exact k2 _ hp r (cells_ids hx1 (hr2.dids_ids r hx2))
 ·obtain ⟨_, _, _, ⟨es, e1, e2, e3, e4, e5, e6⟩, e7⟩ := hs.rm b c hc
  obtain ⟨p, hp, hpr⟩ := PV.mem_didsL.1 hr
  obtain ⟨j, hj, rfl⟩ := List.getElem_of_mem hp
  have := (e6 j (by omega)).dids_ids r
  rw [getD_lt hj] at this
  exact e7 _ hp r (this hpr)
 have hb := hs.blk i cs hi
 obtain ⟨j, hj, rfl⟩ := List.getElem_of_mem hc
 cases hz : s.m.z i with
 | false =>
  rw [hz] at hb
  obtain ⟨_, _, ⟨vs, ty, h3, h4, h5⟩, h6⟩ := hb
  have := (h5 j hj).dids_ids r
  rw [getD_lt hj] at this
  exact h6 _ (List.getElem_mem hj) r (this hr)
 | true =>
  rw [hz] at hb
  obtain ⟨vals, hv⟩ := hb
  have := (hv j hj).2
  rw [getD_lt hj] at this
  exact absurd hr (this.clean_dids r)
theorem drefs_live {s : St} (hr : RefsD s) (o : Oper) : ∀ r ∈ drefsOf o s.eval, Live s.m r := fun r h => by
 unfold drefsOf at h
 obtain ⟨x, _, hx⟩ := List.mem_flatMap.1 h
 cases x with
 | tmp t => exact hr.fr t r hx
 | const v => simp [St.eval, dids_ofVal] at hx
 | func f => simp [St.eval, PV.dids, PV.didsL] at hx
 | _ => simp [St.eval, PV.dids] at hx
mutual
theorem share_dids : ∀ (p : PV) {r : Ref}, r ∈ p.share.dids → r ∈ p.dids
 | .ptr _ _, r, h => h
 | .osl _ _ _ _, r, h => h
 | .sl t es, r, h => by simp only [PV.share, PV.dids] at h; exact sl_dids h
 | .agg cs, r, h => by simp only [PV.share, PV.dids] at *; exact share_didsL cs h
 | .tup cs, r, h => by simp only [PV.share, PV.dids] at *; exact share_didsL cs h
 | .fn _ cs, r, h => by simp only [PV.share, PV.dids] at *; exact share_didsL cs h
 | .any, r, h => h
 | .int _ _, r, h => h
 | .bool _, r, h => h
 | .str _, r, h => h
 | .flt _ _, r, h => h
 | .cpx _ _ _, r, h => h
 | .rptr _, r, h => h
 | .nilp, r, h => h
 | .nilfn, r, h => h
 | .nilmap, r, h => h
 | .mref _, r, h => h
 | .rmap _ _, r, h => h
 | .iptr _, r, h => h
 | .vsl _ _ _, r, h => h
 | .vptr _ _ _ _ _, r, h => h
theorem share_didsL : ∀ (cs : List PV) {r : Ref}, r ∈ PV.didsL (PV.shareL cs) → r ∈ PV.didsL cs
 | [], r, h => h
 | c :: cs, r, h => by
  simp only [PV.shareL, PV.didsL, List.mem_append] at *
  exact h.imp (share_dids c) (share_didsL cs)
end
def Keeps (m : Hp) (a : ARes) : Prop := (∀ r ∈ a.v.dids, Live a.m r) ∧ ∀ i cs, a.m.h i = some cs → m.h i = some cs ∨ ∀ r ∈ PV.didsL cs, Live a.m r
theorem Keeps.same {m : Hp} {a : ARes} (he : a.m = m) (h : ∀ r ∈ a.v.dids, Live m r) : Keeps m a := ⟨by rw [he]; exact h, fun i cs hi => .inl (by rw [he] at hi; exact hi)⟩
theorem live_new {m : Hp} {d : Nat} {x : List PV} {r : Ref} (h : Live m r) : Live (m.new d x) r := by
 cases r with
 | r i => exact h
 | b i =>
  simp only [Live, Hp.new] at *
  unfold upd; split <;> simp_all
theorem live_setq_self {m : Hp} {d : Nat} {x : Row} : Live (m.setq d x) (.r d) := by simp [Live, Hp.setq, upd]
theorem live_new_self {m : Hp} {d : Nat} {x : List PV} : Live (m.new d x) (.b d) := by simp [Live, Hp.new, upd]
theorem keeps_new {ok : Prop} {m : Hp} {d : Nat} {cs : List PV} {v : PV} (hv : v.dids = [.b d]) (h : ∀ r ∈ PV.didsL cs, Live m r) : Keeps m ⟨ok, v, m.new d cs⟩ := by
 refine ⟨fun r hr => ?_, fun i ds hi => ?_⟩
 ·rw [hv] at hr; simp only [List.mem_singleton] at hr; subst hr; exact live_new_self
 ·by_cases hd : d = i
  ·subst hd
   simp [Hp.new, upd] at hi
   subst hi
   exact .inr fun r hr => live_new (h r hr)
  ·left
   simpa [Hp.new, upd, hd] using hi
theorem v_look {z : PV} {vs : List PV} {ok : Bool} {i : Option Nat} {r : Ref} (hz : z.dids = []) (h : r ∈ (lookV z vs ok i).dids) : r ∈ PV.didsL vs := by
 unfold lookV at h
 split at h
 ·split at h
  ·simp only [PV.dids, PV.didsL, List.append_nil] at h; exact getD_ids h
  ·exact getD_ids h
 ·split at h
  ·simp only [PV.dids, PV.didsL, List.append_nil, hz] at h; cases h
  ·rw [hz] at h; cases h
theorem mapOf_live {s : St} (hr : RefsD s) {x : PV} (hx : ∀ r ∈ x.dids, Live s.m r) {c : MapC} (h : mapOf s.m x = some c) : ∀ r, (r ∈ PV.didsL c.ks ∨ r ∈ PV.didsL c.vs) → Live s.m r := by
 cases x with
 | rmap ks vs =>
  simp only [mapOf, Option.some.injEq] at h
  subst h
  intro r hh
  exact hx r (by simp only [PV.dids, List.mem_append]; exact hh)
 | mref b => exact hr.o b c h
 | _ => simp [mapOf] at h
theorem keeps_map {s : St} (hr : RefsD s) {o : Oper} (hok : (aop P o s.eval s.m).ok) : ∀ b c, (aop P o s.eval s.m).m.o b = some c → s.m.o b = some c ∨ ∀ r, (r ∈ PV.didsL c.ks ∨ r ∈ PV.didsL c.vs) → Live s.m r := by
 intro b c hb
 have hF := foot_aop hok
 have L := drefs_live hr o
 cases hw : (fp o.op).wo with
 | false => rw [hF.o1 hw] at hb; exact .inl hb
 | true =>
  obtain ⟨dst, op, ty, pos, af, guard⟩ := o
  cases op with
  | mapUpdate t x k v =>
   have hv : ∀ r ∈ (s.eval v).dids, Live s.m r := fun r h => L r (mem_refs (x := v) (by simp [Op.operands]) h)
   have hk : ∀ r ∈ (s.eval k).dids, Live s.m r := fun r h => L r (mem_refs (x := k) (by simp [Op.operands]) h)
   revert hok hb
   show (aMapUpdate P t (s.eval x) (s.eval k) (s.eval v) s.m).ok → (aMapUpdate P t (s.eval x) (s.eval k) (s.eval v) s.m).m.o b = some c → _
   unfold aMapUpdate
   split
   ·rename_i b0 _
    split
    ·rename_i ls zz c0 cs h1 h2 h3
     rw [h3] at hk
     split
     ·intro _ hb
      simp only at hb
      by_cases e : b0 = b
      ·subst e
       rw [upd_same] at hb
       cases hb
       refine .inr fun r hh => ?_
       rcases hh with hh | hh
       ·exact hr.o b0 c0 h2 r (.inl hh)
       ·obtain ⟨y, hy, hyr⟩ := PV.mem_didsL.1 hh
        rcases List.mem_or_eq_of_mem_set hy with hy | rfl
        ·exact hr.o b0 c0 h2 r (.inr (PV.mem_didsL.2 ⟨y, hy, hyr⟩))
        ·exact hv r (share_dids _ hyr)
      ·rw [upd_ne _ _ e] at hb; exact .inl hb
     ·intro _ hb
      simp only at hb
      by_cases e : b0 = b
      ·subst e
       rw [upd_same] at hb
       cases hb
       refine .inr fun r hh => ?_
       rcases hh with hh | hh
       ·obtain ⟨y, hy, hyr⟩ := PV.mem_didsL.1 hh
        rcases List.mem_append.1 hy with hy | hy
        ·exact hr.o b0 c0 h2 r (.inl (PV.mem_didsL.2 ⟨y, hy, hyr⟩))
        ·simp only [List.mem_singleton] at hy
         subst hy
         simp only [PV.dids] at hyr
         exact hk r (by simp only [PV.dids]; exact share_didsL _ hyr)
       ·obtain ⟨y, hy, hyr⟩ := PV.mem_didsL.1 hh
        rcases List.mem_append.1 hy with hy | hy
        ·exact hr.o b0 c0 h2 r (.inr (PV.mem_didsL.2 ⟨y, hy, hyr⟩))
        ·simp only [List.mem_singleton] at hy
         subst hy
         exact hv r (share_dids _ hyr)
      ·rw [upd_ne _ _ e] at hb; exact .inl hb
     ·exact fun h => h.elim
    ·exact fun h => h.elim
   ·exact fun h => h.elim
  | makeSlice t l c => cases hw
  | makeFunc f g h => unfold fp at hw; simp only at hw; split at hw <;> cases hw
  | call cc =>
   obtain ⟨cal, ar, ts⟩ := cc
   cases cal with
   | builtin bb => unfold fp at hw; simp only at hw; split at hw <;> cases hw
   | _ => cases hw
  | _ => cases hw
theorem keeps_aop {s : St} (hr : RefsD s) {o : Oper} (hok : (aop P o s.eval s.m).ok) : Keeps s.m (aop P o s.eval s.m) := by
 have hF := foot_aop hok
 have L := drefs_live hr o
 have nm : NoMem (aop P o s.eval) → (∀ r ∈ (aop P o s.eval s.m).v.dids, r ∈ drefsOf o s.eval) → Keeps s.m (aop P o s.eval s.m) := fun h hf => .same (h s.m s.m hok).1 fun r h => L r (hf r h)
 obtain ⟨dst, op, ty, pos, af, guard⟩ := o
 cases op with
 | move x => exact nm noMem_const fun r h => mem_refs (x := x) (by simp [Op.operands]) h
 | assign x => exact nm noMem_const fun r h => mem_refs (x := x) (by simp [Op.operands]) h
 | pick c x y => exact nm noMem_pick fun r h => (v_pick r h).elim (mem_refs (x := x) (by simp [Op.operands])) (mem_refs (x := y) (by simp [Op.operands]))
 | nilCheck x => exact nm noMem_nilCheck fun r h => mem_refs (x := x) (by simp [Op.operands]) (v_nilCheck r h)
 | binOp op t x y yt => exact nm noMem_bin fun r h => absurd h (v_none v_bin)
 | unOp op t x => exact nm noMem_un fun r h => absurd h (v_none v_un)
 | convert a b x => exact .same (conv_m hok) fun r h => absurd h (v_none v_conv)
 | field t x f => exact nm noMem_field fun r h => mem_refs (x := x) (by simp [Op.operands]) (v_field r h)
 | fieldAddr t x f => exact nm noMem_fieldAddr fun r h => mem_refs (x := x) (by simp [Op.operands]) (v_fieldAddr r h)
 | index t x i => exact nm noMem_index fun r h => mem_refs (x := x) (by simp [Op.operands]) (v_index r h)
 | indexAddr t x i => exact nm noMem_indexAddr fun r h => mem_refs (x := x) (by simp [Op.operands]) (v_indexAddr r h)
 | extract x i => exact nm noMem_extract fun r h => mem_refs (x := x) (by simp [Op.operands]) (v_extract r h)
 | lookup t x k ok =>
  have hop : aop P ⟨dst, .lookup t x k ok, ty, pos, af, guard⟩ s.eval s.m = aLookup P t (s.eval x) (s.eval k) ok s.m := rfl
  rw [hop] at hok ⊢
  refine .same (lookup_facts s.m s.m rfl hok).1 fun r h => ?_
  revert hok h
  unfold aLookup
  split
  ·rename_i ls z c cs h1 h2 h3
   split
   ·intro _ h
    obtain ⟨kt, et, fs, i, zv, t1, t2, t3, t4, t5, rfl, t6⟩ := tmap_spec h1
    exact mapOf_live hr (fun r h => L r (mem_refs (x := x) (by simp [Op.operands]) h)) h2 r (.inr (v_look (dids_ofVal _) h))
   ·exact fun h => h.elim
  ·exact fun h => h.elim
 | entry x =>
  have hop : aop P ⟨dst, .entry x, ty, pos, af, guard⟩ s.eval s.m = aEntry (s.eval x) s.m := rfl
  rw [hop] at hok ⊢
  refine .same (entry_facts s.m s.m rfl rfl hok).1 fun r h => ?_
  revert hok h
  unfold aEntry
  split
  ·split
   ·rename_i itc hit
    split
    ·rename_i c i h2 h3
     intro _ h
     simp only [PV.dids, PV.didsL, List.append_nil, List.mem_append] at h
     unfold mapIt at h2
     cases hc : itc.c with
     | some d =>
      rw [hc] at h2
      simp only [Option.some.injEq] at h2
      subst h2
      exact absurd (h.imp getD_ids getD_ids) (hr.it _ itc d hit hc r)
     | none =>
      rw [hc] at h2
      exact hr.o _ c h2 r (h.imp getD_ids getD_ids)
    ·exact fun h => h.elim
   ·exact fun h => h.elim
  ·exact fun h => h.elim
 | mapUpdate t x k v =>
  have hop : aop P ⟨dst, .mapUpdate t x k v, ty, pos, af, guard⟩ s.eval s.m = aMapUpdate P t (s.eval x) (s.eval k) (s.eval v) s.m := rfl
  rw [hop] at hok ⊢
  obtain ⟨e, _⟩ := update_facts s.m s.m rfl hok
  refine ⟨fun r h => ?_, fun i cs hi => .inl (by rw [e] at hi; exact hi)⟩
  revert hok h
  unfold aMapUpdate
  split
  ·split
   ·split
    ·exact fun _ h => by simp [PV.dids, PV.didsL] at h
    ·exact fun _ h => by simp [PV.dids, PV.didsL] at h
    ·exact fun h => h.elim
   ·exact fun h => h.elim
  ·exact fun h => h.elim
 | build t parts =>
  refine nm noMem_build fun r h => ?_
  obtain ⟨x, hx, hr⟩ := v_build r h
  obtain ⟨y, hy, rfl⟩ := List.mem_map.1 hx
  exact mem_refs (x := y.2) (by simp [Op.operands]; exact ⟨y.1, Array.mem_toList_iff.1 hy⟩) hr
 | slice t x lo hi mx =>
  cases mx with
  | some _ => exact hok.elim
  | none => exact nm noMem_slice fun r h => mem_refs (x := x) (by simp [Op.operands]) (v_slice r h)
 | alloc t =>
  cases dst with
  | none => exact hok.elim
  | some d =>
   cases hz : tzero P t with
   | none => simp only [aop, hz] at hok; exact hok.elim
   | some z => simp only [aop, hz]; exact keeps_new rfl (by rw [zero_ids hz]; simp)
 | box t x =>
  cases dst with
  | none => exact hok.elim
  | some d => exact keeps_new rfl fun r h => L r (mem_refs (x := x) (by simp [Op.operands]) (cellsL_ids h))
 | load t x =>
  simp only [aop] at hok ⊢
  split at hok
  ·rename_i ht
   rw [if_pos ht]
   revert hok
   unfold aLoad
   split
   ·rename_i cs hx
    exact fun _ => .same rfl fun r h => L r (mem_refs (x := x) (by simp [Op.operands]) (by rw [hx]; simp only [PV.dids]; exact partPV_ids h))
   ·split
    ·rename_i cs hh
     exact fun _ => .same rfl fun r h => by
      obtain ⟨c, hc, hcr⟩ := PV.mem_didsL.1 (partPV_ids h)
      exact hr.h _ cs hh c hc r hcr
    ·exact fun h => h.elim
   ·rename_i id n z k off hx
    split
    ·rename_i es hh
     exact fun _ => .same rfl fun r h => hr.v _ es hh r (by
      obtain ⟨c, hc, hcr⟩ := PV.mem_didsL.1 (partPV_ids h)
      exact getD_ids (cells_dids hc hcr))
    ·exact fun h => h.elim
   ·exact fun h => h.elim
  ·exact hok.elim
 | store t x y =>
  simp only [aop] at hok ⊢
  split at hok
  ·rename_i ht
   rw [if_pos ht]
   revert hok
   unfold aStore
   split
   ·rename_i id off hx
    split
    ·rename_i cs hh
     intro hok
     refine ⟨fun r h => by simp [PV.dids, PV.didsL] at h, fun i ds hi => ?_⟩
     have lv : ∀ r, Live s.m r → Live { s.m with h := upd s.m.h id (some (splice cs off (s.eval y).cells)) } r := fun r h => by
      cases r with
      | r i => exact h
      | b i => simp only [Live] at *; unfold upd; split <;> simp_all
     by_cases hd : id = i
     ·subst hd
      simp [upd] at hi
      subst hi
      refine .inr fun r h => lv r ?_
      rcases splice_ids h with h | h
      ·obtain ⟨c, hc, hcr⟩ := PV.mem_didsL.1 h
       exact hr.h id cs hh c hc r hcr
      ·exact L r (mem_refs (x := y) (by simp [Op.operands]) (cellsL_ids h))
     ·left; simpa [upd, hd] using hi
    ·exact fun h => h.elim
   ·split
    ·exact fun _ => ⟨fun r h => by simp [PV.dids, PV.didsL] at h, fun i ds hi => .inl hi⟩
    ·exact fun h => h.elim
   ·exact fun h => h.elim
  ·exact hok.elim
 | makeFunc fn first caps =>
  cases fn with
  | func f =>
   simp only [aop] at hok ⊢
   split at hok
   ·rename_i hf
    rw [if_pos hf]
    refine ⟨fun r h => ?_, fun i cs hi => .inl (by simpa [frozenBy_h] using hi)⟩
    have : Live s.m r := by
     obtain ⟨c, hc, hcr⟩ := PV.mem_didsL.1 (by simpa [PV.dids] using h)
     obtain ⟨x, hx, rfl⟩ := List.mem_map.1 hc
     exact L r (mem_refs (x := x) (by simp [Op.operands]; right; exact Array.mem_toList_iff.1 hx) hcr)
    cases r with
    | b i => simpa [Live, frozenBy_h] using this
    | r i => simpa [Live, frozenBy_q] using this
   ·exact hok.elim
  | _ => exact hok.elim
 | buildSlice t len parts =>
  cases dst with
  | none => exact hok.elim
  | some d =>
   cases he : telem P t with
   | none => simp only [aop, aBuildSlice, he] at hok; exact hok.elim
   | some ei =>
    simp only [aop, aBuildSlice, he]
    refine ⟨fun r h => ?_, fun i cs hi => .inl hi⟩
    simp only [PV.dids, List.mem_cons] at h
    rcases h with rfl | h
    ·exact live_setq_self
    ·obtain ⟨c, hc, hcr⟩ := PV.mem_didsL.1 h
     obtain ⟨x, hx, rfl⟩ := List.mem_map.1 hc
     obtain ⟨y, hy, rfl⟩ := List.mem_map.1 hx
     exact live_setq _ (L r (mem_refs (x := y.2) (by simp [Op.operands]; exact ⟨y.1, Array.mem_toList_iff.1 hy⟩) (share_dids _ hcr)))
 | makeSlice t l c =>
  cases dst with
  | none => exact hok.elim
  | some d =>
   by_cases hl : ∃ k, l = .const (.int k 0)
   ·obtain ⟨k, rfl⟩ := hl
    have hop : aop P ⟨some d, .makeSlice t (.const (.int k 0)) c, ty, pos, af, guard⟩ s.eval s.m = aMakeRow P d t (s.eval c) s.m := rfl
    rw [hop] at hok ⊢
    revert hok
    unfold aMakeRow
    split
    ·exact fun _ => ⟨fun r h => by simp [PV.dids, PV.didsL] at h; subst h; exact live_setq_self, fun i cs hi => .inl hi⟩
    ·exact fun h => h.elim
   ·have hop : aop P ⟨some d, .makeSlice t l c, ty, pos, af, guard⟩ s.eval s.m = aMakeFull P d t (s.eval l) (s.eval c) s.m := by
     unfold aop
     simp only
     split
     ·rename_i k; exact absurd ⟨_, rfl⟩ hl
     ·rfl
    rw [hop] at hok ⊢
    revert hok
    unfold aMakeFull
    split
    ·split
     ·rename_i z hz
      refine fun _ => ⟨fun r h => ?_, fun i cs hi => .inl hi⟩
      simp only [PV.dids, List.mem_cons] at h
      rcases h with rfl | h
      ·exact live_setq_self
      ·obtain ⟨c', hc, hcr⟩ := PV.mem_didsL.1 h
       rw [List.eq_of_mem_replicate hc, tz_ids hz] at hcr
       cases hcr
     ·exact fun h => h.elim
    ·exact fun h => h.elim
 | call c =>
  obtain ⟨callee, args, ts⟩ := c
  cases callee with
  | builtin b =>
   simp only [aop] at hok ⊢
   revert hok
   unfold aBuiltin
   split
   ·split
    ·exact fun hok => .same (mapLen_facts s.m s.m rfl hok).1 fun r h => absurd h (v_none (by unfold aMapLen; split <;> rfl))
    ·exact fun hok => .same (noMem_len s.m s.m hok).1 fun r h => absurd h (v_none v_len)
   ·rename_i t tx x y hts hxs
    have hx : ∀ r ∈ x.dids, Live s.m r := fun r h => by
     have : x ∈ args.toList.map s.eval := by rw [hxs]; simp
     obtain ⟨z, hz, rfl⟩ := List.mem_map.1 this
     exact L r (mem_refs (x := z) (by simp [Op.operands, Call.operands]; exact Array.mem_toList_iff.1 hz) h)
    have hy : ∀ r ∈ y.dids, Live s.m r := fun r h => by
     have : y ∈ args.toList.map s.eval := by rw [hxs]; simp
     obtain ⟨z, hz, rfl⟩ := List.mem_map.1 this
     exact L r (mem_refs (x := z) (by simp [Op.operands, Call.operands]; exact Array.mem_toList_iff.1 hz) h)
    have hys : ∀ ys, appended P tx y = some ys → ∀ r ∈ PV.didsL ys, Live s.m r := fun ys h r hr => by
     unfold appended at h
     split at h
     ·cases h; exact hy r (sl_dids hr)
     ·cases h
      obtain ⟨c, hc, hcr⟩ := PV.mem_didsL.1 hr
      unfold bytesPV at hc
      obtain ⟨z, hz, rfl⟩ := List.mem_map.1 hc
      simp [PV.dids] at hcr
     ·cases h
    split
    ·unfold aAppend
     split
     ·rename_i ys _ _ hyy
      refine fun _ => ⟨fun r h => ?_, fun i cs hi => .inl hi⟩
      simp only [PV.dids, List.mem_cons] at h
      rcases h with rfl | h
      ·exact live_setq_self
      ·exact live_setq _ (hys _ (by assumption) r h)
     ·split
      ·refine fun _ => ⟨fun r h => ?_, fun i cs hi => .inl ?_⟩
       ·simp only [PV.dids, List.mem_cons] at h
        rcases h with rfl | h
        ·simp only
         split <;> exact live_setq_self
        ·have : Live s.m r := by
          obtain ⟨c, hc, hcr⟩ := PV.mem_didsL.1 h
          rcases List.mem_append.1 hc with hc | hc
          ·exact hx r (sl_dids (PV.mem_didsL.2 ⟨c, hc, hcr⟩))
          ·exact hys _ (by assumption) r (PV.mem_didsL.2 ⟨c, hc, hcr⟩)
         simp only
         split
         ·exact live_setq _ this
         ·exact live_setq _ (live_setq _ this)
       ·simp only at hi
        split at hi <;> exact hi
      ·exact fun h => h.elim
     ·exact fun h => h.elim
    ·exact fun h => h.elim
   ·exact fun hok => .same (noMem_max s.m s.m hok).1 fun r h => absurd h (v_none v_max)
   ·exact fun hok => .same (noMem_min s.m s.m hok).1 fun r h => absurd h (v_none v_min)
   ·exact fun hok => .same (noMem_cpx s.m s.m hok).1 fun r h => absurd h (v_none v_cpx)
   ·exact fun hok => .same (noMem_real s.m s.m hok).1 fun r h => absurd h (v_none v_real)
   ·exact fun hok => .same (noMem_imag s.m s.m hok).1 fun r h => absurd h (v_none v_imag)
   ·exact fun h => h.elim
  | _ => exact hok.elim
 | _ => exact hok.elim
theorem putPV_dids {x v : PV} {off : Nat} {r : Ref} (h : r ∈ (putPV x off v).dids) : r ∈ x.dids ∨ r ∈ v.dids := by
 unfold putPV at h
 split at h
 ·exact .inr h
 ·simp only [PV.dids] at h
  obtain ⟨c, hc, hcr⟩ := PV.mem_didsL.1 h
  simp only [splice, List.mem_append] at hc
  rcases hc with (hc | hc) | hc
  ·exact .inl (cells_dids (List.mem_of_mem_take hc) hcr)
  ·exact .inr (cells_dids hc hcr)
  ·exact .inl (cells_dids (List.mem_of_mem_drop hc) hcr)
theorem keeps_vec {s : St} (hr : RefsD s) {o : Oper} (hok : (aop P o s.eval s.m).ok) : ∀ i es, (aop P o s.eval s.m).m.v i = some es → ∀ r ∈ PV.didsL es, Live s.m r := by
 intro i es hi
 have hF := foot_aop hok
 have L := drefs_live hr o
 by_cases hw : Wh o s.eval (.r i)
 ·obtain ⟨dst, op, ty, pos, af, guard⟩ := o
  have hwh : (fp op).wh = true := by
   rcases hw with ⟨w, _⟩ | ⟨_, _, _, e⟩
   ·exact w
   ·cases e
  cases op with
  | store t x y =>
   have hy : ∀ r ∈ (s.eval y).dids, Live s.m r := fun r h => L r (mem_refs (x := y) (by simp [Op.operands]) h)
   revert hok hi
   show ((if tkn P t then aStore P t (s.eval x) (s.eval y) s.m else .fail).ok) → ((if tkn P t then aStore P t (s.eval x) (s.eval y) s.m else .fail).m.v i = some es) → _
   split
   ·unfold aStore
    split
    ·split
     ·exact fun _ hi => hr.v i es hi
     ·exact fun h => h.elim
    ·rename_i id n z k off hxe
     split
     ·rename_i es0 hv0
      intro _ hi
      by_cases e : id = i
      ·subst e
       simp only [upd_same, Option.some.injEq] at hi
       subst hi
       intro r h
       obtain ⟨c, hc, hcr⟩ := PV.mem_didsL.1 h
       rcases List.mem_or_eq_of_mem_set hc with hc | rfl
       ·exact hr.v _ _ hv0 r (PV.mem_didsL.2 ⟨c, hc, hcr⟩)
       ·rcases putPV_dids hcr with h1 | h1
        ·exact hr.v _ _ hv0 r (getD_ids h1)
        ·exact hy r h1
      ·simp only [upd_ne _ _ e] at hi
       exact hr.v i es hi
     ·exact fun h => h.elim
    ·exact fun h => h.elim
   ·exact fun h => h.elim
  | makeSlice t l c => cases hwh
  | makeFunc f g h => unfold fp at hwh; simp only at hwh; split at hwh <;> cases hwh
  | call cc =>
   obtain ⟨cal, ar, ts⟩ := cc
   cases cal with
   | builtin bb => unfold fp at hwh; simp only at hwh; split at hwh <;> cases hwh
   | _ => cases hwh
  | _ => cases hwh
 ·have : (aop P o s.eval s.m).m.v i = s.m.v i := hF.h1 (.r i) hw
  rw [this] at hi
  exact hr.v i es hi
theorem refs_yield {s s' : St} {o : Oper} (hr : RefsD s) (h : Yield P ops o s s') : RefsD s' := by
 have put : ∀ (m' : Hp) (v : PV), (∀ r, Live s.m r → Live m' r) → (∀ r ∈ v.dids, Live m' r) → (∀ i cs, m'.h i = some cs → s.m.h i = some cs ∨ ∀ r ∈ PV.didsL cs, Live m' r) → (∀ b c, m'.o b = some c → s.m.o b = some c ∨ ∀ r, (r ∈ PV.didsL c.ks ∨ r ∈ PV.didsL c.vs) → Live s.m r) → m'.io = s.m.io → (∀ i es, m'.v i = some es → ∀ r ∈ PV.didsL es, Live s.m r) → RefsD ((s.with m').put o.dst v) := fun m' v hl hv hh ho hio hvv => by
  have hit : m'.it = s.m.it := congrArg (fun x => x.1) hio
  have hom : m'.om = s.m.om := congrArg (fun x => x.2.1) hio
  refine ⟨fun i r h => ?_, fun i cs hi c hc r h => ?_, fun b c hc r h => ?_, fun b x c hx hc r h => ?_, fun i es hi r h => ?_, fun b c hc r h => ?_⟩
  ·rw [put_m]
   by_cases hd : o.dst = some i
   ·rw [hd] at h
    simp only [St.put, upd, if_true] at h
    exact hv r h
   ·rw [put_fr hd] at h
    exact hl r (hr.fr i r h)
  ·rw [put_m] at hi ⊢
   rcases hh i cs hi with h1 | h1
   ·exact hl r (hr.h i cs h1 c hc r h)
   ·exact h1 r (PV.mem_didsL.2 ⟨c, hc, h⟩)
  ·rw [put_m] at hc ⊢
   rcases ho b c hc with h1 | h1
   ·exact hl r (hr.o b c h1 r h)
   ·exact hl r (h1 r h)
  ·rw [put_m] at hx
   have hx : m'.it b = some x := hx
   rw [hit] at hx
   exact hr.it b x c hx hc r h
  ·rw [put_m] at hi ⊢
   exact hl r (hvv i es hi r h)
  ·rw [put_m] at hc ⊢
   have hc : m'.om b = some c := hc
   rw [hom] at hc
   exact hl r (hr.om b c hc r h)
 obtain ⟨_, h⟩ := h
 rcases h with ⟨_, v, m', hs, rfl⟩ | ⟨_, rfl⟩
 ·have F := foot_step hs
  have hl : ∀ r, Live s.m r → Live m' r := fun r h => by
   cases r with
   | b i => exact F.hl i h
   | r i => exact F.ql i h
  rcases hs with ⟨h1, rfl, rfl⟩ | ⟨c, g, args, ho, hc, hg, hp, rfl⟩
  ·have K := keeps_aop hr h1
   exact put _ _ hl K.1 K.2 (keeps_map hr h1) F.i1 (keeps_vec hr h1)
  ·exact put _ _ hl (by rw [hp.2.1]; simp) (fun i cs hi => .inl hi) (fun b c hc => .inl hc) rfl hr.v
 ·exact put s.m (.tup []) (fun r h => h) (by simp [PV.dids, PV.didsL]) (fun i cs hi => .inl hi) (fun b c hc => .inl hc) rfl hr.v
end
end Go.PL
namespace Go.PL
open Go.RowKit
set_option linter.unusedVariables false
section
variable {P : Program} {ops : Array Oper} {md : Region.Mode}
def anyA (P : Program) (md : Region.Mode) (ops : Array Oper) (K : St → Prop) : Nat → Array Bool → St → Prop
 | 0, listed, s => Region.ready md ops listed = [] ∧ K s
 | fuel + 1, listed, s => (Region.ready md ops listed = [] → K s) ∧ ∀ i ∈ Region.ready md ops listed, ∃ o s', ops[i]? = some o ∧ Yield P ops o s s' ∧ anyA P md ops K fuel (listed.setIfInBounds i true) s'
theorem anyA_first {K : St → Prop} {i : Nat} {oi : Oper} (hi : ops[i]? = some oi) :
  ∀ (fuel : Nat) (listed : Array Bool) (s s1 : St), RefsD s →
   (∀ j oj, ops[j]? = some oj → j ≠ i → listed.getD j true = false → (∀ e ∈ oj.after, Region.binds md e = true → e.on ≠ i) → oi.apart ops oj = true ∧ compat oi.op oj.op = true) →
   i ∈ Region.ready md ops listed → Yield P ops oi s s1 →
   anyA P md ops K fuel (listed.setIfInBounds i true) s1 → anyA P md ops K (fuel + 1) listed s := by
 intro fuel
 induction fuel with
 | zero =>
  intro listed s s1 hR _ hr hy H
  refine ⟨fun h => (by rw [h] at hr; cases hr), fun j hj => ?_⟩
  by_cases hji : j = i
  ·subst hji; exact ⟨oi, s1, hi, hy, H⟩
  ·have := ready_mono hj hji
   rw [H.1] at this
   cases this
 | succ fuel ih =>
  intro listed s s1 hR hfree hr hy H
  refine ⟨fun h => (by rw [h] at hr; cases hr), fun j hj => ?_⟩
  by_cases hji : j = i
  ·subst hji; exact ⟨oi, s1, hi, hy, H⟩
  ·obtain ⟨oj, s2, hoj, hy2, h1⟩ := H.2 j (ready_mono hj hji)
   obtain ⟨hjun, oj', hoj', hall⟩ := mem_ready.1 hj
   rw [hoj] at hoj'; cases hoj'
   have hnot : ∀ e ∈ oj.after, Region.binds md e = true → e.on ≠ i := fun e he hb heq => by
    have h1 := hall e he hb
    have h0 := (mem_ready.1 hr).1
    rw [heq] at h1
    rcases Nat.lt_or_ge i listed.size with h' | h'
    ·simp [h'] at h0 h1; rw [h0] at h1; cases h1
    ·simp [Array.getElem?_eq_none h'] at h1
   obtain ⟨hap, hcp⟩ := hfree j oj hoj hji hjun hnot
   obtain ⟨s1', hya, hyb⟩ := yield_swap hR.refs hap hcp hy hy2
   have hfree' : ∀ k ok, ops[k]? = some ok → k ≠ i → (listed.setIfInBounds j true).getD k true = false →
     (∀ e ∈ ok.after, Region.binds md e = true → e.on ≠ i) → oi.apart ops ok = true ∧ compat oi.op ok.op = true := fun k ok hk hki hun hno => by
    refine hfree k ok hk hki ?_ hno
    by_cases hjk : j = k
    ·subst hjk; exact hjun
    ·rw [getD_set_ne true hjk] at hun; exact hun
   refine ⟨oj, s1', hoj, hya, ih (listed.setIfInBounds j true) s1' s2 (refs_yield hR hya) hfree' (ready_mono hr (Ne.symm hji)) hyb ?_⟩
   rw [Array.setIfInBounds_comm _ _ hji]
   exact h1
def freeA (md : Region.Mode) (ops : Array Oper) (listed : Array Bool) (i : Nat) : Bool :=
 match ops[i]? with
 | none => false
 | some oi => (List.range ops.size).all fun j => j == i || listed.getD j true || match ops[j]? with
   | some oj => oj.after.any (fun e => Region.binds md e && e.on == i) || (oi.apart ops oj && compat oi.op oj.op)
   | none => true
theorem freeA_spec {i : Nat} {oi : Oper} {listed : Array Bool} (hi : ops[i]? = some oi) (h : freeA md ops listed i = true) (j : Nat) (oj : Oper)
  (hj : ops[j]? = some oj) (hne : j ≠ i) (hun : listed.getD j true = false) (hno : ∀ e ∈ oj.after, Region.binds md e = true → e.on ≠ i) :
  oi.apart ops oj = true ∧ compat oi.op oj.op = true := by
 simp only [freeA, hi, List.all_eq_true, List.mem_range] at h
 have h1 := h j (Array.getElem?_eq_some_iff.1 hj).1
 simp only [hj, Bool.or_eq_true, beq_iff_eq, hne, false_or, hun, Bool.false_eq_true] at h1
 rcases h1 with h1 | h1
 ·obtain ⟨e, he, hb⟩ := Array.any_eq_true'.1 h1
  simp only [Bool.and_eq_true, beq_iff_eq] at hb
  exact absurd hb.2 (hno e he hb.1)
 ·simpa using h1
def lexFromA (md : Region.Mode) (ops : Array Oper) : Nat → Nat → Array Bool → Bool
 | 0, _, listed => (Region.ready md ops listed).isEmpty
 | fuel + 1, k, listed => (Region.ready md ops listed).contains k && freeA md ops listed k && lexFromA md ops fuel (k + 1) (listed.setIfInBounds k true)
def drawB (ops : Array Oper) : Bool := lexFromA .any ops ops.size 0 (Array.replicate ops.size false)
theorem anyA_lex {K : St → Prop} : ∀ (l : List Oper) (k : Nat) (listed : Array Bool) (s : St), RefsD s → (∀ j, l[j]? = ops[k + j]?) →
  lexFromA md ops l.length k listed = true → lexA P ops K l s → anyA P md ops K l.length listed s
 | [], _, _, _, _, _, hB, h => ⟨by simpa [lexFromA] using hB, h⟩
 | o :: l, k, listed, s, hR, hl, hB, h => by
  have h0 : ops[k]? = some o := by simpa using (hl 0).symm
  simp only [List.length_cons, lexFromA, Bool.and_eq_true] at hB
  obtain ⟨⟨hr, hf⟩, hB'⟩ := hB
  obtain ⟨hd, h⟩ := h
  have hl' : ∀ j, l[j]? = ops[(k + 1) + j]? := fun j => by have := hl (j + 1); simpa [Nat.add_assoc, Nat.add_comm 1 j] using this
  rcases h with ⟨hg, v, m', hst, hrest⟩ | ⟨hg, hrest⟩
  ·have hy : Yield P ops o s ((s.with m').put o.dst v) := ⟨hd, .inl ⟨hg, v, m', hst, rfl⟩⟩
   exact anyA_first h0 l.length listed s _ hR (freeA_spec h0 hf) (by simpa using hr) hy (anyA_lex l (k + 1) _ _ (refs_yield hR hy) hl' hB' hrest)
  ·have hy : Yield P ops o s (s.put o.dst (.tup [])) := ⟨hd, .inr ⟨hg, rfl⟩⟩
   exact anyA_first h0 l.length listed s _ hR (freeA_spec h0 hf) (by simpa using hr) hy (anyA_lex l (k + 1) _ _ (refs_yield hR hy) hl' hB' hrest)
theorem any_sound {K : St → Prop} {B : Frm} {Qc : Exit → Act → World → Prop} {S0 : Stable} {w0 : World} (hQ : ∀ s' S' M' a' w', K s' → Sim B S' M' s' a' w' → Ext B S0 S' w0 w' → Qc .normal a' w') :
  ∀ (fuel : Nat) (listed : Array Bool) (s : St), anyA P md ops K fuel listed s → ∀ S M a w, Sim B S M s a w → Ext B S0 S w0 w → wpAny P md ops Qc fuel listed a w
 | 0, _, s, h, S, M, a, w, hs, he => ⟨h.1, hQ s S M a w h.2 hs he⟩
 | fuel + 1, listed, s, h, S, M, a, w, hs, he => ⟨fun h0 => hQ s S M a w (h.1 h0) hs he, fun i hi => by
   obtain ⟨o, s', ho, hy, hn⟩ := h.2 i hi
   unfold wpOp
   simp only [ho]
   obtain ⟨hd, hy⟩ := hy
   rcases hy with ⟨hg, v, m', hst, rfl⟩ | ⟨hg, rfl⟩
   ·rw [gd_ok hs hg, if_pos rfl]
    exact .inl (step_sound hs (dstOk_spec hd) hst _ _ fun u w' S' M' hs' he' => any_sound hQ fuel _ _ hn S' M' _ w' hs' (he.trans he'))
   ·rw [gd_ok hs hg, if_neg (by simp)]
    exact any_sound hQ fuel _ _ hn S M _ w (skip_sim hs hd) he⟩
theorem awp_draw {id : Nat} {Q : Exit → St → Prop} {s : St} (hm : P.follows .mixedOrders = true) (hB : drawB ops = true) (h : lexA P ops (Q .normal) ops.toList s) : awp P (.region id ops true) Q s := fun B S M a w hs => by
 refine wp_region_any hm ?_
 have he : Ext B S S w { w with drawn := w.drawn + 1 } := ⟨SLe.refl _, fun _ _ => ⟨fun _ => rfl, rfl⟩, (BelowF.refl B w).drew⟩
 have hs' : Sim B S M s a { w with drawn := w.drawn + 1 } := hs.world rfl
 have := anyA_lex (P := P) (K := Q .normal) (md := .any) ops.toList 0 (Array.replicate ops.size false) s hs.refsD (by simp) (by simpa [drawB] using hB) h
 have := any_sound (B := B) (S0 := S) (w0 := w) (Qc := fun e a' w' => ∃ s' S' M', Q e s' ∧ Sim B S' M' s' a' w' ∧ Ext B S S' w w') (fun s' S' M' a' w' h1 h2 h3 => ⟨s', S', M', h1, h2, h3⟩) _ _ s this S M a _ hs' he
 simpa using this
theorem vDraw {id : Nat} {l : List Oper} {Q : Exit → St → Prop} {s : St} (hm : P.follows .mixedOrders = true) (hB : drawB l.toArray = true) (h : @vA P false ⟨Q .normal⟩ ⟨l⟩ ⟨l⟩ s) : awp P (.region id l.toArray true) Q s :=
 awp_draw hm hB (by simpa using vcA_lex l s h)
end
end Go.PL
namespace Go.PL
open Go.RowKit
set_option linter.unusedVariables false
def asPV (ag : Bool) (ds : List PV) : PV := if ag then .agg ds else ds.getD 0 .any
theorem nb_true {b : Bool} (h : (!b) = false) : b = true := by cases b <;> simp_all
def oddB (P : Program) (t : TypeId) : Bool :=
 match P.underlying t with
 | some (.slice e) => !(decide (0 < P.cellsOf e) && (tagg P e || P.cellsOf e == 1))
 | some (.pointer e) => !decide (0 < P.cellsOf e)
 | _ => false
mutual
inductive PT (P : Program) : TypeId → List PV → Prop
 | bool {t : TypeId} (h : P.underlying t = some .bool) (b : Bool) : PT P t [.bool b]
 | int {t : TypeId} {k : IntKind} (h : P.underlying t = some (.int k)) (n : Int) (h1 : k.min ≤ n) (h2 : n ≤ k.max) : PT P t [.int k n]
 | flt {t : TypeId} {k : FloatKind} (h : P.underlying t = some (.float k)) (b : Nat) (hw : (Lit.float k b).wf = true) : PT P t [.flt k b]
 | str {t : TypeId} (h : P.underlying t = some .string) (l : List UInt8) (hl : l.length ≤ maxLen) : PT P t [.str l]
 | nilp {t e : TypeId} (h : P.underlying t = some (.pointer e)) : PT P t [.nilp]
 | ptr {t e : TypeId} (h : P.underlying t = some (.pointer e)) (cs : List PV) (hp : PT P e cs) : PT P t [.rptr cs]
 | sl {t e : TypeId} (h : P.underlying t = some (.slice e)) (n : Nat) (hn : n ≤ maxLen) (f : Nat → List PV) (hp : ∀ i, i < n → PT P e (f i)) : PT P t [.sl .no ((List.range n).map fun i => asPV (tagg P e) (f i))]
 | str' {t : TypeId} {fs : Array Field} (h : P.underlying t = some (.struct fs)) (cs : List PV) (hp : PTs P (fs.toList.map (·.type)) cs) : PT P t cs
 | arr {t e : TypeId} {n : Nat} (h : P.underlying t = some (.array n e)) (cs : List PV) (hp : PTs P (List.replicate n e) cs) : PT P t cs
 | odd {t : TypeId} (h : oddB P t = true) : PT P t [.any]
 | any {t : TypeId} (h : ∀ d, P.underlying t = some d → (match d with | .interface _ | .map _ _ | .func .. | .chan .. | .unsafePointer => True | _ => False)) : PT P t [.any]
inductive PTs (P : Program) : List TypeId → List PV → Prop
 | nil : PTs P [] []
 | cons {t : TypeId} {ts : List TypeId} {a b : List PV} (h : PT P t a) (hs : PTs P ts b) : PTs P (t :: ts) (a ++ b)
end
def offsOk (P : Program) : Nat → List Field → Option Nat
 | o, [] => some o
 | o, f :: fs => if f.offset = o then offsOk P (o + P.cellsOf f.type) fs else none
def layB (P : Program) (t : TypeId) : Bool :=
 match P.underlying t with
 | some (.struct fs) => offsOk P 0 fs.toList == some (P.cellsOf t) && fs.toList.all fun f => decide (f.type < P.types.size)
 | some (.array n e) => P.cellsOf t == n * P.cellsOf e && decide (e < P.types.size)
 | some (.slice e) => decide (e < P.types.size)
 | some (.pointer e) => decide (e < P.types.size)
 | _ => true
def layAll (P : Program) : Bool := (List.range P.types.size).all (layB P)
def RepC (S : Stable) (vs : List Value) (ps : List PV) : Prop := vs.length = ps.length ∧ ∀ i, i < ps.length → Rep S (vs.getD i undef) (ps.getD i .any)
section
variable {P : Program} {S : Stable}
theorem RepC.nil : RepC S [] [] := ⟨rfl, fun i hi => by simp at hi⟩
theorem RepC.one {v : Value} {p : PV} (h : Rep S v p) : RepC S [v] [p] := ⟨rfl, fun i hi => by
 have : i = 0 := by simpa using hi
 subst this; exact h⟩
theorem RepC.append {vs ws : List Value} {ps qs : List PV} (h : RepC S vs ps) (h' : RepC S ws qs) : RepC S (vs ++ ws) (ps ++ qs) := by
 refine ⟨by simp [h.1, h'.1], fun i hi => ?_⟩
 by_cases h1 : i < ps.length
 ·rw [getD_append_left (by rw [h.1]; exact h1), getD_append_left h1]; exact h.2 i h1
 ·have h1' : ps.length ≤ i := by omega
  have h2 := h'.2 (i - ps.length) (by simp at hi; omega)
  have e1 : (vs ++ ws).getD i undef = ws.getD (i - ps.length) undef := by
   simp only [List.getD_eq_getElem?_getD]; rw [List.getElem?_append_right (by rw [h.1]; exact h1'), h.1]
  have e2 : (ps ++ qs).getD i .any = qs.getD (i - ps.length) .any := by
   simp only [List.getD_eq_getElem?_getD]; rw [List.getElem?_append_right h1']
  rw [e1, e2]; exact h2
def cellsOf (w : World) : Stable := ⟨fun b o => w.cell? ⟨b, o, none⟩, fun _ => none⟩
theorem lay_of {t : TypeId} (hl : layAll P = true) (h : t < P.types.size) : layB P t = true :=
 List.all_eq_true.1 hl t (List.mem_range.2 h)
theorem mapM_some {α β : Type} {f : α → Option β} : ∀ {l : List α} {xs : List β}, l.mapM f = some xs → ∀ a ∈ l, ∃ x, f a = some x
 | [], _, _, a, ha => by cases ha
 | b :: l, xs, h, a, ha => by
  rw [List.mapM_cons] at h
  cases hb : f b with
  | none => rw [hb] at h; cases h
  | some y =>
   rw [hb] at h
   cases hl : l.mapM f with
   | none => rw [hl] at h; cases h
   | some ys =>
    rcases List.mem_cons.1 ha with rfl | ha
    ·exact ⟨y, hb⟩
    ·exact mapM_some hl a ha
theorem cells_some {w : World} {base : Nat} {a : Addr} {n : Nat} {cs : List Value} (h : w.cells? base a n = some cs) : cs.length = n ∧ ∀ i, i < n → w.cell? (a.add i) = some (cs.getD i undef) := by
 unfold World.cells? at h
 split at h
 ·have go : ∀ (l : List Nat) (cs : List Value), (l.mapM fun i => w.cell? (a.add i)) = some cs → cs.length = l.length ∧ ∀ i, i < l.length → w.cell? (a.add (l.getD i 0)) = some (cs.getD i undef) := by
   intro l
   induction l with
   | nil => intro cs h; simp at h; subst h; simp
   | cons b l ih =>
    intro cs h
    rw [List.mapM_cons] at h
    cases hb : w.cell? (a.add b) with
    | none => rw [hb] at h; cases h
    | some y =>
     rw [hb] at h
     cases hl : (l.mapM fun i => w.cell? (a.add i)) with
     | none => rw [hl] at h; cases h
     | some ys =>
      rw [hl] at h
      simp at h
      subst h
      obtain ⟨h1, h2⟩ := ih ys hl
      refine ⟨by simp [h1], fun i hi => ?_⟩
      cases i with
      | zero => simpa using hb
      | succ i => simpa using h2 i (by simpa using hi)
  obtain ⟨h1, h2⟩ := go _ _ h
  refine ⟨by simpa using h1, fun i hi => ?_⟩
  have := h2 i (by simpa using hi)
  simpa [List.getD_eq_getElem?_getD, hi] using this
 ·cases h
theorem struct_pts {g : TypeId → List Value → Prop} (hg : ∀ t cs, t < P.types.size → g t cs → ∃ ps, RepC S cs ps ∧ PT P t ps) : ∀ (fs : List Field) (o n : Nat) (cs : List Value), offsOk P o fs = some n → cs.length = n →
  (∀ f ∈ fs, f.type < P.types.size) → (∀ f ∈ fs, g f.type ((cs.drop f.offset).take (P.cellsOf f.type))) → ∃ ps, RepC S (cs.drop o) ps ∧ PTs P (fs.map (·.type)) ps
 | [], o, n, cs, ho, hn, _, _ => by
  simp only [offsOk, Option.some.injEq] at ho
  subst ho
  rw [List.drop_eq_nil_of_le (by omega)]
  exact ⟨[], .nil, .nil⟩
 | f :: fs, o, n, cs, ho, hn, hlt, h => by
  simp only [offsOk] at ho
  split at ho
  ·rename_i hof
   obtain ⟨ps, h1, h2⟩ := struct_pts hg fs _ n cs ho hn (fun f hf => hlt f (by simp [hf])) (fun f hf => h f (by simp [hf]))
   obtain ⟨qs, h3, h4⟩ := hg _ _ (hlt f (by simp)) (h f (by simp))
   rw [hof] at h3
   refine ⟨qs ++ ps, ?_, .cons h4 h2⟩
   have := h3.append h1
   rwa [show cs.drop (o + P.cellsOf f.type) = (cs.drop o).drop (P.cellsOf f.type) by rw [List.drop_drop], List.take_append_drop] at this
  ·cases ho
theorem array_pts {g : TypeId → List Value → Prop} (hg : ∀ t cs, t < P.types.size → g t cs → ∃ ps, RepC S cs ps ∧ PT P t ps) {e : TypeId} (he : e < P.types.size) : ∀ (n k : Nat) (cs : List Value), cs.length = (k + n) * P.cellsOf e →
  (∀ i, i < k + n → g e ((cs.drop (i * P.cellsOf e)).take (P.cellsOf e))) → ∃ ps, RepC S (cs.drop (k * P.cellsOf e)) ps ∧ PTs P (List.replicate n e) ps
 | 0, k, cs, hn, _ => by
  rw [List.drop_eq_nil_of_le (by rw [hn, Nat.add_zero]; exact Nat.le_refl _)]
  exact ⟨[], .nil, .nil⟩
 | n + 1, k, cs, hn, h => by
  obtain ⟨ps, h1, h2⟩ := array_pts hg he n (k + 1) cs (by rw [hn]; congr 1; omega) (fun i hi => h i (by omega))
  obtain ⟨qs, h3, h4⟩ := hg _ _ he (h k (by omega))
  refine ⟨qs ++ ps, ?_, .cons h4 h2⟩
  have := h3.append h1
  rwa [show cs.drop ((k + 1) * P.cellsOf e) = (cs.drop (k * P.cellsOf e)).drop (P.cellsOf e) by rw [List.drop_drop, Nat.succ_mul], List.take_append_drop] at this
theorem PT.noAgg {t : TypeId} {ps : List PV} (h : PT P t ps) (ha : tagg P t = false) (h1 : ps.length = 1) : (ps.getD 0 .any).cells = ps := by
 cases h with
 | str' h => unfold tagg at ha; rw [h] at ha; cases ha
 | arr h => unfold tagg at ha; rw [h] at ha; cases ha
 | _ => rfl
theorem asPV_cells {t : TypeId} {ps : List PV} (h : PT P t ps) (h1 : tagg P t = true ∨ ps.length = 1) : (asPV (tagg P t) ps).cells = ps := by
 unfold asPV
 cases ha : tagg P t with
 | true => rfl
 | false => exact h.noAgg ha (by simpa [ha] using h1)
theorem spot_none {w : World} {a : Addr} {v : Value} (h : w.cell? a = some v) : a = ⟨a.block, a.off, none⟩ := by
 obtain ⟨b, o, s⟩ := a
 unfold World.cell? at h
 split at h
 ·split at h
  ·cases h
  ·cases s <;> simp_all
 ·cases h
theorem add_zero (a : Addr) : a.add 0 = a := by unfold Addr.add; simp
theorem trod_pt {H : Type} {enc : TypeId × Value → H} {w : World} {base : Nat} {spare : Nat → Bool} {held : Bool} (hl : layAll P = true) :
  ∀ (fuel : Nat) (t : TypeId) (cs : List Value) (x : DataW H × List MemPlace), t < P.types.size → DataW.trod enc P w base spare held fuel t cs = some x → ∃ ps, RepC (cellsOf w) cs ps ∧ PT P t ps := by
 intro fuel
 induction fuel with
 | zero => intro t cs x _ h; cases h
 | succ fuel ih =>
  intro t cs x ht h
  have lay := lay_of hl ht
  have any : ∀ {v : Value}, (∀ d, P.underlying t = some d → (match d with | .interface _ | .map _ _ | .func .. | .chan .. | .unsafePointer => True | _ => False)) → ∃ ps, RepC (cellsOf w) [v] ps ∧ PT P t ps := fun h => ⟨_, .one (.any _), .any h⟩
  have anyd : ∀ {v : Value} {d : TypeDesc}, P.underlying t = some d → (match d with | .interface _ | .map _ _ | .func .. | .chan .. | .unsafePointer => True | _ => False) → ∃ ps, RepC (cellsOf w) [v] ps ∧ PT P t ps := fun h1 h2 => any fun d hd => by rw [h1] at hd; cases hd; exact h2
  unfold DataW.trod at h
  split at h
  ·rename_i hu; exact ⟨_, .one (.bool _), .bool hu _⟩
  ·rename_i hu
   split at h
   ·rename_i hk
    obtain ⟨rfl, hw⟩ := hk
    simp only [Lit.wf, Bool.and_eq_true, decide_eq_true_eq] at hw
    exact ⟨_, .one (.int _ _), .int hu _ hw.1 hw.2⟩
   ·cases h
  ·rename_i hu
   split at h
   ·rename_i hk
    obtain ⟨rfl, hw⟩ := hk
    exact ⟨_, .one (.flt _ _), .flt hu _ hw⟩
   ·cases h
  ·rename_i s hu
   split at h
   ·rename_i hk
    obtain ⟨⟨l⟩⟩ := s
    exact ⟨_, .one (.str l), .str hu l hk⟩
   ·cases h
  ·rename_i hu; exact ⟨_, .one .nilp, .nilp hu⟩
  ·rename_i e a hu
   by_cases hod : oddB P t = true
   ·exact ⟨_, .one (.any _), .odd hod⟩
   have lay0 : decide (0 < P.cellsOf e) = true := by
    have : oddB P t = false := by simpa using hod
    unfold oddB at this
    rw [hu] at this
    exact nb_true this
   simp only [layB, hu, decide_eq_true_eq] at lay lay0
   obtain ⟨x', hx, _⟩ := Option.map_eq_some_iff.1 h
   obtain ⟨ds, hc, hx⟩ := Option.bind_eq_some_iff.1 hx
   obtain ⟨ps, h1, h2⟩ := ih _ _ _ lay hx
   obtain ⟨h3, h4⟩ := cells_some hc
   have ha : a = ⟨a.block, a.off, none⟩ := spot_none (add_zero a ▸ h4 0 lay0)
   refine ⟨[.rptr ps], .one ?_, .ptr hu ps h2⟩
   rw [ha]
   refine .rptr _ _ ps (fun j => ds.getD j undef) (fun j hj => ?_) (fun j hj => h1.2 j hj)
   have := h4 j (by rw [← h3, h1.1]; exact hj)
   rw [ha, add_none] at this
   exact this
  ·rename_i hu; exact ⟨_, .one (.sl0 none 0), .sl hu 0 (Nat.zero_le _) (fun _ => []) (fun i hi => by omega)⟩
  ·rename_i e a len cap hu
   by_cases hod : oddB P t = true
   ·exact ⟨_, .one (.any _), .odd hod⟩
   have lay0 : (decide (0 < P.cellsOf e) && (tagg P e || P.cellsOf e == 1)) = true := by
    have : oddB P t = false := by simpa using hod
    unfold oddB at this
    rw [hu] at this
    exact nb_true this
   simp only [layB, hu, decide_eq_true_eq] at lay
   simp only [Bool.and_eq_true, decide_eq_true_eq, Bool.or_eq_true, beq_iff_eq] at lay0
   obtain ⟨l1, l2⟩ := lay0
   have l3 := lay
   simp only at h
   split at h
   ·rename_i hb
    obtain ⟨elems, he, h⟩ := Option.bind_eq_some_iff.1 h
    have el : ∀ i, i < len → ∃ ds ps, w.cells? base (a.add (i * P.cellsOf e)) (P.cellsOf e) = some ds ∧ RepC (cellsOf w) ds ps ∧ PT P e ps := fun i hi => by
     obtain ⟨y, hy⟩ := mapM_some he i (List.mem_range.2 hi)
     obtain ⟨ds, hc, hx⟩ := Option.bind_eq_some_iff.1 hy
     obtain ⟨ps, h1, h2⟩ := ih _ _ _ l3 hx
     exact ⟨ds, ps, hc, h1, h2⟩
    obtain ⟨F, hF⟩ : ∃ F : Nat → List Value × List PV, ∀ i, i < len → w.cells? base (a.add (i * P.cellsOf e)) (P.cellsOf e) = some (F i).1 ∧ RepC (cellsOf w) (F i).1 (F i).2 ∧ PT P e (F i).2 := by
     classical
     refine ⟨fun i => if h : i < len then ((el i h).choose, (el i h).choose_spec.choose) else ([], []), fun i hi => ?_⟩
     simp only [hi, dif_pos]
     exact (el i hi).choose_spec.choose_spec
    refine ⟨_, .one ?_, .sl hu len (by omega) (fun i => (F i).2) fun i hi => (hF i hi).2.2⟩
    have hes : ∀ i, i < len → ((List.range len).map fun i => asPV (tagg P e) (F i).2).getD i .any = asPV (tagg P e) (F i).2 := fun i hi => by simp [List.getD_eq_getElem?_getD, hi]
    have hcl : ∀ i, i < len → (asPV (tagg P e) (F i).2).cells = (F i).2 := fun i hi => by
     obtain ⟨h1, h2, h3⟩ := hF i hi
     refine asPV_cells h3 (l2.imp id fun h => ?_)
     rw [← h2.1, (cells_some h1).1, h]
    by_cases h0 : len = 0
    ·subst h0; exact .sl0 _ _
    ·have hp0 : 0 < len := by omega
     have ha : a = ⟨a.block, a.off, none⟩ := by
      have := (cells_some (hF 0 hp0).1).2 0 l1
      rw [Nat.zero_mul, add_zero, add_zero] at this
      exact spot_none this
     have key := Rep.sl (S := cellsOf w) a.block a.off cap (P.cellsOf e) ((List.range len).map fun i => asPV (tagg P e) (F i).2) (fun i j => (F i).1.getD j undef)
      (fun i hi => by
       have hi : i < len := by simpa using hi
       rw [hes i hi, hcl i hi, ← (hF i hi).2.1.1, (cells_some (hF i hi).1).1])
      (by simp; exact hb.2.1)
      (fun i j hi hj => by
       have hi : i < len := by simpa using hi
       have := (cells_some (hF i hi).1).2 j hj
       rw [ha, add_none, add_none] at this
       exact this)
      (fun i j hi hj => by
       have hi : i < len := by simpa using hi
       rw [hes i hi, hcl i hi]
       exact (hF i hi).2.1.2 j (by rw [← (hF i hi).2.1.1, (cells_some (hF i hi).1).1]; exact hj))
     rw [List.length_map, List.length_range, ← ha] at key
     exact key
   ·cases h
  ·rename_i fs hu
   simp only [layB, hu, Bool.and_eq_true, beq_iff_eq, List.all_eq_true, decide_eq_true_eq] at lay
   split at h
   ·rename_i hn
    obtain ⟨xs, hx, _⟩ := Option.map_eq_some_iff.1 h
    obtain ⟨ps, h1, h2⟩ := struct_pts (S := cellsOf w) (g := fun t cs => ∃ x, DataW.trod enc P w base spare held fuel t cs = some x) (fun t cs ht ⟨x, hx⟩ => ih t cs x ht hx) fs.toList 0 _ _ lay.1 hn lay.2 (fun f hf => mapM_some hx f hf)
    exact ⟨ps, by simpa using h1, .str' hu ps h2⟩
   ·cases h
  ·rename_i n e hu
   simp only [layB, hu, Bool.and_eq_true, beq_iff_eq, decide_eq_true_eq] at lay
   split at h
   ·rename_i hn
    obtain ⟨xs, hx, _⟩ := Option.map_eq_some_iff.1 h
    obtain ⟨ps, h1, h2⟩ := array_pts (S := cellsOf w) (g := fun t cs => ∃ x, DataW.trod enc P w base spare held fuel t cs = some x) (fun t cs ht ⟨x, hx⟩ => ih t cs x ht hx) lay.2 n 0 _ (by rw [hn, lay.1]; simp) (fun i hi => mapM_some hx i (by simpa using hi))
    exact ⟨ps, by simpa using h1, .arr hu ps h2⟩
   ·cases h
  all_goals first | (cases h; done) | (rename_i hu; exact anyd hu trivial) | (rename_i hu _; exact anyd hu trivial) | skip
end
end Go.PL
namespace Go.PL
open Go.ChangeShapes Go.WideShapes Go.ChangeAt Go.RowKit
set_option linter.unusedVariables false
def PA (P : Program) (t : TypeId) (p : PV) : Prop := ∃ cs, PT P t cs ∧ p = asPV (tagg P t) cs
inductive PAs (P : Program) : List TypeId → List PV → Prop
 | nil : PAs P [] []
 | cons {t : TypeId} {ts : List TypeId} {p : PV} {ps : List PV} (h : PA P t p) (hs : PAs P ts ps) : PAs P (t :: ts) (p :: ps)
section
variable {P : Program} {H : Type} {enc : TypeId × Value → H}
theorem noAgg_of_ok {W : World} {base : Nat} {t : TypeId} {v : Value} (ha : tagg P t = false) (hd : ∃ d, P.underlying t = some d) (h : Value.okWide P W .any base t v) : v.cells.toList = [v] := by
 obtain ⟨d, hd⟩ := hd
 cases v with
 | agg cs =>
  exfalso
  unfold Value.okWide at h
  unfold tagg at ha
  rw [hd] at ha h
  cases d <;> simp [Cell.okWide, Cell.ok, hd] at h ha
 | _ => rfl
theorem read_arg {W : World} {base : Nat} {t : TypeId} {v : Value} {d : DataW H} {ps : List MemPlace} (hl : layAll P = true) (ht : t < P.types.size) (hok : Value.okWide P W .any base t v)
  (h : DataW.Trod enc P W 0 (fun _ => true) true t v d ps) : ∃ p, Rep (cellsOf W) v p ∧ PA P t p := by
 obtain ⟨n, hn⟩ := h
 obtain ⟨cs, h1, h2⟩ := trod_pt hl n t _ _ ht hn
 have hd : ∃ d, P.underlying t = some d := by
  cases n with
  | zero => cases hn
  | succ n =>
   cases hu : P.underlying t with
   | none => unfold DataW.trod at hn; rw [hu] at hn; simp at hn
   | some d => exact ⟨d, rfl⟩
 refine ⟨_, ?_, cs, h2, rfl⟩
 unfold asPV
 cases ha : tagg P t with
 | true =>
  obtain ⟨d, hd⟩ := hd
  have : ∃ c, v = .agg c := by
   unfold tagg at ha
   unfold Value.okWide at hok
   rw [hd] at ha hok
   cases d <;> simp at ha
   ·obtain ⟨c, hc, _⟩ := hok; exact ⟨c, hc⟩
   ·obtain ⟨c, hc, _⟩ := hok; exact ⟨c, hc⟩
  obtain ⟨⟨c⟩, rfl⟩ := this
  exact .agg c cs h1.1 h1.2
 | false =>
  rw [noAgg_of_ok ha hd hok] at h1
  have := h1.2 0 (by rw [← h1.1]; simp)
  simpa using this
theorem read_args {W : World} {base : Nat} (hl : layAll P = true) : ∀ (ts : List TypeId) (vs : List Value) (ds : List (DataW H)) (ps : List MemPlace), (∀ t ∈ ts, t < P.types.size) →
  (∀ (j : Nat) t v, ts[j]? = some t → vs[j]? = some v → Value.okWide P W .any base t v) → DataW.TrodAll enc P W 0 (fun _ => true) true ts vs ds ps →
  ∃ qs, RepC (cellsOf W) vs qs ∧ PAs P ts qs ∧ ds.length = ts.length
 | [], [], [], ps, _, _, h => ⟨[], .nil, .nil, rfl⟩
 | t :: ts, v :: vs, d :: ds, ps, hlt, hok, h => by
  obtain ⟨p, q, h1, h2, rfl⟩ := h
  obtain ⟨x, hx, hp⟩ := read_arg hl (hlt t (by simp)) (hok 0 t v rfl rfl) h1
  obtain ⟨qs, h3, h4, h5⟩ := read_args hl ts vs ds q (fun t ht => hlt t (by simp [ht])) (fun j t v h1 h2 => hok (j + 1) t v (by simpa using h1) (by simpa using h2)) h2
  exact ⟨x :: qs, (RepC.one hx).append h3, .cons hp h4, by simp [h5]⟩
 | [], _ :: _, _, _, _, _, h => by simp [DataW.TrodAll] at h
 | [], [], _ :: _, _, _, _, h => by simp [DataW.TrodAll] at h
 | _ :: _, [], _, _, _, _, h => by simp [DataW.TrodAll] at h
 | _ :: _, _ :: _, [], _, _, _, h => by simp [DataW.TrodAll] at h
theorem stays_args {W W' : World} {sp : Nat → Bool} (hl : laidOutB P = true) (hb : Below W.heap.size W W') : ∀ (ts : List TypeId) (vs : List Value) (ds : List (DataW H)) (ps : List MemPlace), (∀ t ∈ ts, t < P.types.size ∧ P.readableRec t = true) →
  (∀ x ∈ ps, x.block < W.heap.size) → (∀ x ∈ ps, sp x.block = true) → DataW.TrodAll enc P W 0 (fun _ => true) true ts vs ds ps → DataW.TrodAll enc P W' 0 sp true ts vs ds ps
 | [], [], [], ps, _, _, _, h => h
 | t :: ts, v :: vs, d :: ds, ps, ht, hlt, hsp, h => by
  obtain ⟨p, q, h1, h2, rfl⟩ := h
  exact ⟨p, q, WideElems.Trod_stays hl (ht t (by simp)).2 (ht t (by simp)).1 h1 (fun x hx => hb.same (hlt x (by simp [hx]))) (fun x hx => hsp x (by simp [hx])),
   stays_args hl hb ts vs ds q (fun t h => ht t (by simp [h])) (fun x hx => hlt x (by simp [hx])) (fun x hx => hsp x (by simp [hx])) h2, rfl⟩
 | [], _ :: _, _, _, _, _, _, h => by simp [DataW.TrodAll] at h
 | [], [], _ :: _, _, _, _, _, h => by simp [DataW.TrodAll] at h
 | _ :: _, [], _, _, _, _, _, h => by simp [DataW.TrodAll] at h
 | _ :: _, _ :: _, [], _, _, _, _, h => by simp [DataW.TrodAll] at h
theorem contract_of_pure {f : FuncId} {fn : Func} {s : ChangeSpec} {tb : TypeId} {fresh handsOn again : Bool} (hl : layAll P = true) (hlaid : laidOutB P = true) (hvars : s.vars = [])
  (ht : ∀ t ∈ fn.params.toList, t < P.types.size ∧ P.readableRec t = true) (hres : fn.resultTypes = #[tb]) (hb : P.underlying tb = some .bool)
  (hfn : ∀ ds : List (DataW H), ds.length = fn.params.toList.length → s.fn H ds = { results := [.lit (.bool true)], args := ds })
  (hp : ∀ ps, PAs P fn.params.toList ps → PL.Pure P f ps (.bool true))
  (W : World) (base : Nat) (args : Array Value) (ds gs : List (DataW H)) (before : List MemPlace)
  (hval : ∀ (j : Nat) t v, fn.params[j]? = some t → args[j]? = some v → Value.okWide P W .any base t v)
  (hW : DataW.Whole enc P fn.params.toList s.vars false W args.toList ds gs before) :
  Calls P f args W fun e W' => ∃ v, e = .returned v ∧ s.post enc P fn false fresh handsOn again W args v W' := by
 have hW0 := hW
 obtain ⟨p, q, hA, hV, hpq, hfz, hnd⟩ := hW
 rw [hvars] at hV
 obtain ⟨rfl, rfl⟩ := trodVars_none hV
 obtain ⟨qs, h1, h2, h3⟩ := read_args hl _ _ _ _ (fun t h => (ht t h).1) (fun j t v a b => hval j t v (by simpa using a) (by simpa using b)) hA
 obtain ⟨_, _, hcalls⟩ := hp qs h2
 have := hcalls W (cellsOf W) args.toList ⟨fun b o v h => h, fun b es h => by cases h⟩ h1.1 h1.2
 have ea : (⟨args.toList⟩ : Array Value) = args := rfl
 rw [ea] at this
 refine this.mono fun e W' ⟨v, S', he, hr, _, _, _, hB⟩ => ?_
 subst he
 have hv : v = .bool true := by cases hr; rfl
 subst hv
 have hlt := hW0.lt
 have hps : before = p ++ [] := hpq
 rw [List.append_nil] at hps
 subst hps
 have hf := hfn ds h3
 have hone : (Value.bool true).resultList 1 = [.bool true] := rfl
 have hT : ∀ (sp : Nat → Bool), (∀ x ∈ before, sp x.block = true) → DataW.TrodAll enc P W' 0 sp true fn.params.toList args.toList ds before := fun sp hsp => stays_args hlaid hB _ _ _ _ ht hlt hsp hA
 have hR : ∀ (b : Nat) (sp : Nat → Bool) (hd : Bool), DataW.TrodAll enc P W' b sp hd fn.resultTypes.toList ((Value.bool true).resultList fn.resultTypes.size) [.lit (.bool true)] [] := fun b sp hd => by
  rw [hres]
  exact trodAll_cons_mk (shut_bool hb true) trodAll_mk0
 have hVs : ∀ sp : Nat → Bool, DataW.TrodVars enc P W' sp s.vars ([] : List (DataW H)) [] := fun sp => by rw [hvars]; exact rfl
 refine ⟨_, rfl, ds, [], before, [], before, [], hW0, ?_, ?_, ?_, World.keptBut_mono (fun p hp => ⟨hp, .inr (.inl hp)⟩) (hB.frame _), fun _ => ⟨ok_one hres hone (okWide_bool_mk hb true), ?_⟩⟩
 ·rw [List.append_nil, hf]; exact hR _ _ _
 ·rw [List.append_nil, hf]; exact hT _ (fun x hx => by simpa using hlt x hx)
 ·rw [List.append_nil, hf]; exact hVs _
 ·refine ⟨_, _, ([] ++ before) ++ [], ⟨[] ++ before, [], trodAll_append (hT _ fun _ _ => rfl) (hR _ _ _), hVs _, rfl, ?_, fun h => by cases h⟩, ?_⟩
  ·intro b off hp
   have hp : MemPlace.cell b off ∈ before := by simpa using hp
   rw [hB.frozen (hlt _ hp)]
   exact hfz b off (by simpa using hp)
  ·intro x hx _
   simpa using hx
end
end Go.PL
namespace Go.PL
set_option linter.unusedVariables false
section
variable {P : Program}
theorem PT.struct_inv {t : TypeId} {fs : Array Field} {cs : List PV} (hu : P.underlying t = some (.struct fs)) (h : PT P t cs) : PTs P (fs.toList.map (·.type)) cs := by
 cases h with
 | str' h' _ hp => rw [hu] at h'; cases h'; exact hp
 | any h' => exact (h' _ hu).elim
 | odd h' => simp [oddB, hu] at h'
 | bool h' _ => rw [hu] at h'; cases h'
 | int h' => rw [hu] at h'; cases h'
 | flt h' _ => rw [hu] at h'; cases h'
 | str h' _ => rw [hu] at h'; cases h'
 | nilp h' => rw [hu] at h'; cases h'
 | ptr h' _ => rw [hu] at h'; cases h'
 | sl h' _ => rw [hu] at h'; cases h'
 | arr h' _ => rw [hu] at h'; cases h'
theorem PT.int_inv {t : TypeId} {k : IntKind} {cs : List PV} (hu : P.underlying t = some (.int k)) (h : PT P t cs) : ∃ n, cs = [.int k n] ∧ k.min ≤ n ∧ n ≤ k.max := by
 cases h with
 | int h' n h1 h2 => rw [hu] at h'; cases h'; exact ⟨n, rfl, h1, h2⟩
 | any h' => exact (h' _ hu).elim
 | odd h' => simp [oddB, hu] at h'
 | bool h' _ => rw [hu] at h'; cases h'
 | flt h' _ => rw [hu] at h'; cases h'
 | str h' _ => rw [hu] at h'; cases h'
 | nilp h' => rw [hu] at h'; cases h'
 | ptr h' _ => rw [hu] at h'; cases h'
 | sl h' _ => rw [hu] at h'; cases h'
 | str' h' _ => rw [hu] at h'; cases h'
 | arr h' _ => rw [hu] at h'; cases h'
theorem PT.bool_inv {t : TypeId} {cs : List PV} (hu : P.underlying t = some .bool) (h : PT P t cs) : ∃ b, cs = [.bool b] := by
 cases h with
 | bool h' b => exact ⟨b, rfl⟩
 | any h' => exact (h' _ hu).elim
 | odd h' => simp [oddB, hu] at h'
 | int h' => rw [hu] at h'; cases h'
 | flt h' _ => rw [hu] at h'; cases h'
 | str h' _ => rw [hu] at h'; cases h'
 | nilp h' => rw [hu] at h'; cases h'
 | ptr h' _ => rw [hu] at h'; cases h'
 | sl h' _ => rw [hu] at h'; cases h'
 | str' h' _ => rw [hu] at h'; cases h'
 | arr h' _ => rw [hu] at h'; cases h'
theorem PT.string_inv {t : TypeId} {cs : List PV} (hu : P.underlying t = some .string) (h : PT P t cs) : ∃ l, cs = [.str l] ∧ l.length ≤ maxLen := by
 cases h with
 | str h' l hl => exact ⟨l, rfl, hl⟩
 | any h' => exact (h' _ hu).elim
 | odd h' => simp [oddB, hu] at h'
 | bool h' _ => rw [hu] at h'; cases h'
 | int h' => rw [hu] at h'; cases h'
 | flt h' _ => rw [hu] at h'; cases h'
 | nilp h' => rw [hu] at h'; cases h'
 | ptr h' _ => rw [hu] at h'; cases h'
 | sl h' _ => rw [hu] at h'; cases h'
 | str' h' _ => rw [hu] at h'; cases h'
 | arr h' _ => rw [hu] at h'; cases h'
theorem PT.slice_inv {t e : TypeId} {cs : List PV} (ho : oddB P t = false) (hu : P.underlying t = some (.slice e)) (h : PT P t cs) : ∃ l, cs = [.sl .no l] ∧ l.length ≤ maxLen ∧ ∀ p ∈ l, PA P e p := by
 cases h with
 | sl h' n hn f hp =>
  rw [hu] at h'; cases h'
  refine ⟨_, rfl, by simpa using hn, fun p hp' => ?_⟩
  obtain ⟨i, hi, rfl⟩ := List.mem_map.1 hp'
  exact ⟨f i, hp i (by simpa using hi), rfl⟩
 | any h' => exact (h' _ hu).elim
 | odd h' => rw [ho] at h'; cases h'
 | bool h' _ => rw [hu] at h'; cases h'
 | int h' => rw [hu] at h'; cases h'
 | flt h' _ => rw [hu] at h'; cases h'
 | str h' _ => rw [hu] at h'; cases h'
 | nilp h' => rw [hu] at h'; cases h'
 | ptr h' _ => rw [hu] at h'; cases h'
 | str' h' _ => rw [hu] at h'; cases h'
 | arr h' _ => rw [hu] at h'; cases h'
theorem PTs.cons_inv {t : TypeId} {ts : List TypeId} {cs : List PV} (h : PTs P (t :: ts) cs) : ∃ a b, cs = a ++ b ∧ PT P t a ∧ PTs P ts b := by
 cases h with
 | cons h hs => exact ⟨_, _, rfl, h, hs⟩
theorem PTs.nil_inv {cs : List PV} (h : PTs P [] cs) : cs = [] := by cases h; rfl
theorem PAs.cons_inv {t : TypeId} {ts : List TypeId} {cs : List PV} (h : PAs P (t :: ts) cs) : ∃ a b, cs = a :: b ∧ PA P t a ∧ PAs P ts b := by
 cases h with
 | cons h hs => exact ⟨_, _, rfl, h, hs⟩
theorem PAs.nil_inv {cs : List PV} (h : PAs P [] cs) : cs = [] := by cases h; rfl
theorem PA.agg {t : TypeId} {p : PV} (ha : tagg P t = true) (h : PA P t p) : ∃ cs, p = .agg cs ∧ PT P t cs := by
 obtain ⟨cs, h1, h2⟩ := h
 rw [ha] at h2
 exact ⟨cs, h2, h1⟩
theorem PA.one {t : TypeId} {p : PV} (ha : tagg P t = false) (h : PA P t p) : ∃ cs, p = cs.getD 0 .any ∧ PT P t cs := by
 obtain ⟨cs, h1, h2⟩ := h
 rw [ha] at h2
 exact ⟨cs, h2, h1⟩
theorem PA.int {t : TypeId} {k : IntKind} {p : PV} (hu : P.underlying t = some (.int k)) (h : PA P t p) : ∃ n, p = .int k n ∧ k.min ≤ n ∧ n ≤ k.max := by
 obtain ⟨cs, h1, h2⟩ := PA.one (by simp [tagg, hu]) h
 obtain ⟨n, rfl, h3⟩ := PT.int_inv hu h2
 exact ⟨n, h1, h3⟩
theorem PA.string {t : TypeId} {p : PV} (hu : P.underlying t = some .string) (h : PA P t p) : ∃ l, p = .str l ∧ l.length ≤ maxLen := by
 obtain ⟨cs, h1, h2⟩ := PA.one (by simp [tagg, hu]) h
 obtain ⟨n, rfl, h3⟩ := PT.string_inv hu h2
 exact ⟨n, h1, h3⟩
theorem PA.bool {t : TypeId} {p : PV} (hu : P.underlying t = some .bool) (h : PA P t p) : ∃ b, p = .bool b := by
 obtain ⟨cs, h1, h2⟩ := PA.one (by simp [tagg, hu]) h
 obtain ⟨n, rfl⟩ := PT.bool_inv hu h2
 exact ⟨n, h1⟩
theorem PA.slice {t e : TypeId} {p : PV} (ho : oddB P t = false) (hu : P.underlying t = some (.slice e)) (h : PA P t p) : ∃ l, p = .sl .no l ∧ l.length ≤ maxLen ∧ ∀ p ∈ l, PA P e p := by
 obtain ⟨cs, h1, h2⟩ := PA.one (by simp [tagg, hu]) h
 obtain ⟨n, rfl, h3⟩ := PT.slice_inv ho hu h2
 exact ⟨n, h1, h3⟩
theorem all_told {α : Type} {enc : α → PV} {Q : α → Prop} : ∀ {l : List PV}, (∀ p ∈ l, ∃ x, p = enc x ∧ Q x) → ∃ xs : List α, l = xs.map enc ∧ ∀ x ∈ xs, Q x
 | [], _ => ⟨[], rfl, fun x hx => by cases hx⟩
 | p :: l, h => by
  obtain ⟨x, rfl, hq⟩ := h p (by simp)
  obtain ⟨xs, rfl, hxs⟩ := all_told (l := l) (fun p hp => h p (by simp [hp]))
  exact ⟨x :: xs, rfl, fun y hy => by
   rcases List.mem_cons.1 hy with e | e
   ·rw [e]; exact hq
   ·exact hxs y e⟩
end
end Go.PL
namespace Go.PL
set_option linter.unusedVariables false
section
variable {P : Program} {s : St} {Q : Exit → St → Prop}
@[go_sem] theorem upds_nil {α : Type} (f : Nat → α) : upds [] f = f := rfl
@[go_sem] theorem upds_cons {α : Type} (i : Nat) (v : α) (L : List (Nat × α)) (f : Nat → α) : upds ((i, v) :: L) f = upd (upds L f) i v := rfl
@[go_sem] theorem kills_nil (f : Nat → PV) : kills [] f = f := by funext i; simp [kills]
@[go_sem] theorem kills_cons (w : Nat) (ws : List Nat) (f : Nat → PV) : kills (w :: ws) f = upd (kills ws f) w .any := by
 funext i
 simp only [kills, upd, List.contains_cons]
 by_cases h : w = i
 ·subst h; simp
 ·have : (i == w) = false := by simp; exact fun e => h e.symm
  simp [this, h]
attribute [go_sem] St.inv
theorem vDrawQ {id : Nat} {l : List Oper} (hm : P.follows .mixedOrders = true) (hB : drawB l.toArray = true) (h : @vA P false ⟨@vQ ⟨Q⟩ .normal⟩ ⟨l⟩ ⟨l⟩ s) : awp P (.region id l.toArray true) Q s :=
 vDraw hm hB h
def HRest (X : List Nat) (h' : Nat → Option (List PV)) (z' : Nat → Bool) (h : Nat → Option (List PV)) (z : Nat → Bool) : Prop := ∀ i, X.contains i = false → h i = none ∨ (h i = h' i ∧ z i = z' i)
theorem HRest.refl (X : List Nat) (h : Nat → Option (List PV)) (z : Nat → Bool) : HRest X h z h z := fun _ _ => .inr ⟨rfl, rfl⟩
def QRest (X : List Nat) (q' q : Rows) : Prop := ∀ i, X.contains i = false → q i = none ∨ q i = q' i
theorem QRest.refl (X : List Nat) (q : Rows) : QRest X q q := fun _ _ => .inr rfl
theorem QRest.upd {X : List Nat} {q' q : Rows} {d : Nat} {v : Option Row} (hd : X.contains d = true ∨ q d = none) (hh : QRest X q' q) : QRest X (PL.upd q' d v) q := fun i hi => by
 by_cases e : d = i
 ·subst e
  rcases hd with hd | hd
  ·rw [hd] at hi; cases hi
  ·exact .inl hd
 ·rw [upd_ne _ _ e]; exact hh i hi
def refIn (H : List (Nat × List PV)) (R : List (Nat × Row)) : Ref → Bool
 | .r i => (R.map (·.1)).contains i
 | .b i => (H.map (·.1)).contains i
theorem fnl {α : Type} {p : α → Prop} : ∀ x ∈ ([] : List α), p x := fun x hx => by cases hx
theorem fcs {α : Type} {p : α → Prop} {a : α} {l : List α} (h : p a) (h' : ∀ x ∈ l, p x) : ∀ x ∈ a :: l, p x := fun x hx => by
 rcases List.mem_cons.1 hx with e | e
 ·rw [e]; exact h
 ·exact h' x e
def gotoQ (J : Nat → St → Prop) (Q : Exit → St → Prop) : Exit → St → Prop
 | .goto l, s => J l s
 | e, s => Q e s
theorem awp_scope {c : Code} {ι : Type} (lab : ι → Nat) (code : ι → Code) (I : ι → St) (μ : ι → Nat) (hf : ∀ i, findLabel c (lab i) = some (code i)) (hr : Refs s → ∀ i, Refs (I i))
  (pass : ∀ i, (∀ j s', μ j < μ i → Weak (I j) s' → awp P (code j) (gotoQ (fun l s' => ∃ j, lab j = l ∧ μ j < μ i ∧ Weak (I j) s') Q) s') →
   awp P (code i) (gotoQ (fun l s' => ∃ j, lab j = l ∧ μ j < μ i ∧ Weak (I j) s') Q) (I i))
  (first : (∀ j s', Weak (I j) s' → awp P (code j) (gotoQ (fun l s' => ∃ j, lab j = l ∧ Weak (I j) s') Q) s') → awp P c (gotoQ (fun l s' => ∃ j, lab j = l ∧ Weak (I j) s') Q) s) :
  awp P (.scope c) Q s := fun B S M a w hs => by
 have hrefs := hr hs.refs
 have all : ∀ n i, μ i = n → awp P (code i) (gotoQ (fun l s' => ∃ j, lab j = l ∧ μ j < μ i ∧ Weak (I j) s') Q) (I i) := by
  intro n
  induction n using Nat.strongRecOn with
  | _ n ih =>
   intro i hi
   refine pass i fun j s' hj hw => awp_weak hw (fun _ => hrefs j) (awp_mono (fun e s'' h => ?_) (ih (μ j) (by omega) j rfl))
   cases e with
   | goto l => obtain ⟨k, h1, h2, h3⟩ := h; exact ⟨k, h1, by omega, h3⟩
   | _ => exact h
 have hfirst := first fun j s' hw => awp_weak hw (fun _ => hrefs j) (awp_mono (fun e s'' h => by
   cases e with
   | goto l => obtain ⟨k, h1, h2, h3⟩ := h; exact ⟨k, h1, h3⟩
   | _ => exact h) (all _ j rfl))
 intro b k cs
 have hg : ∀ i, gotoIn (lab i) (.inScope c :: k) = some (.code (code i) :: .inScope c :: k) := fun i => by simp [gotoIn, hf i]
 have key : ∀ n i S1 M1 a1 w1, μ i = n → Sim B S1 M1 (I i) a1 w1 → Ext B S S1 w w1 → ∃ e a' w', (∃ s' S' M', Q e s' ∧ Sim B S' M' s' a' w' ∧ Ext B S S' w w') ∧ Arrives P (lone (b.at a1 (.code (code i) :: .inScope c :: k)) cs w1) b k cs e a' w' := by
  intro n
  induction n using Nat.strongRecOn with
  | _ n ih =>
   intro i S1 M1 a1 w1 hi hs1 he1
   obtain ⟨e, a2, w2, ⟨s2, S2, M2, hq, hs2, he2⟩, harr⟩ := all _ i rfl B S1 M1 a1 w1 hs1 b (.inScope c :: k) cs
   cases e with
   | normal => exact ⟨.normal, a2, w2, ⟨s2, S2, M2, hq, hs2, he1.trans he2⟩, Steps.trans harr (.one step_inScope)⟩
   | exit id => exact ⟨.exit id, a2, w2, ⟨s2, S2, M2, hq, hs2, he1.trans he2⟩, fun k' hk => harr k' (by simp [exitTo, hk])⟩
   | goto l' =>
    obtain ⟨j, rfl, hlt, hw⟩ := hq
    obtain ⟨e3, a3, w3, hq3, harr3⟩ := ih (μ j) (by omega) j S2 M2 a2 w2 rfl (hs2.weak hw (hrefs j)) (he1.trans he2)
    exact ⟨e3, a3, w3, hq3, .of_steps (harr _ (hg j)) harr3⟩
   | ret => exact ⟨_, a2, w2, ⟨s2, S2, M2, hq, hs2, he1.trans he2⟩, harr⟩
   | panic ch => exact ⟨_, a2, w2, ⟨s2, S2, M2, hq, hs2, he1.trans he2⟩, harr⟩
   | outgrown => exact ⟨_, a2, w2, ⟨s2, S2, M2, hq, hs2, he1.trans he2⟩, harr⟩
 obtain ⟨e, a1, w1, ⟨s1, S1, M1, hq, hs1, he1⟩, harr⟩ := hfirst B S M a w hs b (.inScope c :: k) cs
 cases e with
 | normal => exact ⟨.normal, a1, w1, ⟨s1, S1, M1, hq, hs1, he1⟩, .head step_scope (Steps.trans harr (.one step_inScope))⟩
 | exit id => exact ⟨.exit id, a1, w1, ⟨s1, S1, M1, hq, hs1, he1⟩, fun k' hk => .head step_scope (harr k' (by simp [exitTo, hk]))⟩
 | goto l' =>
  obtain ⟨j, rfl, hw⟩ := hq
  obtain ⟨e3, a3, w3, hq3, harr3⟩ := key _ j S1 M1 a1 w1 rfl (hs1.weak hw (hrefs j)) he1
  exact ⟨e3, a3, w3, hq3, .of_steps (.head step_scope (harr _ (hg j))) harr3⟩
 | ret => exact ⟨_, a1, w1, ⟨s1, S1, M1, hq, hs1, he1⟩, .of_steps (.one step_scope) harr⟩
 | panic ch => exact ⟨_, a1, w1, ⟨s1, S1, M1, hq, hs1, he1⟩, .of_steps (.one step_scope) harr⟩
 | outgrown => exact ⟨_, a1, w1, ⟨s1, S1, M1, hq, hs1, he1⟩, .of_steps (.one step_scope) harr⟩
def mkSt (n : Nat) (L : List (Nat × PV)) (H : List (Nat × List PV × Bool)) (R : List (Nat × Row)) : St :=
 { fr := upds L fun _ => .any, m := { h := upds (H.map fun x => (x.1, some x.2.1)) fun _ => none, z := upds (H.map fun x => (x.1, x.2.2)) fun _ => false, q := upds (R.map fun x => (x.1, some x.2)) fun _ => none, o := fun _ => none, it := fun _ => none, om := fun _ => none, v := fun _ => none, ph := fun _ => none, pq := fun _ => none, vm := fun _ => false }, n := n }
structure Has (n : Nat) (L : List (Nat × PV)) (H : List (Nat × List PV × Bool)) (R : List (Nat × Row)) (s : St) : Prop where
 n : s.n = n
 fr : ∀ x ∈ L, s.fr x.1 = x.2
 h : ∀ x ∈ H, s.m.h x.1 = some x.2.1 ∧ s.m.z x.1 = x.2.2
 q : ∀ x ∈ R, s.m.q x.1 = some x.2
theorem Has.weak {n : Nat} {L : List (Nat × PV)} {H : List (Nat × List PV × Bool)} {R : List (Nat × Row)} (h : Has n L H R s) : Weak (mkSt n L H R) s := by
 have m1 : ∀ {α β : Type} (L : List (Nat × α)) (f : α → β), (L.map fun x => (x.1, f x.2)).map (·.1) = L.map (·.1) := fun L f => by simp
 refine ⟨h.n.symm, fun i => ?_, fun i => ?_, fun i => ?_, fun _ => .inl rfl, fun _ => .inl rfl, fun _ => .inl rfl, fun _ => .inl rfl, fun _ => .inl rfl, fun _ => .inl rfl⟩
 ·by_cases hi : (L.map (·.1)).contains i = true
  ·exact .inr (upds_all (R := fun i v => v = s.fr i) (fun x hx => (h.fr x hx).symm) hi)
  ·exact .inl (upds_ne (by simpa using hi))
 ·show upds (H.map fun x => (x.1, some x.2.1)) (fun _ => none) i = none ∨ (upds (H.map fun x => (x.1, some x.2.1)) (fun _ => none) i = _ ∧ upds (H.map fun x => (x.1, x.2.2)) (fun _ => false) i = _)
  by_cases hi : (H.map (·.1)).contains i = true
  ·right
   refine ⟨upds_all (R := fun i v => v = s.m.h i) (fun x hx => ?_) (by rw [m1 H (fun x => some x.1)]; exact hi), upds_all (R := fun i v => v = s.m.z i) (fun x hx => ?_) (by rw [m1 H (fun x => x.2)]; exact hi)⟩
   ·obtain ⟨y, hy, rfl⟩ := List.mem_map.1 hx; exact (h.h y hy).1.symm
   ·obtain ⟨y, hy, rfl⟩ := List.mem_map.1 hx; exact (h.h y hy).2.symm
  ·exact .inl (upds_ne (by rw [m1 H (fun x => some x.1)]; simpa using hi))
 ·show upds (R.map fun x => (x.1, some x.2)) (fun _ => none) i = none ∨ upds (R.map fun x => (x.1, some x.2)) (fun _ => none) i = _
  by_cases hi : (R.map (·.1)).contains i = true
  ·right
   refine upds_all (R := fun i v => v = s.m.q i) (fun x hx => ?_) (by rw [m1 R some]; exact hi)
   obtain ⟨y, hy, rfl⟩ := List.mem_map.1 hx; exact (h.q y hy).symm
  ·exact .inl (upds_ne (by rw [m1 R some]; simpa using hi))
def refInM (H : List (Nat × List PV × Bool)) (R : List (Nat × Row)) : Ref → Bool
 | .r i => (R.map (·.1)).contains i
 | .b i => (H.map (·.1)).contains i
def toldB (L : List (Nat × PV)) (H : List (Nat × List PV × Bool)) (R : List (Nat × Row)) : Prop :=
 (∀ x ∈ L, x.2.ids.all (refInM H R) = true) ∧ ∀ x ∈ H, (PV.idsL x.2.1).all (refInM H R) = true
theorem Refs.mkSt {n : Nat} {L : List (Nat × PV)} {H : List (Nat × List PV × Bool)} {R : List (Nat × Row)} (h : toldB L H R) : Refs (mkSt n L H R) := by
 have m1 : ∀ {α β : Type} (L : List (Nat × α)) (f : α → β), (L.map fun x => (x.1, f x.2)).map (·.1) = L.map (·.1) := fun L f => by simp
 have live : ∀ r, refInM H R r = true → Live (PL.mkSt n L H R).m r := fun r hr => by
  cases r with
  | b i =>
   show upds (H.map fun x => (x.1, some x.2.1)) (fun _ => none) i ≠ none
   exact upds_all (R := fun i v => v ≠ none) (fun x hx => by obtain ⟨y, hy, rfl⟩ := List.mem_map.1 hx; simp) (by rw [m1 H (fun x => some x.1)]; exact hr)
  | r i =>
   show upds (R.map fun x => (x.1, some x.2)) (fun _ => none) i ≠ none
   exact upds_all (R := fun i v => v ≠ none) (fun x hx => by obtain ⟨y, hy, rfl⟩ := List.mem_map.1 hx; simp) (by rw [m1 R some]; exact hr)
 refine ⟨fun i r hr => ?_, fun i cs hi c hc r hr => ?_, fun i es hi => (by cases hi), fun b c hc => (by cases hc)⟩
 ·by_cases hi : (L.map (·.1)).contains i = true
  ·exact upds_all (R := fun i v => ∀ r ∈ v.ids, Live (PL.mkSt n L H R).m r) (fun x hx r hr => live r (List.all_eq_true.1 (h.1 x hx) r hr)) hi r hr
  ·have hr' : r ∈ (upds L (fun _ => PV.any) i).ids := hr
   rw [upds_ne (by simpa using hi)] at hr'
   simp [PV.ids] at hr'
 ·by_cases hi' : (H.map (·.1)).contains i = true
  ·have hR := upds_all (R := fun i v => ∀ cs, v = some cs → ∀ c ∈ cs, ∀ r ∈ c.ids, Live (PL.mkSt n L H R).m r) (f := fun _ => none) (L := H.map fun x => (x.1, some x.2.1)) (i := i)
    (fun x hx cs hcs c hc r hr => by obtain ⟨y, hy, rfl⟩ := List.mem_map.1 hx; cases hcs; exact live r (List.all_eq_true.1 (h.2 y hy) r (PV.mem_idsL.2 ⟨c, hc, hr⟩))) (by rw [m1 H (fun x => some x.1)]; exact hi')
   exact hR cs hi c hc r hr
  ·have hi2 : upds (H.map fun x => (x.1, some x.2.1)) (fun _ => none) i = some cs := hi
   rw [upds_ne (by rw [m1 H (fun x => some x.1)]; simpa using hi')] at hi2
   cases hi2
def Next {ι : Type} (n : Nat) (L : ι → List (Nat × PV)) (H : ι → List (Nat × List PV × Bool)) (R : ι → List (Nat × Row)) (μ : ι → Nat) (i : ι) (s' : St) : Prop := ∃ j, μ j < μ i ∧ Has n (L j) (H j) (R j) s'
def Some' {ι : Type} (n : Nat) (L : ι → List (Nat × PV)) (H : ι → List (Nat × List PV × Bool)) (R : ι → List (Nat × Row)) (s' : St) : Prop := ∃ j, Has n (L j) (H j) (R j) s'
theorem vLoopM {c : Code} {ι : Type} (n : Nat) (L : ι → List (Nat × PV)) (H : ι → List (Nat × List PV × Bool)) (R : ι → List (Nat × Row)) (μ : ι → Nat) (i0 : ι)
  (h0 : Has n (L i0) (H i0) (R i0) s) (hr : ∀ i, toldB (L i) (H i) (R i))
  (round : ∀ i, @vC P ⟨c⟩ ⟨thenQ (Next n L H R μ i) Q⟩ (mkSt n (L i) (H i) (R i))) : awp P (.loop c) Q s :=
 awp_loop_gen (fun i => mkSt n (L i) (H i) (R i)) μ i0 h0.weak (fun _ i => Refs.mkSt (hr i)) fun i => awp_mono (fun e s' h => by
  cases e with
  | normal => obtain ⟨j, hj, hm⟩ := h; exact ⟨j, hj, hm.weak⟩
  | _ => exact h) (vc_sound _ _ _ (round i))
def gotoJ (l : Nat) (J : St → Prop) : Nat → St → Prop := fun l' s => l' = l ∧ J s
theorem awp_label_seq {l : Nat} {z : Code} (h : awp P z Q s) : awp P (.seq (.label l) z) Q s := awp_seq (awp_label h)
theorem vScopeM {c : Code} {ι : Type} (n : Nat) (L : ι → List (Nat × PV)) (H : ι → List (Nat × List PV × Bool)) (R : ι → List (Nat × Row)) (μ : ι → Nat) (l : Nat) (z : Code) (hf : findLabel c l = some (.seq .skip z)) (hr : ∀ i, toldB (L i) (H i) (R i))
  (pass : ∀ i, @vC P ⟨z⟩ ⟨gotoQ (gotoJ l (Next n L H R μ i)) Q⟩ (mkSt n (L i) (H i) (R i)))
  (first : (∀ j s', Has n (L j) (H j) (R j) s' → awp P z (gotoQ (gotoJ l (Some' n L H R)) Q) s') → @vC P ⟨c⟩ ⟨gotoQ (gotoJ l (Some' n L H R)) Q⟩ s) : awp P (.scope c) Q s := by
 have sk : ∀ {Q : Exit → St → Prop} {s : St}, awp P z Q s → awp P (.seq .skip z) Q s := fun h => awp_seq (awp_skip h)
 have passA : ∀ i, awp P (.seq .skip z) (gotoQ (fun l' s' => ∃ j, l = l' ∧ μ j < μ i ∧ Weak (mkSt n (L j) (H j) (R j)) s') Q) (mkSt n (L i) (H i) (R i)) := fun i =>
  sk (awp_mono (fun e s' h => by
   cases e with
   | goto l' => obtain ⟨rfl, j, hj, hm⟩ := h; exact ⟨j, rfl, hj, hm.weak⟩
   | _ => exact h) (vc_sound _ _ _ (pass i)))
 refine awp_scope (fun _ : ι => l) (fun _ => .seq .skip z) (fun i => mkSt n (L i) (H i) (R i)) μ (fun _ => hf) (fun _ i => Refs.mkSt (hr i)) (fun i _ => passA i) fun cut => ?_
 have key := first fun j s' hs' B S M a w hsim => by
  have hp := vc_sound _ _ _ (pass j) B S M a w (hsim.weak hs'.weak (Refs.mkSt (hr j)))
  refine wp_mono hp fun e a' w' ⟨s1, S1, M1, h1, h2, h3⟩ => ⟨s1, S1, M1, ?_, h2, h3⟩
  cases e with
  | goto l' => obtain ⟨e, j, _, hm⟩ := h1; exact ⟨e, j, hm⟩
  | _ => exact h1
 refine awp_mono (fun e s' h => ?_) (vc_sound _ _ _ key)
 cases e with
 | goto l' => obtain ⟨rfl, j, hm⟩ := h; exact ⟨j, rfl, hm.weak⟩
 | _ => exact h
theorem vScope0 {c : Code} (h : @vC P ⟨c⟩ ⟨gotoQ (fun _ _ => False) Q⟩ s) : awp P (.scope c) Q s :=
 awp_scope (ι := Empty) (fun i => i.elim) (fun i => i.elim) (fun i => i.elim) (fun i => i.elim) (fun i => i.elim) (fun _ i => i.elim) (fun i => i.elim) fun _ => awp_mono (fun e s' h => by
  cases e with
  | goto l => exact h.elim
  | _ => exact h) (vc_sound _ _ _ h)
@[go_sem] theorem vQ_goto_normal (J : Nat → St → Prop) (s : St) : @vQ ⟨gotoQ J Q⟩ .normal s = @vQ ⟨Q⟩ .normal s := rfl
@[go_sem] theorem vQ_goto_ret (J : Nat → St → Prop) (s : St) : @vQ ⟨gotoQ J Q⟩ .ret s = @vQ ⟨Q⟩ .ret s := rfl
@[go_sem] theorem vQ_goto_exit (J : Nat → St → Prop) (id : Nat) (s : St) : @vQ ⟨gotoQ J Q⟩ (.exit id) s = @vQ ⟨Q⟩ (.exit id) s := rfl
@[go_sem] theorem vQ_goto_goto (J : Nat → St → Prop) (l : Nat) (s : St) : @vQ ⟨gotoQ J Q⟩ (.goto l) s = J l s := rfl
@[go_sem] theorem gotoJ_same (l : Nat) (J : St → Prop) (s : St) : gotoJ l J l s = J s := by simp [gotoJ]
attribute [go_sem] mkSt
end
end Go.PL
namespace Go.PL
open Go.RowKit
set_option linter.unusedVariables false
section
variable {P : Program} {B : Frm} {S : Stable} {M : Maps} {s : St} {a : Act} {w : World} {Q : Exit → St → Prop}
theorem awp_moveRow {c : Code} (i id d n sz : Nat) (e : TypeId) (es : List PV) (hi : s.fr i = .sl (.row id) es) (hid : s.m.q id = some (.live n sz e)) (hd : s.m.q d = none)
  (h : awp P c Q ({ s with fr := upd s.fr i (.sl (.row d) es) }.with ((s.m.setq id .dead).setq d (.live n sz e)))) : awp P c Q s := fun B S M a w hs => by
 have hne : id ≠ d := fun e => by rw [e, hd] at hid; cases hid
 have hs1 := hs.moveRow hid hd
 have hrow := hs.fr i
 rw [hi] at hrow
 have key : ∃ r : Rep S (a.tmps.getD i undef) (.sl .no es), (es.length ≤ n ∧ (es.length = n → (M.κ id = 0 → a.tmps.getD i undef = .slice none 0 0) ∧ (∀ c, M.κ id = c + 1 → a.tmps.getD i undef = .slice (some ⟨M.ψ id, 0, none⟩) n c))) := by
  generalize a.tmps.getD i undef = v at hrow
  cases hrow with
  | clean r => cases r
  | row _ _ _ r t => exact ⟨r, t n sz e hid⟩
 obtain ⟨r, t⟩ := key
 refine h B S _ a w ⟨hs1.defers, hs1.hn, hs1.hB, hs1.stable, fun k => ?_, fun k r hr => ?_, hs1.blk, hs1.row, hs1.inj, hs1.injq, hs1.injx, hs1.rm, hs1.vc, ⟨hs1.pn.h, hs1.pn.q⟩⟩
 ·show RepS _ _ _ _ (upd s.fr i (.sl (.row d) es) k)
  by_cases ek : i = k
  ·subst ek
   rw [upd_same]
   refine .row d _ es r fun n' sz' e' hq => ?_
   have hq' : upd (upd s.m.q id (some .dead)) d (some (.live n sz e)) d = some (.live n' sz' e') := hq
   rw [upd_same] at hq'
   cases hq'
   refine ⟨t.1, fun el => ?_⟩
   have := t.2 el
   simpa only [upd_same] using this
  ·rw [upd_ne _ _ ek]; exact hs1.fr k
 ·have hr' : r ∈ (upd s.fr i (.sl (.row d) es) k).ids := hr
  by_cases ek : i = k
  ·subst ek
   rw [upd_same] at hr'
   simp only [PV.ids, List.mem_singleton] at hr'
   subst hr'
   show upd _ _ _ _ ≠ none
   simp [upd_same]
  ·rw [upd_ne _ _ ek] at hr'; exact hs1.ids k r hr'
end
end Go.PL
