/- Facts on the table of types of this seat, printed by program: one rule a fact. -/
import Derived.Test.YtmnibpgmcgdfpaaPlL
import Derived.Test.YtmnibpgmcgdfpaaProg
import Derived.KernelRfl
set_option linter.unusedSimpArgs false
set_option linter.unusedVariables false
namespace Go.Proofs.Ytmnibpgmcgdfpaa
open Go.PL
@[go_sem] theorem tkn_2 : tkn Try.prog 2 = true := by kernel_rfl
@[go_sem] theorem tsz_2 : tsz Try.prog 2 = 1 := by kernel_rfl
@[go_sem] theorem tagg_2 : tagg Try.prog 2 = false := by kernel_rfl
@[go_sem] theorem tkn_3 : tkn Try.prog 3 = true := by kernel_rfl
@[go_sem] theorem tsz_3 : tsz Try.prog 3 = 1 := by kernel_rfl
@[go_sem] theorem tagg_3 : tagg Try.prog 3 = false := by kernel_rfl
@[go_sem] theorem tkn_9 : tkn Try.prog 9 = true := by kernel_rfl
@[go_sem] theorem tsz_9 : tsz Try.prog 9 = 1 := by kernel_rfl
@[go_sem] theorem tagg_9 : tagg Try.prog 9 = false := by kernel_rfl
@[go_sem] theorem tix_9 : tix Try.prog 9 = .str := by kernel_rfl
@[go_sem] theorem tlen_9 : tlen Try.prog 9 = .str := by kernel_rfl
@[go_sem] theorem tkn_24 : tkn Try.prog 24 = true := by kernel_rfl
@[go_sem] theorem tsz_24 : tsz Try.prog 24 = 3 := by kernel_rfl
@[go_sem] theorem tagg_24 : tagg Try.prog 24 = true := by kernel_rfl
@[go_sem] theorem tfld_24_0 : tfld Try.prog 24 0 = some (0, 1, false) := by kernel_rfl
@[go_sem] theorem tfld_24_1 : tfld Try.prog 24 1 = some (1, 1, false) := by kernel_rfl
@[go_sem] theorem tfld_24_2 : tfld Try.prog 24 2 = some (2, 1, false) := by kernel_rfl
@[go_sem] theorem tbd_24 : tbd Try.prog 24 = .str [(0, 1), (1, 1), (2, 1)] [.int .i64 0, .str [], .str []] := by kernel_rfl
@[go_sem] theorem tleaves_24 : tleaves Try.prog 24 = some [.int, .str, .str] := by kernel_rfl
@[go_sem] theorem tkn_25 : tkn Try.prog 25 = true := by kernel_rfl
@[go_sem] theorem tsz_25 : tsz Try.prog 25 = 1 := by kernel_rfl
@[go_sem] theorem tagg_25 : tagg Try.prog 25 = false := by kernel_rfl
@[go_sem] theorem tix_25 : tix Try.prog 25 = .slc 1 false := by kernel_rfl
@[go_sem] theorem tlen_25 : tlen Try.prog 25 = .slc := by kernel_rfl
@[go_sem] theorem telem_25 : telem Try.prog 25 = some ⟨9, 1, 16⟩ := by kernel_rfl
@[go_sem] theorem tkn_27 : tkn Try.prog 27 = true := by kernel_rfl
@[go_sem] theorem tsz_27 : tsz Try.prog 27 = 5 := by kernel_rfl
@[go_sem] theorem tagg_27 : tagg Try.prog 27 = true := by kernel_rfl
@[go_sem] theorem tzero_27 : tzero Try.prog 27 = some [.int .i64 0, .str [], .str [], .int .i64 0, .sl .nil []] := by kernel_rfl
@[go_sem] theorem tfld_27_0 : tfld Try.prog 27 0 = some (0, 3, true) := by kernel_rfl
@[go_sem] theorem tfld_27_1 : tfld Try.prog 27 1 = some (3, 1, false) := by kernel_rfl
@[go_sem] theorem tfld_27_2 : tfld Try.prog 27 2 = some (4, 1, false) := by kernel_rfl
@[go_sem] theorem tbd_27 : tbd Try.prog 27 = .str [(0, 3), (3, 1), (4, 1)] [.int .i64 0, .str [], .str [], .int .i64 0, .sl .nil []] := by kernel_rfl
@[go_sem] theorem tkn_28 : tkn Try.prog 28 = true := by kernel_rfl
@[go_sem] theorem tsz_28 : tsz Try.prog 28 = 1 := by kernel_rfl
@[go_sem] theorem tagg_28 : tagg Try.prog 28 = false := by kernel_rfl
@[go_sem] theorem tix_28 : tix Try.prog 28 = .slc 5 true := by kernel_rfl
@[go_sem] theorem tlen_28 : tlen Try.prog 28 = .slc := by kernel_rfl
@[go_sem] theorem telem_28 : telem Try.prog 28 = some ⟨27, 5, 72⟩ := by kernel_rfl
@[go_sem] theorem tix_37 : tix Try.prog 37 = .slc 7 true := by kernel_rfl
@[go_sem] theorem tlen_37 : tlen Try.prog 37 = .slc := by kernel_rfl
@[go_sem] theorem telem_37 : telem Try.prog 37 = some ⟨76, 7, 96⟩ := by kernel_rfl
@[go_sem] theorem tkn_38 : tkn Try.prog 38 = true := by kernel_rfl
@[go_sem] theorem tsz_38 : tsz Try.prog 38 = 1 := by kernel_rfl
@[go_sem] theorem tagg_38 : tagg Try.prog 38 = false := by kernel_rfl
@[go_sem] theorem tix_38 : tix Try.prog 38 = .slc 2 true := by kernel_rfl
@[go_sem] theorem tlen_38 : tlen Try.prog 38 = .slc := by kernel_rfl
@[go_sem] theorem telem_38 : telem Try.prog 38 = some ⟨53, 2, 40⟩ := by kernel_rfl
@[go_sem] theorem tkn_40 : tkn Try.prog 40 = true := by kernel_rfl
@[go_sem] theorem tsz_40 : tsz Try.prog 40 = 2 := by kernel_rfl
@[go_sem] theorem tagg_40 : tagg Try.prog 40 = true := by kernel_rfl
@[go_sem] theorem tzero_40 : tzero Try.prog 40 = some [.sl .nil [], .sl .nil []] := by kernel_rfl
@[go_sem] theorem tfld_40_0 : tfld Try.prog 40 0 = some (0, 1, false) := by kernel_rfl
@[go_sem] theorem tfld_40_1 : tfld Try.prog 40 1 = some (1, 1, false) := by kernel_rfl
@[go_sem] theorem tbd_40 : tbd Try.prog 40 = .str [(0, 1), (1, 1)] [.sl .nil [], .sl .nil []] := by kernel_rfl
@[go_sem] theorem tkn_53 : tkn Try.prog 53 = true := by kernel_rfl
@[go_sem] theorem tsz_53 : tsz Try.prog 53 = 2 := by kernel_rfl
@[go_sem] theorem tagg_53 : tagg Try.prog 53 = true := by kernel_rfl
@[go_sem] theorem tzero_53 : tzero Try.prog 53 = some [.str [], .sl .nil []] := by kernel_rfl
@[go_sem] theorem tfld_53_0 : tfld Try.prog 53 0 = some (0, 1, false) := by kernel_rfl
@[go_sem] theorem tfld_53_1 : tfld Try.prog 53 1 = some (1, 1, false) := by kernel_rfl
@[go_sem] theorem tbd_53 : tbd Try.prog 53 = .str [(0, 1), (1, 1)] [.str [], .sl .nil []] := by kernel_rfl
@[go_sem] theorem tkn_76 : tkn Try.prog 76 = true := by kernel_rfl
@[go_sem] theorem tsz_76 : tsz Try.prog 76 = 7 := by kernel_rfl
@[go_sem] theorem tagg_76 : tagg Try.prog 76 = true := by kernel_rfl
@[go_sem] theorem tzero_76 : tzero Try.prog 76 = some [.int .i64 0, .str [], .str [], .int .i64 0, .str [], .sl .nil [], .int .i64 0] := by kernel_rfl
@[go_sem] theorem tfld_76_0 : tfld Try.prog 76 0 = some (0, 3, true) := by kernel_rfl
@[go_sem] theorem tfld_76_1 : tfld Try.prog 76 1 = some (3, 1, false) := by kernel_rfl
@[go_sem] theorem tfld_76_2 : tfld Try.prog 76 2 = some (4, 1, false) := by kernel_rfl
@[go_sem] theorem tfld_76_3 : tfld Try.prog 76 3 = some (5, 1, false) := by kernel_rfl
@[go_sem] theorem tfld_76_4 : tfld Try.prog 76 4 = some (6, 1, false) := by kernel_rfl
@[go_sem] theorem tbd_76 : tbd Try.prog 76 = .str [(0, 3), (3, 1), (4, 1), (5, 1), (6, 1)] [.int .i64 0, .str [], .str [], .int .i64 0, .str [], .sl .nil [], .int .i64 0] := by kernel_rfl
@[go_sem] theorem tix_130 : tix Try.prog 130 = .slc 1 false := by kernel_rfl
@[go_sem] theorem telem_130 : telem Try.prog 130 = some ⟨5, 1, 1⟩ := by kernel_rfl
@[go_sem] theorem tcv_130_9 : tcv Try.prog 130 9 = .bytes := by kernel_rfl
end Go.Proofs.Ytmnibpgmcgdfpaa

set_option linter.unusedSimpArgs false
set_option linter.unusedVariables false
set_option linter.unusedSimpArgs false
set_option linter.unusedVariables false
namespace Go.Proofs.Ytmnibpgmcgdfpaa
open Go.PL
attribute [go_sem] reduceIte Nat.reduceEqDiff reduceCtorEq Nat.reduceLT Nat.reduceAdd Nat.reduceSub Nat.reduceMul Nat.reduceLeDiff Int.reduceLT Int.reduceLE Int.reduceToNat Int.reduceEq Int.reduceAdd Int.reduceSub Int.reduceNeg Int.reduceBNe Int.reduceBEq
attribute [go_sem] true_or or_true List.getElem?_cons_zero List.getElem?_cons_succ List.getElem?_nil decide_true decide_false Bool.not_true Bool.not_false imp_self false_implies true_implies List.all_cons List.all_nil Bool.and_true Bool.false_eq_true Nat.zero_add Nat.add_zero Option.some.injEq true_and and_true List.getD_cons_zero List.getD_cons_succ List.length_cons List.length_nil ne_eq not_false_eq_true implies_true and_self List.take List.drop List.map_cons List.map_nil List.reverse_cons List.reverse_nil List.nil_append PV.bool.injEq List.length_map Int.toNat_natCast Nat.mul_one beq_self_eq_true bne_self_eq_false Bool.or_self Bool.false_or Bool.true_or Bool.or_true Bool.or_false
theorem mxo : Try.prog.follows .mixedOrders = true := by kernel_rfl
theorem vDq {id : Nat} {l : List Oper} {Q : Exit → St → Prop} {s : St} (h : @vA Try.prog false ⟨@vQ ⟨Q⟩ .normal⟩ ⟨l⟩ ⟨l⟩ s) (hB : drawB l.toArray = true := by kernel_rfl) : awp Try.prog (.region id l.toArray true) Q s := vDrawQ mxo hB h
theorem pov1 {f : FuncId} {fn : Func} {c : Code} {args : List PV} {r : PV} {n : Nat} {rs : List ResultVar} (hf : Try.prog.funcs[f]? = some fn) (hb : fn.body = some c) (hn : fn.ntmps = n) (hrs : fn.results = rs.toArray) (h : @vC Try.prog ⟨c⟩ ⟨vRetQ Try.prog rs r⟩ (St.init args n)) (hi : r.dids = [] := by rfl) (hname : fn.name ≠ "runtime.NumGoroutine" := by decide) (hl : args.length ≤ n := by simp) : PL.Pure Try.prog f args r := PL.Pure.of_v hf hname hb hn hrs hl hi h
theorem pov2 {f : FuncId} {fn : Func} {c : Code} {args : List PV} {r : PV} {n : Nat} {rs : List ResultVar} (hf : Try.prog.funcs[f]? = some fn) (hb : fn.body = some c) (hn : fn.ntmps = n) (hrs : fn.results = rs.toArray) (hi : r.dids = []) (h : @vC Try.prog ⟨c⟩ ⟨vRetQ Try.prog rs r⟩ (St.init args n)) (hname : fn.name ≠ "runtime.NumGoroutine" := by decide) (hl : args.length ≤ n := by simp) : PL.Pure Try.prog f args r := PL.Pure.of_v hf hname hb hn hrs hl hi h
theorem w64 {x : Int} (h : -9223372036854775808 ≤ x ∧ x ≤ 9223372036854775807) : IntKind.i64.wrap x = x := IntWalk.i64_in _ (by omega)
theorem maxLen_eq : maxLen = 9223372036854775807 := by decide
theorem w64s {k n : Nat} (h : k < n) (hn : n ≤ maxLen) : IntKind.i64.wrap ((k : Int) + 1) = ((k + 1 : Nat) : Int) := by
  rw [maxLen_eq] at hn
  rw [w64 (by omega)]; rfl
abbrev Str := List UInt8
structure Rf where
  sc : Int
  gr : Str
  nm : Str
  deriving DecidableEq, Inhabited
structure En where
  at' : Rf
  n : Int
  l : List Str
  deriving DecidableEq, Inhabited
structure Rw where
  item : Str
  l : List En
  deriving DecidableEq, Inhabited
structure Dc where
  head : List En
  rows : List Rw
  deriving DecidableEq, Inhabited
def strs (l : List Str) : PV := .sl .no (l.map .str)
def ref (r : Rf) : PV := .agg [.int .i64 r.sc, .str r.gr, .str r.nm]
def ent (e : En) : PV := .agg [.int .i64 e.at'.sc, .str e.at'.gr, .str e.at'.nm, .int .i64 e.n, .sl .no (e.l.map .str)]
def ents (l : List En) : PV := .sl .no (l.map ent)
def row (r : Rw) : PV := .agg [.str r.item, .sl .no (r.l.map ent)]
def doc (d : Dc) : PV := .agg [.sl .no (d.head.map ent), .sl .no (d.rows.map row)]
theorem vc1 {x : Bool} {M : KH} {g : FuncId} {args args' : List PV} {K : KR} {r : PV} (h1 : PL.Pure Try.prog g args' r) (h2 : K.k r M.m) (h0 : PV.givableL M.m args := by first | (simp only [go_sem, ref, ent, ents, doc, strs, row]; done) | exact rfl) (he : PV.giveL M.m args = args' := by first | (simp only [go_sem, ref, ent, ents, doc, strs, row]; done) | exact rfl) : @vCall Try.prog x M (some (g, args)) K := vCall_of h1 h0 he h2
theorem ref_fold (a b : Rf) : (a.sc == b.sc && (a.gr == b.gr && a.nm == b.nm)) = decide (a = b) := by
  cases a; cases b
  rw [Bool.eq_iff_iff]
  simp
theorem getD_str {l : List Str} {i : Nat} (h : i < l.length) : (l.map PV.str).getD i .any = .str (l.getD i []) := by
  simp [List.getD_eq_getElem?_getD, h]
theorem getD_ent {l : List En} {i : Nat} (h : i < l.length) : (l.map ent).getD i .any = ent (l.getD i default) := by
  simp [List.getD_eq_getElem?_getD, h]
theorem getD_row {l : List Rw} {i : Nat} (h : i < l.length) : (l.map row).getD i .any = row (l.getD i default) := by
  simp [List.getD_eq_getElem?_getD, h]
theorem getD_mem' {α : Type} {l : List α} {i : Nat} {d : α} (h : i < l.length) : l.getD i d ∈ l := by
  rw [List.getD_eq_getElem?_getD, List.getElem?_eq_getElem h]; exact List.getElem_mem h
/-- lists that are alike, place by place -/
theorem eq_of_getD {α : Type} {a b : List α} {d : α} (hl : a.length = b.length) (h : ∀ j, j < a.length → a.getD j d = b.getD j d) : a = b := by
  apply List.ext_getElem hl
  intro i h1 h2
  have := h i h1
  simpa [List.getD_eq_getElem?_getD, h1, h2] using this
theorem ne_of_getD {α : Type} {a b : List α} {d : α} {j : Nat} (h : a.getD j d ≠ b.getD j d) : a ≠ b := fun e => h (by rw [e])
set_option maxHeartbeats 1000000 in
theorem RSame_pure (a b : List Str) (ha : a.length ≤ maxLen) (hb : b.length ≤ maxLen) : PL.Pure Try.prog 26 [strs a, strs b] (.bool (decide (a = b))) := by
  by_cases hl : a.length = b.length
  · have hl' : ((a.length : Int) != (b.length : Int)) = false := by rw [hl]; exact bne_self_eq_false _
    refine pov1 Try.func26 rfl Try.ntmps26 Try.results26 ?_
    simp only [go_sem, strs, hl']
    refine vLoopM (ι := { k : Nat // k ≤ a.length ∧ ∀ j, j < k → a.getD j [] = b.getD j [] }) 26 (fun x => [(0, strs a), (1, strs b), (5, .int .i64 (x.1 : Int))]) (fun x => []) (fun x => []) (fun x => a.length - x.1) ⟨0, by omega, fun j hj => by omega⟩
      ⟨rfl, (forall_cons rfl (forall_cons rfl (forall_cons rfl (forall_nil)))), forall_nil, forall_nil⟩ (fun x => ⟨(forall_cons rfl (forall_cons rfl (forall_cons rfl (forall_nil)))), forall_nil⟩) (fun x => ?_)
    obtain ⟨k, hk, hall⟩ := x
    simp only
    by_cases h : (k : Int) < (a.length : Int)
    · have hka : k < a.length := by omega
      have hkb : k < b.length := by omega
      have w1 := w64s hka ha
      have i1 : (0 : Int) ≤ (k : Int) := by omega
      have i2 : (k : Int) < (b.length : Int) := by omega
      by_cases he : a.getD k [] = b.getD k []
      · have he' : (a.getD k [] == b.getD k []) = true := beq_iff_eq.2 he
        simp only [go_sem, strs, h]
        refine vDq ?_
        simp only [go_sem, getD_str hka, getD_str hkb, h, i1, i2, he', w1]
        exact ⟨⟨k + 1, by omega, fun j hj => by
          rcases Nat.lt_or_ge j k with h1 | h1
          · exact hall j h1
          · obtain rfl : j = k := by omega
            exact he⟩, by show a.length - (k + 1) < a.length - k; omega, ⟨rfl, (forall_cons rfl (forall_cons rfl (forall_cons rfl (forall_nil)))), forall_nil, forall_nil⟩⟩
      · have he' : (a.getD k [] == b.getD k []) = false := beq_eq_false_iff_ne.2 he
        have hab : ¬ a = b := ne_of_getD he
        simp only [go_sem, strs, h]
        refine vDq ?_
        simp only [go_sem, getD_str hka, getD_str hkb, h, i1, i2, he', hab]
    · have hab : decide (a = b) = true := decide_eq_true (eq_of_getD (d := []) hl fun j hj => hall j (by omega))
      simp only [go_sem, strs, h, hab]
  · have hl' : ((a.length : Int) != (b.length : Int)) = true := bne_iff_ne.2 (by omega)
    have hab : ¬ a = b := fun e => hl (by rw [e])
    refine pov1 Try.func26 rfl Try.ntmps26 Try.results26 ?_
    simp only [go_sem, strs, hl', hab]
end Go.Proofs.Ytmnibpgmcgdfpaa

set_option linter.unusedSimpArgs false
set_option linter.unusedVariables false
set_option linter.unusedSimpArgs false
set_option linter.unusedVariables false
namespace Go.Proofs.Ytmnibpgmcgdfpaa
open Go.PL
/-- the first place at which something holds, or -1 -/
def idx {α : Type} (p : α → Bool) (l : List α) : Int := match l.findIdx? p with | some i => (i : Int) | none => -1
theorem idx_found {α : Type} {p : α → Bool} {l : List α} {k : Nat} {d : α} (hk : k < l.length) (h : ∀ j, j < k → p (l.getD j d) = false) (hp : p (l.getD k d) = true) : idx p l = k := by
  have : l.findIdx? p = some k := by
    rw [List.findIdx?_eq_some_iff_getElem]
    refine ⟨hk, ?_, fun j hj => ?_⟩
    · simpa [List.getD_eq_getElem?_getD, hk] using hp
    · have := h j hj
      simp [List.getD_eq_getElem?_getD, show j < l.length by omega] at this
      simp [this]
  simp [idx, this]
theorem idx_none {α : Type} {p : α → Bool} {l : List α} {d : α} (h : ∀ j, j < l.length → p (l.getD j d) = false) : idx p l = -1 := by
  have : l.findIdx? p = none := by
    rw [List.findIdx?_eq_none_iff]
    intro x hx
    obtain ⟨j, hj, rfl⟩ := List.getElem_of_mem hx
    have := h j hj
    simpa [List.getD_eq_getElem?_getD, hj] using this
  simp [idx, this]
/-- one more place at which nothing is -/
theorem below_succ {p : Nat → Prop} {k : Nat} (h : ∀ j, j < k → p j) (hk : p k) : ∀ j, j < k + 1 → p j := fun j hj => by
  rcases Nat.lt_or_ge j k with h1 | h1
  · exact h j h1
  · obtain rfl : j = k := by omega
    exact hk
set_option maxHeartbeats 1000000 in
theorem entryAt_pure (l : List En) (r : Rf) (hl : l.length ≤ maxLen) : PL.Pure Try.prog 109 [ents l, ref r] (.int .i64 (idx (fun e => decide (e.at' = r)) l)) := by
  refine pov1 Try.func109 rfl Try.ntmps109 Try.results109 ?_
  simp only [go_sem, ents, ref]
  refine vLoopM (ι := { k : Nat // k ≤ l.length ∧ ∀ j, j < k → decide ((l.getD j default).at' = r) = false }) 20 (fun x => [(0, ents l), (3, .ptr 3 0), (5, .int .i64 (x.1 : Int))]) (fun x => [(3, [.int .i64 r.sc, .str r.gr, .str r.nm], false)]) (fun x => []) (fun x => l.length - x.1) ⟨0, by omega, fun j hj => by omega⟩
    ⟨rfl, (forall_cons rfl (forall_cons rfl (forall_cons rfl (forall_nil)))), forall_cons ⟨rfl, rfl⟩ forall_nil, forall_nil⟩ (fun x => ⟨(forall_cons rfl (forall_cons rfl (forall_cons rfl (forall_nil)))), (forall_cons rfl (forall_nil))⟩) (fun x => ?_)
  obtain ⟨k, hk, hall⟩ := x
  simp only
  by_cases h : (k : Int) < (l.length : Int)
  · have hka : k < l.length := by omega
    have w1 := w64s hka hl
    have i1 : (0 : Int) ≤ (k : Int) := by omega
    by_cases he : (l.getD k default).at' = r
    · have he' := decide_eq_true he
      have hx := idx_found (p := fun e : En => decide (e.at' = r)) hka hall he'
      simp only [go_sem, ents, h]
      refine vDq ?_
      simp only [go_sem, getD_ent hka, ent, h, i1, ref_fold, he', hx]
    · have he' := decide_eq_false he
      simp only [go_sem, ents, h]
      refine vDq ?_
      simp only [go_sem, getD_ent hka, ent, h, i1, ref_fold, he', w1]
      exact ⟨⟨k + 1, by omega, below_succ hall he'⟩, by show l.length - (k + 1) < l.length - k; omega, ⟨rfl, (forall_cons rfl (forall_cons rfl (forall_cons rfl (forall_nil)))), forall_cons ⟨rfl, rfl⟩ forall_nil, forall_nil⟩⟩
  · have hx := idx_none (p := fun e : En => decide (e.at' = r)) (d := default) (l := l) (fun j hj => hall j (by omega))
    simp only [go_sem, ents, h, hx]
set_option maxHeartbeats 1000000 in
theorem RowAt_pure (d : Dc) (it : Str) (hl : d.rows.length ≤ maxLen) : PL.Pure Try.prog 51 [doc d, .str it] (.int .i64 (idx (fun r => r.item == it) d.rows)) := by
  refine pov1 Try.func51 rfl Try.ntmps51 Try.results51 ?_
  simp only [go_sem, doc]
  refine vLoopM (ι := { k : Nat // k ≤ d.rows.length ∧ ∀ j, j < k → ((d.rows.getD j default).item == it) = false }) 22 (fun x => [(1, .str it), (2, .ptr 2 0), (5, .int .i64 (x.1 : Int))]) (fun x => [(2, [.sl .no (d.head.map ent), .sl .no (d.rows.map row)], false)]) (fun x => []) (fun x => d.rows.length - x.1) ⟨0, by omega, fun j hj => by omega⟩
    ⟨rfl, (forall_cons rfl (forall_cons rfl (forall_cons rfl (forall_nil)))), forall_cons ⟨rfl, rfl⟩ forall_nil, forall_nil⟩ (fun x => ⟨(forall_cons rfl (forall_cons rfl (forall_cons rfl (forall_nil)))), (forall_cons rfl (forall_nil))⟩) (fun x => ?_)
  obtain ⟨k, hk, hall⟩ := x
  simp only
  by_cases h : (k : Int) < (d.rows.length : Int)
  · have hka : k < d.rows.length := by omega
    have w1 := w64s hka hl
    have i1 : (0 : Int) ≤ (k : Int) := by omega
    cases he : ((d.rows.getD k default).item == it)
    · simp only [go_sem, h, getD_row hka, row, i1, he, w1]
      exact ⟨⟨k + 1, by omega, below_succ hall he⟩, by show d.rows.length - (k + 1) < d.rows.length - k; omega, ⟨rfl, (forall_cons rfl (forall_cons rfl (forall_cons rfl (forall_nil)))), forall_cons ⟨rfl, rfl⟩ forall_nil, forall_nil⟩⟩
    · have hx := idx_found (p := fun r : Rw => r.item == it) hka hall he
      simp only [go_sem, h, getD_row hka, row, i1, he, hx]
  · have hx := idx_none (p := fun r : Rw => r.item == it) (d := default) (l := d.rows) (fun j hj => hall j (by omega))
    simp only [go_sem, h, hx]
theorem en_ext {a b : En} (h1 : a.at' = b.at') (h2 : a.n = b.n) (h3 : a.l = b.l) : a = b := by
  cases a; cases b; simp_all
set_option maxRecDepth 20000 in
set_option maxHeartbeats 4000000 in
theorem SameEntries_pure (a b : List En) (ha : a.length ≤ maxLen) (hb : b.length ≤ maxLen) (ha' : ∀ e ∈ a, e.l.length ≤ maxLen) (hb' : ∀ e ∈ b, e.l.length ≤ maxLen) : PL.Pure Try.prog 34 [ents a, ents b] (.bool (decide (a = b))) := by
  by_cases hl : a.length = b.length
  · have hl' : ((a.length : Int) != (b.length : Int)) = false := by rw [hl]; exact bne_self_eq_false _
    refine pov1 Try.func34 rfl Try.ntmps34 Try.results34 ?_
    simp only [go_sem, ents, hl']
    refine vLoopM (ι := { k : Nat // k ≤ a.length ∧ ∀ j, j < k → a.getD j default = b.getD j default }) 55 (fun x => [(0, ents a), (1, ents b), (5, .int .i64 (x.1 : Int))]) (fun x => []) (fun x => []) (fun x => a.length - x.1) ⟨0, by omega, fun j hj => by omega⟩
      ⟨rfl, (forall_cons rfl (forall_cons rfl (forall_cons rfl (forall_nil)))), forall_nil, forall_nil⟩ (fun x => ⟨(forall_cons rfl (forall_cons rfl (forall_cons rfl (forall_nil)))), forall_nil⟩) (fun x => ?_)
    obtain ⟨k, hk, hall⟩ := x
    simp only
    by_cases h : (k : Int) < (a.length : Int)
    · have hka : k < a.length := by omega
      have hkb : k < b.length := by omega
      have w1 := w64s hka ha
      have i1 : (0 : Int) ≤ (k : Int) := by omega
      have i2 : (k : Int) < (b.length : Int) := by omega
      have hc := RSame_pure _ _ (ha' _ (getD_mem' (d := default) hka)) (hb' _ (getD_mem' (d := default) hkb))
      by_cases e1 : (a.getD k default).at' = (b.getD k default).at'
      · have e1' := decide_eq_true e1
        by_cases e2 : (a.getD k default).n = (b.getD k default).n
        · have e2' : ((a.getD k default).n != (b.getD k default).n) = false := by rw [e2]; exact bne_self_eq_false _
          by_cases e3 : (a.getD k default).l = (b.getD k default).l
          · rw [decide_eq_true e3] at hc
            simp only [go_sem, ents, h]
            refine vDq ?_
            simp only [go_sem, getD_ent hka, getD_ent hkb, ent, h, i1, i2, ref_fold, e1', e2']
            refine vc1 (hc) ?_
            simp only [go_sem, w1]
            exact ⟨⟨k + 1, by omega, below_succ hall (en_ext e1 e2 e3)⟩, by show a.length - (k + 1) < a.length - k; omega, ⟨rfl, (forall_cons rfl (forall_cons rfl (forall_cons rfl (forall_nil)))), forall_nil, forall_nil⟩⟩
          · rw [decide_eq_false e3] at hc
            have hab : ¬ a = b := fun e => e3 (by rw [e])
            simp only [go_sem, ents, h]
            refine vDq ?_
            simp only [go_sem, getD_ent hka, getD_ent hkb, ent, h, i1, i2, ref_fold, e1', e2']
            refine vc1 (hc) ?_
            simp only [go_sem, hab]
        · have e2' : ((a.getD k default).n != (b.getD k default).n) = true := bne_iff_ne.2 e2
          have hab : ¬ a = b := fun e => e2 (by rw [e])
          simp only [go_sem, ents, h]
          refine vDq ?_
          simp only [go_sem, getD_ent hka, getD_ent hkb, ent, h, i1, i2, ref_fold, e1', e2', hab]
      · have e1' := decide_eq_false e1
        have hab : ¬ a = b := fun e => e1 (by rw [e])
        simp only [go_sem, ents, h]
        refine vDq ?_
        simp only [go_sem, getD_ent hka, getD_ent hkb, ent, h, i1, i2, ref_fold, e1', hab]
    · have hab : decide (a = b) = true := decide_eq_true (eq_of_getD (d := default) hl fun j hj => hall j (by omega))
      simp only [go_sem, ents, h, hab]
  · have hl' : ((a.length : Int) != (b.length : Int)) = true := bne_iff_ne.2 (by omega)
    have hab : ¬ a = b := fun e => hl (by rw [e])
    refine pov1 Try.func34 rfl Try.ntmps34 Try.results34 ?_
    simp only [go_sem, ents, hl', hab]
end Go.Proofs.Ytmnibpgmcgdfpaa

set_option linter.unusedSimpArgs false
set_option linter.unusedVariables false
set_option linter.unusedSimpArgs false
set_option linter.unusedVariables false
namespace Go.Proofs.Ytmnibpgmcgdfpaa
open Go.PL
theorem any_true {α : Type} {p : α → Bool} {l : List α} {k : Nat} {d : α} (hk : k < l.length) (h : p (l.getD k d) = true) : l.any p = true :=
  List.any_eq_true.2 ⟨_, getD_mem' hk, h⟩
theorem any_false {α : Type} {p : α → Bool} {l : List α} {d : α} (h : ∀ j, j < l.length → p (l.getD j d) = false) : l.any p = false := by
  rw [List.any_eq_false]
  intro x hx
  obtain ⟨j, hj, rfl⟩ := List.getElem_of_mem hx
  have := h j hj
  simpa [List.getD_eq_getElem?_getD, hj] using this
def longB (n : Nat) (s : Str) : Bool := decide ((n : Int) < (s.length : Int))
def entH (e : En) : Bool := longB 200 e.at'.gr || (longB 200 e.at'.nm || (decide ((410 : Int) < (e.l.length : Int)) || e.l.any (longB 200)))
def heavyEs (l : List En) : Bool := decide ((40 : Int) < (l.length : Int)) || l.any entH
def rowH (r : Rw) : Bool := longB 200 r.item || heavyEs r.l
def heavyD (d : Dc) : Bool := decide ((410 : Int) < (d.rows.length : Int)) || (heavyEs d.head || d.rows.any rowH)
set_option maxRecDepth 20000 in
set_option maxHeartbeats 4000000 in
theorem heavyEntries_pure (l : List En) (hl : l.length ≤ maxLen) (hl' : ∀ e ∈ l, e.l.length ≤ maxLen) : PL.Pure Try.prog 46 [ents l] (.bool (heavyEs l)) := by
  by_cases h40 : (40 : Int) < (l.length : Int)
  · refine pov1 Try.func46 rfl Try.ntmps46 Try.results46 ?_
    simp only [go_sem, ents, h40, heavyEs]
  · refine pov1 Try.func46 rfl Try.ntmps46 Try.results46 ?_
    simp only [go_sem, ents, h40]
    refine vLoopM (ι := { k : Nat // k ≤ l.length ∧ ∀ j, j < k → entH (l.getD j default) = false }) 61 (fun x => [(0, ents l), (3, .int .i64 (x.1 : Int))]) (fun x => []) (fun x => []) (fun x => l.length - x.1) ⟨0, by omega, fun j hj => by omega⟩
      ⟨rfl, (forall_cons rfl (forall_cons rfl (forall_nil))), forall_nil, forall_nil⟩ (fun x => ⟨(forall_cons rfl (forall_cons rfl (forall_nil))), forall_nil⟩) (fun x => ?_)
    obtain ⟨k, hk, hall⟩ := x
    simp only
    by_cases h : (k : Int) < (l.length : Int)
    · have hka : k < l.length := by omega
      have w1 := w64s hka hl
      have i1 : (0 : Int) ≤ (k : Int) := by omega
      have hle := hl' _ (getD_mem' (d := default) hka)
      have done : entH (l.getD k default) = true → heavyEs l = true := fun h => by simp only [heavyEs, any_true hka h, Bool.or_true]
      by_cases g1 : (200 : Int) < ((l.getD k default).at'.gr.length : Int)
      · have hx := done (by simp only [entH, longB, decide_eq_true_eq, Bool.or_eq_true]; exact .inl (by omega))
        simp only [go_sem, ents, h, getD_ent hka, ent, i1, g1, hx]
      · by_cases g2 : (200 : Int) < ((l.getD k default).at'.nm.length : Int)
        · have hx := done (by simp only [entH, longB, decide_eq_true_eq, Bool.or_eq_true]; exact .inr (.inl (by omega)))
          simp only [go_sem, ents, h, getD_ent hka, ent, i1, g1, g2, hx]
        · by_cases g3 : (410 : Int) < ((l.getD k default).l.length : Int)
          · have hx := done (by simp only [entH, longB, decide_eq_true_eq, Bool.or_eq_true]; exact .inr (.inr (.inl g3)))
            simp only [go_sem, ents, h, getD_ent hka, ent, i1, g1, g2, g3, hx]
          · simp only [go_sem, ents, h, getD_ent hka, ent, i1, g1, g2, g3]
            refine vLoopM (ι := { n : Nat // n ≤ (l.getD k default).l.length ∧ ∀ j, j < n → longB 200 ((l.getD k default).l.getD j []) = false }) 61 (fun x => [(0, ents l), (3, .int .i64 (k : Int)), (4, .int .i64 (x.1 : Int))]) (fun x => []) (fun x => []) (fun x => (l.getD k default).l.length - x.1) ⟨0, by omega, fun j hj => by omega⟩
              ⟨rfl, (forall_cons rfl (forall_cons rfl (forall_cons rfl (forall_nil)))), forall_nil, forall_nil⟩ (fun x => ⟨(forall_cons rfl (forall_cons rfl (forall_cons rfl (forall_nil)))), forall_nil⟩) (fun x => ?_)
            obtain ⟨n, hn, hall2⟩ := x
            simp only
            by_cases h2 : (n : Int) < ((l.getD k default).l.length : Int)
            · have hna : n < (l.getD k default).l.length := by omega
              have w2 := w64s hna hle
              have i3 : (0 : Int) ≤ (n : Int) := by omega
              by_cases g4 : (200 : Int) < (((l.getD k default).l.getD n []).length : Int)
              · have hx := done (by simp only [entH, Bool.or_eq_true]; exact .inr (.inr (.inr (any_true hna (d := []) (by simp only [longB, decide_eq_true_eq]; omega)))))
                simp only [go_sem, ents, h, getD_ent hka, ent, i1, h2, getD_str hna, i3, g4, hx]
              · simp only [go_sem, ents, h, getD_ent hka, ent, i1, h2, getD_str hna, i3, g4, w2]
                exact ⟨⟨n + 1, by omega, below_succ hall2 (by simp only [longB, decide_eq_false_iff_not]; omega)⟩, by show (l.getD k default).l.length - (n + 1) < (l.getD k default).l.length - n; omega, ⟨rfl, (forall_cons rfl (forall_cons rfl (forall_cons rfl (forall_nil)))), forall_nil, forall_nil⟩⟩
            · have hz : entH (l.getD k default) = false := by
                have := any_false (p := longB 200) (d := []) (l := (l.getD k default).l) (fun j hj => hall2 j (by omega))
                simp only [entH, longB, this, Bool.or_false, Bool.or_eq_false_iff, decide_eq_false_iff_not]
                exact ⟨by omega, by omega, g3⟩
              simp only [go_sem, ents, h, getD_ent hka, ent, i1, h2, w1]
              exact ⟨⟨k + 1, by omega, below_succ hall hz⟩, by show l.length - (k + 1) < l.length - k; omega, ⟨rfl, (forall_cons rfl (forall_cons rfl (forall_nil))), forall_nil, forall_nil⟩⟩
    · have hx := any_false (p := entH) (d := default) (l := l) (fun j hj => hall j (by omega))
      have hz : heavyEs l = false := by simp only [heavyEs, h40, hx, decide_false, Bool.or_false]
      simp only [go_sem, ents, h, hz]
def Fine (d : Dc) : Prop := d.head.length ≤ maxLen ∧ d.rows.length ≤ maxLen ∧ (∀ e ∈ d.head, e.l.length ≤ maxLen) ∧ ∀ r ∈ d.rows, r.l.length ≤ maxLen ∧ ∀ e ∈ r.l, e.l.length ≤ maxLen
set_option maxRecDepth 20000 in
set_option maxHeartbeats 4000000 in
theorem Heavy_pure (d : Dc) (hf : Fine d) : PL.Pure Try.prog 17 [doc d] (.bool (heavyD d)) := by
  obtain ⟨f1, f2, f3, f4⟩ := hf
  have hH := heavyEntries_pure d.head f1 f3
  by_cases h1 : (410 : Int) < (d.rows.length : Int)
  · refine pov1 Try.func17 rfl Try.ntmps17 Try.results17 ?_
    simp only [go_sem, doc, h1, heavyD]
  · cases h2 : heavyEs d.head
    · rw [h2] at hH
      refine pov1 Try.func17 rfl Try.ntmps17 Try.results17 ?_
      simp only [go_sem, doc, h1]
      refine vc1 (hH) ?_
      simp only [go_sem]
      refine vLoopM (ι := { k : Nat // k ≤ d.rows.length ∧ ∀ j, j < k → rowH (d.rows.getD j default) = false }) 37 (fun x => [(1, .ptr 1 0), (3, .int .i64 (x.1 : Int))]) (fun x => [(1, [.sl .no (d.head.map ent), .sl .no (d.rows.map row)], false)]) (fun x => []) (fun x => d.rows.length - x.1) ⟨0, by omega, fun j hj => by omega⟩
        ⟨rfl, (forall_cons rfl (forall_cons rfl (forall_nil))), forall_cons ⟨rfl, rfl⟩ forall_nil, forall_nil⟩ (fun x => ⟨(forall_cons rfl (forall_cons rfl (forall_nil))), (forall_cons rfl (forall_nil))⟩) (fun x => ?_)
      obtain ⟨k, hk, hall⟩ := x
      simp only
      by_cases h : (k : Int) < (d.rows.length : Int)
      · have hka : k < d.rows.length := by omega
        have w1 := w64s hka f2
        have i1 : (0 : Int) ≤ (k : Int) := by omega
        obtain ⟨b1, b2⟩ := f4 _ (getD_mem' (d := default) hka)
        have hR := heavyEntries_pure _ b1 b2
        by_cases g1 : (200 : Int) < ((d.rows.getD k default).item.length : Int)
        · have hx : heavyD d = true := by simp only [heavyD, any_true (p := rowH) (d := default) hka (by simp only [rowH, longB, Bool.or_eq_true, decide_eq_true_eq]; exact .inl (by omega)), Bool.or_true]
          simp only [go_sem, h, getD_row hka, row, i1, g1, hx]
        · cases g2 : heavyEs (d.rows.getD k default).l
          · rw [g2] at hR
            simp only [go_sem, h, getD_row hka, row, i1, g1]
            refine vc1 (hR) ?_
            simp only [go_sem, w1]
            exact ⟨⟨k + 1, by omega, below_succ hall (by simp only [rowH, longB, g2, Bool.or_false, decide_eq_false_iff_not]; omega)⟩, by show d.rows.length - (k + 1) < d.rows.length - k; omega, ⟨rfl, (forall_cons rfl (forall_cons rfl (forall_nil))), forall_cons ⟨rfl, rfl⟩ forall_nil, forall_nil⟩⟩
          · rw [g2] at hR
            have hx : heavyD d = true := by simp only [heavyD, any_true (p := rowH) (d := default) hka (by simp only [rowH, g2, Bool.or_true]), Bool.or_true]
            simp only [go_sem, h, getD_row hka, row, i1, g1]
            refine vc1 (hR) ?_
            simp only [go_sem, hx]
      · have hx := any_false (p := rowH) (d := default) (l := d.rows) (fun j hj => hall j (by omega))
        have hz : heavyD d = false := by simp only [heavyD, h1, h2, hx, decide_false, Bool.or_false]
        simp only [go_sem, h, hz]
    · rw [h2] at hH
      refine pov1 Try.func17 rfl Try.ntmps17 Try.results17 ?_
      simp only [go_sem, doc, h1]
      refine vc1 (hH) ?_
      simp only [go_sem, heavyD, h2]
end Go.Proofs.Ytmnibpgmcgdfpaa

set_option linter.unusedSimpArgs false
set_option linter.unusedVariables false
set_option linter.unusedSimpArgs false
set_option linter.unusedVariables false
namespace Go.Proofs.Ytmnibpgmcgdfpaa
open Go.PL
@[go_sem] theorem arr_empty {α : Type} : (#[] : Array α).isEmpty = true := rfl
theorem idx_cases {α : Type} (p : α → Bool) (l : List α) : idx p l = -1 ∨ ∃ k : Nat, k < l.length ∧ idx p l = k := by
  unfold idx
  cases h : l.findIdx? p with
  | none => exact .inl rfl
  | some k =>
    rw [List.findIdx?_eq_some_iff_getElem] at h
    exact .inr ⟨k, h.1, rfl⟩
theorem room_small {n b : Nat} (hn : n ≤ 100000000000) (hb : b ≤ 1000) : Room n b := by
  refine ⟨?_, by unfold maxLen; omega⟩
  calc n * b ≤ 100000000000 * 1000 := Nat.mul_le_mul hn hb
    _ ≤ 140737488355328 := by decide
@[go_sem] theorem sized_nil (n : Nat) : Sized n [] = True := by simp [Sized]
@[go_sem] theorem sized_cons (n : Nat) (e : PV) (l : List PV) : Sized n (e :: l) = (e.cells.length = n ∧ Sized n l) := by simp [Sized]
@[go_sem] theorem atoms_nil : Atoms [] = True := by simp [Atoms]
@[go_sem] theorem atoms_cons (e : PV) (l : List PV) : Atoms (e :: l) = (e.cells.all PV.atom = true ∧ Atoms l) := by simp [Atoms]
theorem sized_str (l : List Str) : Sized 1 (l.map .str) := fun e he => by
  obtain ⟨x, _, rfl⟩ := List.mem_map.1 he; rfl
theorem atoms_str (l : List Str) : Atoms (l.map .str) := fun e he => by
  obtain ⟨x, _, rfl⟩ := List.mem_map.1 he; rfl
set_option maxHeartbeats 1000000 in
theorem seek1_pure (r : Rw) (it : Str) : PL.Pure Try.prog 104 [row r, .rptr [.str it]] (.bool (r.item == it)) := by
  refine pov1 Try.func104 rfl Try.ntmps104 Try.results104 ?_
  simp only [go_sem, row]
set_option maxHeartbeats 1000000 in
theorem seek2_pure (e : En) (r : Rf) : PL.Pure Try.prog 106 [ent e, .rptr [.int .i64 r.sc, .str r.gr, .str r.nm]] (.bool (decide (e.at' = r))) := by
  refine pov1 Try.func106 rfl Try.ntmps106 Try.results106 ?_
  simp only [go_sem, ent, ref_fold]
set_option maxHeartbeats 1000000 in
theorem IndexRow_pure (l : List Rw) (g : FuncId) (cs : List PV) (p : Rw → Bool) (hl : l.length ≤ maxLen) (hp : ∀ r ∈ l, PL.Pure Try.prog g [row r, .rptr cs] (.bool (p r))) :
    PL.Pure Try.prog 66 [.sl .no (l.map row), .fn g [.rptr cs]] (.int .i64 (idx p l)) := by
  refine pov1 Try.func66 rfl Try.ntmps66 Try.results66 ?_
  simp only [go_sem]
  refine vLoopM (ι := { k : Nat // k ≤ l.length ∧ ∀ j, j < k → p (l.getD j default) = false }) 19 (fun x => [(0, .sl .no (l.map row)), (1, .fn g [.rptr cs]), (7, .int .i64 (l.length : Int)), (8, .int .i64 (x.1 : Int))]) (fun x => []) (fun x => []) (fun x => l.length - x.1) ⟨0, by omega, fun j hj => by omega⟩
    ⟨rfl, (forall_cons rfl (forall_cons rfl (forall_cons rfl (forall_cons rfl (forall_nil))))), forall_nil, forall_nil⟩ (fun x => ⟨(forall_cons rfl (forall_cons rfl (forall_cons rfl (forall_cons rfl (forall_nil))))), forall_nil⟩) (fun x => ?_)
  obtain ⟨k, hk, hall⟩ := x
  simp only
  by_cases h : (k : Int) < (l.length : Int)
  · have hka : k < l.length := by omega
    have w1 := w64s hka hl
    have i1 : (0 : Int) ≤ (k : Int) := by omega
    have hc := hp _ (getD_mem' (d := default) hka)
    cases he : p (l.getD k default)
    · rw [he] at hc
      simp only [go_sem, h, getD_row hka, row, i1]
      refine vc1 (hc) ?_
      simp only [go_sem, w1]
      exact ⟨⟨k + 1, by omega, below_succ hall he⟩, by show l.length - (k + 1) < l.length - k; omega, ⟨rfl, (forall_cons rfl (forall_cons rfl (forall_cons rfl (forall_cons rfl (forall_nil))))), forall_nil, forall_nil⟩⟩
    · rw [he] at hc
      have hx := idx_found (p := p) hka hall he
      simp only [go_sem, h, getD_row hka, row, i1]
      refine vc1 (hc) ?_
      simp only [go_sem, hx]
  · have hx := idx_none (p := p) (d := default) (l := l) (fun j hj => hall j (by omega))
    simp only [go_sem, h, hx]
set_option maxHeartbeats 1000000 in
theorem IndexEnt_pure (l : List En) (g : FuncId) (cs : List PV) (p : En → Bool) (hl : l.length ≤ maxLen) (hp : ∀ r ∈ l, PL.Pure Try.prog g [ent r, .rptr cs] (.bool (p r))) :
    PL.Pure Try.prog 105 [.sl .no (l.map ent), .fn g [.rptr cs]] (.int .i64 (idx p l)) := by
  refine pov1 Try.func105 rfl Try.ntmps105 Try.results105 ?_
  simp only [go_sem]
  refine vLoopM (ι := { k : Nat // k ≤ l.length ∧ ∀ j, j < k → p (l.getD j default) = false }) 19 (fun x => [(0, .sl .no (l.map ent)), (1, .fn g [.rptr cs]), (7, .int .i64 (l.length : Int)), (8, .int .i64 (x.1 : Int))]) (fun x => []) (fun x => []) (fun x => l.length - x.1) ⟨0, by omega, fun j hj => by omega⟩
    ⟨rfl, (forall_cons rfl (forall_cons rfl (forall_cons rfl (forall_cons rfl (forall_nil))))), forall_nil, forall_nil⟩ (fun x => ⟨(forall_cons rfl (forall_cons rfl (forall_cons rfl (forall_cons rfl (forall_nil))))), forall_nil⟩) (fun x => ?_)
  obtain ⟨k, hk, hall⟩ := x
  simp only
  by_cases h : (k : Int) < (l.length : Int)
  · have hka : k < l.length := by omega
    have w1 := w64s hka hl
    have i1 : (0 : Int) ≤ (k : Int) := by omega
    have hc := hp _ (getD_mem' (d := default) hka)
    cases he : p (l.getD k default)
    · rw [he] at hc
      simp only [go_sem, h, getD_ent hka, ent, i1]
      refine vc1 (hc) ?_
      simp only [go_sem, w1]
      exact ⟨⟨k + 1, by omega, below_succ hall he⟩, by show l.length - (k + 1) < l.length - k; omega, ⟨rfl, (forall_cons rfl (forall_cons rfl (forall_cons rfl (forall_cons rfl (forall_nil))))), forall_nil, forall_nil⟩⟩
    · rw [he] at hc
      have hx := idx_found (p := p) hka hall he
      simp only [go_sem, h, getD_ent hka, ent, i1]
      refine vc1 (hc) ?_
      simp only [go_sem, hx]
  · have hx := idx_none (p := p) (d := default) (l := l) (fun j hj => hall j (by omega))
    simp only [go_sem, h, hx]
theorem didsL_str (l : List Str) : PV.didsL (l.map .str) = [] := by
  induction l with
  | nil => rfl
  | cons t l ih => simp only [List.map_cons, PV.didsL, ih, PV.dids, List.append_nil]
theorem ent_dids (e : En) : (ent e).dids = [] := by simp only [ent, PV.dids, PV.didsL, didsL_str, List.append_nil]
set_option maxHeartbeats 1000000 in
theorem ownEntry_pure (e : En) (he : e.l.length ≤ 1000000) : PL.Pure Try.prog 74 [ent e] (ent e) := by
  have hr := room_small (show e.l.length ≤ 100000000000 by omega) (show 16 ≤ 1000 by omega)
  refine pov2 Try.func74 rfl Try.ntmps74 Try.results74 (ent_dids _) ?_
  simp only [go_sem, ent, sized_str, atoms_str, hr]
end Go.Proofs.Ytmnibpgmcgdfpaa

set_option linter.unusedSimpArgs false
set_option linter.unusedVariables false
set_option linter.unusedSimpArgs false
set_option linter.unusedVariables false
namespace Go.Proofs.Ytmnibpgmcgdfpaa
open Go.PL
def atE (r : Rf) : En → Bool := fun e => decide (e.at' = r)
def atR (it : Str) : Rw → Bool := fun r => r.item == it
def seekM (d : Dc) (it : Str) (r : Rf) : Int × Int × Int :=
  if it = [] then (if idx (atE r) d.head < 0 then (0, 0, 6) else (-1, idx (atE r) d.head, 0))
  else if idx (atR it) d.rows < 0 then (0, 0, 12)
  else if idx (atE r) (d.rows.getD (idx (atR it) d.rows).toNat default).l < 0 then (0, 0, 6)
  else (idx (atR it) d.rows, idx (atE r) (d.rows.getD (idx (atR it) d.rows).toNat default).l, 0)
def int3 (x : Int × Int × Int) : PV := .tup [.int .i64 x.1, .int .i64 x.2.1, .int .i64 x.2.2]
attribute [go_sem] Bool.not_eq_true'
theorem beq_nil {s : Str} (h : s = []) : (s == []) = true := by rw [h]; rfl
theorem beq_nil' {s : Str} (h : ¬ s = []) : (s == []) = false := beq_eq_false_iff_ne.2 h
set_option maxRecDepth 20000 in
set_option maxHeartbeats 4000000 in
theorem seek_pure (d : Dc) (it : Str) (r : Rf) (hf : Fine d) : PL.Pure Try.prog 71 [doc d, .str it, ref r] (int3 (seekM d it r)) := by
  obtain ⟨f1, f2, f3, f4⟩ := hf
  by_cases hi : it = []
  · have hi' := beq_nil hi
    have hc := IndexEnt_pure d.head 106 [.int .i64 r.sc, .str r.gr, .str r.nm] (atE r) f1 (fun e _ => seek2_pure e r)
    by_cases h1 : idx (atE r) d.head < 0
    all_goals
      refine pov1 Try.func71 rfl Try.ntmps71 Try.results71 ?_
      simp only [go_sem, doc, ref, hi']
      refine vc1 (hc) ?_
      simp only [go_sem, h1, int3, seekM, hi]
  · have hi' := beq_nil' hi
    have hc := IndexRow_pure d.rows 104 [.str it] (atR it) f2 (fun e _ => seek1_pure e it)
    by_cases h1 : idx (atR it) d.rows < 0
    · refine pov1 Try.func71 rfl Try.ntmps71 Try.results71 ?_
      simp only [go_sem, doc, ref, hi']
      refine vc1 (hc) ?_
      simp only [go_sem, h1, int3, seekM, hi]
    · rcases idx_cases (atR it) d.rows with h2 | ⟨k, hk, h2⟩
      · omega
      · have hc2 := IndexEnt_pure (d.rows.getD k default).l 106 [.int .i64 r.sc, .str r.gr, .str r.nm] (atE r) (f4 _ (getD_mem' hk)).1 (fun e _ => seek2_pure e r)
        have i1 : (0 : Int) ≤ (k : Int) := by omega
        have i2 : (k : Int) < (d.rows.length : Int) := by omega
        have i3 : ¬ (k : Int) < 0 := by omega
        rw [h2] at hc
        by_cases h3 : idx (atE r) (d.rows.getD k default).l < 0
        all_goals
          refine pov1 Try.func71 rfl Try.ntmps71 Try.results71 ?_
          simp only [go_sem, doc, ref, hi']
          refine vc1 (hc) ?_
          simp only [go_sem, i1, i2, i3, getD_row hk, row]
          refine vc1 (hc2) ?_
          simp only [go_sem, h3, int3, seekM, hi, h2, i3]
def findM (d : Dc) (it : Str) (r : Rf) : En × Int :=
  if it = [] then (if idx (atE r) d.head < 0 then (default, 6) else (d.head.getD (idx (atE r) d.head).toNat default, 0))
  else if idx (atR it) d.rows < 0 then (default, 12)
  else if idx (atE r) (d.rows.getD (idx (atR it) d.rows).toNat default).l < 0 then (default, 6)
  else ((d.rows.getD (idx (atR it) d.rows).toNat default).l.getD (idx (atE r) (d.rows.getD (idx (atR it) d.rows).toNat default).l).toNat default, 0)
def entc (x : En × Int) : PV := .tup [ent x.1, .int .i64 x.2]
theorem entc_dids (x : En × Int) : (entc x).dids = [] := by simp only [entc, PV.dids, PV.didsL, ent_dids, List.append_nil]
theorem ent_default : ent default = .agg [.int .i64 0, .str [], .str [], .int .i64 0, .sl .no []] := rfl
def Small (d : Dc) : Prop := (∀ e ∈ d.head, e.l.length ≤ 1000000) ∧ ∀ r ∈ d.rows, ∀ e ∈ r.l, e.l.length ≤ 1000000
set_option maxRecDepth 20000 in
set_option maxHeartbeats 4000000 in
theorem Find_pure (d : Dc) (it : Str) (r : Rf) (hf : Fine d) (hs : Small d) : PL.Pure Try.prog 33 [doc d, .str it, ref r] (entc (findM d it r)) := by
  have hc := seek_pure d it r hf
  obtain ⟨f1, f2, f3, f4⟩ := hf
  unfold seekM at hc
  unfold findM
  by_cases hi : it = []
  · rw [if_pos hi] at hc ⊢
    rcases idx_cases (atE r) d.head with h2 | ⟨k, hk, h2⟩
    · rw [h2] at hc ⊢
      refine pov2 Try.func33 rfl Try.ntmps33 Try.results33 (entc_dids _) ?_
      simp only [go_sem, doc, ref]
      refine vc1 (hc) ?_
      simp only [go_sem, int3, entc, ent_default]
    · have i1 : (0 : Int) ≤ (k : Int) := by omega
      have i2 : (k : Int) < (d.head.length : Int) := by omega
      have i3 : ¬ (k : Int) < 0 := by omega
      have ho := ownEntry_pure (d.head.getD k default) (hs.1 _ (getD_mem' hk))
      rw [h2, if_neg i3] at hc
      rw [h2, if_neg i3]
      refine pov2 Try.func33 rfl Try.ntmps33 Try.results33 (entc_dids _) ?_
      simp only [go_sem, doc, ref]
      refine vc1 (hc) ?_
      simp only [go_sem, int3, i1, i2, getD_ent hk, ent]
      refine vc1 (ho) ?_
      simp only [go_sem, entc, ent]
  · rw [if_neg hi] at hc ⊢
    rcases idx_cases (atR it) d.rows with h2 | ⟨k, hk, h2⟩
    · rw [h2] at hc ⊢
      refine pov2 Try.func33 rfl Try.ntmps33 Try.results33 (entc_dids _) ?_
      simp only [go_sem, doc, ref]
      refine vc1 (hc) ?_
      simp only [go_sem, int3, entc, ent_default]
    · have i1 : (0 : Int) ≤ (k : Int) := by omega
      have i2 : (k : Int) < (d.rows.length : Int) := by omega
      have i3 : ¬ (k : Int) < 0 := by omega
      rw [h2, if_neg i3] at hc
      rw [h2, if_neg i3]
      simp only [Int.toNat_natCast] at hc ⊢
      rcases idx_cases (atE r) (d.rows.getD k default).l with h4 | ⟨n, hn, h4⟩
      · rw [h4] at hc ⊢
        refine pov2 Try.func33 rfl Try.ntmps33 Try.results33 (entc_dids _) ?_
        simp only [go_sem, doc, ref]
        refine vc1 (hc) ?_
        simp only [go_sem, int3, entc, ent_default]
      · have j1 : (0 : Int) ≤ (n : Int) := by omega
        have j2 : (n : Int) < ((d.rows.getD k default).l.length : Int) := by omega
        have j3 : ¬ (n : Int) < 0 := by omega
        have ho := ownEntry_pure ((d.rows.getD k default).l.getD n default) (hs.2 _ (getD_mem' hk) _ (getD_mem' hn))
        rw [h4, if_neg j3] at hc
        rw [h4, if_neg j3]
        refine pov2 Try.func33 rfl Try.ntmps33 Try.results33 (entc_dids _) ?_
        simp only [go_sem, doc, ref]
        refine vc1 (hc) ?_
        simp only [go_sem, int3, i1, i2, i3, getD_row hk, row, j1, j2, getD_ent hn, ent]
        refine vc1 (ho) ?_
        simp only [go_sem, entc, ent]
set_option maxRecDepth 20000 in
set_option maxHeartbeats 4000000 in
theorem RFind_pure (d : Dc) (it : Str) (r : Rf) (hf : Fine d) : PL.Pure Try.prog 75 [doc d, .str it, ref r] (entc (findM d it r)) := by
  obtain ⟨f1, f2, f3, f4⟩ := hf
  unfold findM
  by_cases hi : it = []
  · rw [if_pos hi]
    have hi' := beq_nil hi
    have hc := entryAt_pure d.head r f1
    rcases idx_cases (atE r) d.head with h2 | ⟨k, hk, h2⟩
    · rw [h2]
      have hc : PL.Pure Try.prog 109 [ents d.head, ref r] (.int .i64 (-1)) := by rw [← h2]; exact hc
      refine pov2 Try.func75 rfl Try.ntmps75 Try.results75 (entc_dids _) ?_
      simp only [go_sem, doc, ref, hi']
      refine vc1 (hc) ?_
      simp only [go_sem, entc, ent_default]
    · have i1 : (0 : Int) ≤ (k : Int) := by omega
      have i2 : (k : Int) < (d.head.length : Int) := by omega
      have i3 : ¬ (k : Int) < 0 := by omega
      have hc : PL.Pure Try.prog 109 [ents d.head, ref r] (.int .i64 k) := by rw [← h2]; exact hc
      rw [h2, if_neg i3]
      refine pov2 Try.func75 rfl Try.ntmps75 Try.results75 (entc_dids _) ?_
      simp only [go_sem, doc, ref, hi']
      refine vc1 (hc) ?_
      simp only [go_sem, i1, i2, i3, getD_ent hk, ent, entc]
  · rw [if_neg hi]
    have hi' := beq_nil' hi
    have hc := RowAt_pure d it f2
    rcases idx_cases (atR it) d.rows with h2 | ⟨k, hk, h2⟩
    · rw [h2]
      have hc : PL.Pure Try.prog 51 [doc d, .str it] (.int .i64 (-1)) := by rw [← h2]; exact hc
      refine pov2 Try.func75 rfl Try.ntmps75 Try.results75 (entc_dids _) ?_
      simp only [go_sem, doc, ref, hi']
      refine vc1 (hc) ?_
      simp only [go_sem, entc, ent_default]
    · have i1 : (0 : Int) ≤ (k : Int) := by omega
      have i2 : (k : Int) < (d.rows.length : Int) := by omega
      have i3 : ¬ (k : Int) < 0 := by omega
      have hc : PL.Pure Try.prog 51 [doc d, .str it] (.int .i64 k) := by rw [← h2]; exact hc
      rw [h2, if_neg i3]
      simp only [Int.toNat_natCast]
      have hc2 := entryAt_pure (d.rows.getD k default).l r (f4 _ (getD_mem' hk)).1
      rcases idx_cases (atE r) (d.rows.getD k default).l with h4 | ⟨n, hn, h4⟩
      · rw [h4]
        have hc2 : PL.Pure Try.prog 109 [ents (d.rows.getD k default).l, ref r] (.int .i64 (-1)) := by rw [← h4]; exact hc2
        refine pov2 Try.func75 rfl Try.ntmps75 Try.results75 (entc_dids _) ?_
        simp only [go_sem, doc, ref, hi']
        refine vc1 (hc) ?_
        simp only [go_sem, i1, i2, i3, getD_row hk, row]
        refine vc1 (hc2) ?_
        simp only [go_sem, entc, ent_default]
      · have j1 : (0 : Int) ≤ (n : Int) := by omega
        have j2 : (n : Int) < ((d.rows.getD k default).l.length : Int) := by omega
        have j3 : ¬ (n : Int) < 0 := by omega
        have hc2 : PL.Pure Try.prog 109 [ents (d.rows.getD k default).l, ref r] (.int .i64 n) := by rw [← h4]; exact hc2
        rw [h4, if_neg j3]
        refine pov2 Try.func75 rfl Try.ntmps75 Try.results75 (entc_dids _) ?_
        simp only [go_sem, doc, ref, hi']
        refine vc1 (hc) ?_
        simp only [go_sem, i1, i2, i3, getD_row hk, row]
        refine vc1 (hc2) ?_
        simp only [go_sem, j1, j2, j3, getD_ent hn, ent, entc]
end Go.Proofs.Ytmnibpgmcgdfpaa

set_option linter.unusedSimpArgs false
set_option linter.unusedVariables false
set_option linter.unusedSimpArgs false
set_option linter.unusedVariables false
namespace Go.Proofs.Ytmnibpgmcgdfpaa
open Go.PL
structure Fd where
  at' : Rf
  kind : Int
  df : Str
  cases' : List Str
  worth : Int
  deriving DecidableEq, Inhabited
def fld (f : Fd) : PV := .agg [.int .i64 f.at'.sc, .str f.at'.gr, .str f.at'.nm, .int .i64 f.kind, .str f.df, .sl .no (f.cases'.map .str), .int .i64 f.worth]
def flds (l : List Fd) : PV := .sl .no (l.map fld)
theorem vc2 {x : Bool} {M : KH} {g : FuncId} {args args' : List PV} {K : KR} {r : PV} (h1 : PL.Pure Try.prog g args' r) (h2 : K.k r M.m) (h0 : PV.givableL M.m args := by first | (simp only [go_sem, ref, ent, ents, doc, strs, row, flds, fld]; done) | exact rfl) (he : PV.giveL M.m args = args' := by first | (simp only [go_sem, ref, ent, ents, doc, strs, row, flds, fld]; done) | exact rfl) : @vCall Try.prog x M (some (g, args)) K := vCall_of h1 h0 he h2
theorem getD_fld {l : List Fd} {i : Nat} (h : i < l.length) : (l.map fld).getD i .any = fld (l.getD i default) := by
  simp [List.getD_eq_getElem?_getD, h]
def valueM (f : Fd) : En := ⟨f.at', 0, if f.kind = 1 ∨ f.kind = 4 then [] else [f.df]⟩
attribute [go_sem] partsOk
set_option maxHeartbeats 1000000 in
theorem Value_pure (f : Fd) : PL.Pure Try.prog 102 [fld f] (ent (valueM f)) := by
  by_cases h1 : f.kind = 1
  · have h1' : (f.kind != 1) = false := by rw [h1]; rfl
    refine pov2 Try.func102 rfl Try.ntmps102 Try.results102 (ent_dids _) ?_
    simp only [go_sem, fld, ent, valueM, h1']
    simp [h1]
  · have h1' : (f.kind != 1) = true := bne_iff_ne.2 h1
    by_cases h2 : f.kind = 4
    · have h2' : (f.kind != 4) = false := by rw [h2]; rfl
      refine pov2 Try.func102 rfl Try.ntmps102 Try.results102 (ent_dids _) ?_
      simp only [go_sem, fld, ent, valueM, h1', h2']
      simp [h2]
    · have h2' : (f.kind != 4) = true := bne_iff_ne.2 h2
      refine pov2 Try.func102 rfl Try.ntmps102 Try.results102 (ent_dids _) ?_
      simp only [go_sem, fld, ent, valueM, h1', h2', h1, h2, or_self]
def blanksM (l : List Fd) (sc : Int) : List En := (l.filter fun f => f.at'.sc == sc).map valueM
theorem sized_ent (l : List En) : Sized 5 (l.map ent) := fun e he => by
  obtain ⟨x, _, rfl⟩ := List.mem_map.1 he; rfl
theorem atoms_ent (l : List En) : Atoms (l.map ent) := fun e he => by
  obtain ⟨x, _, rfl⟩ := List.mem_map.1 he; rfl
theorem sized_ent1 (e : En) : Sized 5 [PV.agg [.int .i64 e.at'.sc, .str e.at'.gr, .str e.at'.nm, .int .i64 e.n, .sl .no (e.l.map .str)]] := sized_ent [e]
theorem atoms_ent1 (e : En) : Atoms [PV.agg [.int .i64 e.at'.sc, .str e.at'.gr, .str e.at'.nm, .int .i64 e.n, .sl .no (e.l.map .str)]] := atoms_ent [e]
theorem map_ent (l : List En) (e : En) : l.map ent ++ [PV.agg [.int .i64 e.at'.sc, .str e.at'.gr, .str e.at'.nm, .int .i64 e.n, .sl .no (e.l.map .str)]] = (l ++ [e]).map ent := by simp [ent]
theorem take_snoc {α : Type} {l : List α} {k : Nat} (h : k < l.length) {d : α} : l.take (k + 1) = l.take k ++ [l.getD k d] := by
  rw [List.take_succ_eq_append_getElem h, List.getD_eq_getElem?_getD, List.getElem?_eq_getElem h]; rfl
theorem blanks_len (l : List Fd) (sc : Int) : (blanksM l sc).length ≤ l.length := by
  simp only [blanksM, List.length_map]; exact List.length_filter_le _ _
theorem didsL_ent (l : List En) : PV.didsL (l.map ent) = [] := by
  induction l with
  | nil => rfl
  | cons e l ih => rw [List.map_cons, PV.didsL, ih, ent_dids]; rfl
theorem ents_dids (l : List En) : (ents l).dids = [] := by simp only [ents, PV.dids, didsL_ent]
set_option maxRecDepth 20000 in
set_option maxHeartbeats 4000000 in
theorem blanks_pure (l : List Fd) (sc : Int) (hl : l.length ≤ 1000000) : PL.Pure Try.prog 69 [flds l, .int .i64 sc] (ents (blanksM l sc)) := by
  have hm : l.length ≤ maxLen := by rw [maxLen_eq]; omega
  refine pov2 Try.func69 rfl Try.ntmps69 Try.results69 (ents_dids _) ?_
  simp only [go_sem, flds]
  refine awp_nilRow 5 23 5 27 rfl rfl ?_
  refine vLoopM (ι := { k : Nat // k ≤ l.length }) 26 (fun x => [(1, .int .i64 sc), (5, .sl (.row 23) ((blanksM (l.take x.1) sc).map ent)), (8, flds l), (9, .int .i64 (l.length : Int)), (10, .int .i64 (x.1 : Int))]) (fun x => []) (fun x => [(23, .live (blanksM (l.take x.1) sc).length 5 27)]) (fun x => l.length - x.1) ⟨0, by omega⟩
    ⟨rfl, (forall_cons rfl (forall_cons rfl (forall_cons rfl (forall_cons rfl (forall_cons rfl (forall_nil)))))), forall_nil, (forall_cons rfl (forall_nil))⟩ (fun x => ⟨forall_cons rfl (forall_cons (by simp [PV.ids, refInM]) (forall_cons rfl (forall_cons rfl (forall_cons rfl (forall_nil))))), forall_nil⟩) (fun x => ?_)
  obtain ⟨k, hk⟩ := x
  simp only
  by_cases h : (k : Int) < (l.length : Int)
  · have hka : k < l.length := by omega
    have w1 := w64s hka hm
    have i1 : (0 : Int) ≤ (k : Int) := by omega
    have hc := Value_pure (l.getD k default)
    have hlen := blanks_len (l.take k) sc
    have hlen2 : (l.take k).length ≤ k := List.length_take_le _ _
    have hr := room_small (show (blanksM (l.take k) sc).length + 1 ≤ 100000000000 by omega) (show 72 ≤ 1000 by omega)
    cases he : ((l.getD k default).at'.sc == sc)
    · have hs : blanksM (l.take (k + 1)) sc = blanksM (l.take k) sc := by
        rw [take_snoc hka (d := default)]
        simp only [blanksM, List.filter_append, List.filter_cons, he, Bool.false_eq_true, if_false, List.filter_nil, List.append_nil]
      simp only [go_sem, flds, h, getD_fld hka, fld, i1, he, w1]
      exact ⟨⟨k + 1, by omega⟩, by show l.length - (k + 1) < l.length - k; omega, ⟨rfl, forall_cons rfl (forall_cons (by show PV.sl _ _ = PV.sl _ _; rw [hs]) (forall_cons rfl (forall_cons rfl (forall_cons rfl (forall_nil))))), forall_nil, forall_cons (by show some _ = some _; rw [hs]) forall_nil⟩⟩
    · have hs : blanksM (l.take (k + 1)) sc = blanksM (l.take k) sc ++ [valueM (l.getD k default)] := by
        rw [take_snoc hka (d := default)]
        simp only [blanksM, List.filter_append, List.filter_cons, he, if_true, List.filter_nil, List.map_append, List.map_cons, List.map_nil]
      generalize hv : valueM (l.getD k default) = v at *
      simp only [go_sem, flds, h, getD_fld hka, fld, i1, he]
      refine vc2 (hc) ?_
      simp only [go_sem, ent, sized_ent, sized_ent1, atoms_ent1, hr, w1]
      exact ⟨⟨k + 1, by omega⟩, by show l.length - (k + 1) < l.length - k; omega, ⟨rfl, forall_cons rfl (forall_cons (by show PV.sl _ _ = PV.sl _ _; rw [hs, ← map_ent]) (forall_cons rfl (forall_cons rfl (forall_cons rfl (forall_nil))))), forall_nil, forall_cons (by show some _ = some _; rw [hs, List.length_append]; rfl) forall_nil⟩⟩
  · obtain rfl : k = l.length := by omega
    simp only [go_sem, h, ents, List.take_length]

theorem blankDoc_dids (l : List En) : (doc ⟨l, []⟩).dids = [] := by simp only [doc, PV.dids, PV.didsL, didsL_ent, List.map_nil, List.append_nil]
set_option maxHeartbeats 1000000 in
theorem Blank_pure (l : List Fd) (hl : l.length ≤ 1000000) : PL.Pure Try.prog 52 [flds l] (doc ⟨blanksM l 0, []⟩) := by
  have hc := blanks_pure l 0 hl
  refine pov2 Try.func52 rfl Try.ntmps52 Try.results52 (blankDoc_dids _) ?_
  simp only [go_sem, flds]
  refine vc2 (hc) ?_
  simp only [go_sem, ents, doc]
def rootL : List Fd := [⟨⟨0, [], [99, 111, 117, 112, 111, 110]⟩, 2, [], [], 0⟩, ⟨⟨1, [], [110, 111, 116, 101]⟩, 2, [], [], 0⟩, ⟨⟨1, [], [113, 116, 121]⟩, 1, [], [], 1⟩,
  ⟨⟨1, [], [115, 105, 122, 101]⟩, 3, [109, 101, 100, 105, 117, 109], [[115, 109, 97, 108, 108], [109, 101, 100, 105, 117, 109], [108, 97, 114, 103, 101]], 0⟩, ⟨⟨1, [], [116, 97, 103, 115]⟩, 4, [], [], 0⟩]
theorem sized_fld (l : List Fd) : Sized 7 (l.map fld) := fun e he => by
  obtain ⟨x, _, rfl⟩ := List.mem_map.1 he; rfl
theorem didsL_fld (l : List Fd) : PV.didsL (l.map fld) = [] := by
  induction l with
  | nil => rfl
  | cons e l ih => rw [List.map_cons, PV.didsL, ih]; simp only [fld, PV.dids, PV.didsL, didsL_str, List.append_nil]
theorem flds_dids (l : List Fd) : (flds l).dids = [] := by simp only [flds, PV.dids, didsL_fld]
set_option maxRecDepth 20000 in
set_option maxHeartbeats 4000000 in
theorem Root_pure : PL.Pure Try.prog 37 [] (flds rootL) := by
  refine pov2 Try.func37 rfl Try.ntmps37 Try.results37 (flds_dids _) ?_
  simp (config := { maxSteps := 2000000 }) only [go_sem, room_small, flds, fld, rootL]
end Go.Proofs.Ytmnibpgmcgdfpaa

set_option linter.unusedSimpArgs false
set_option linter.unusedVariables false
set_option linter.unusedSimpArgs false
set_option linter.unusedVariables false
namespace Go.Proofs.Ytmnibpgmcgdfpaa
open Go.PL
@[go_sem] theorem cast0 : ((0 : Nat) : Int) = 0 := rfl
@[go_sem] theorem cast1 : ((1 : Nat) : Int) = 1 := rfl
attribute [go_sem] Int.cast_ofNat_Int
def nm (s : Str) (i : Nat) : Int := ((s.getD i 0).toNat : Int)
def okAt (s : Str) (i : Nat) : Bool := decide (97 ≤ nm s i ∧ nm s i ≤ 122) || (decide (48 ≤ nm s i ∧ nm s i ≤ 57) && decide (i ≠ 0))
def nameB (s : Str) : Bool := decide (1 ≤ s.length ∧ s.length ≤ 12) && (List.range s.length).all (okAt s)
theorem nm_fold (s : Str) (i : Nat) : ((s.getD i 0).toNat : Int) = nm s i := rfl
set_option maxRecDepth 20000 in
set_option maxHeartbeats 4000000 in
theorem Name_pure (s : Str) : PL.Pure Try.prog 56 [.str s] (.bool (nameB s)) := by
  by_cases h1 : (s.length : Int) < 1
  · have hx : nameB s = false := by simp only [nameB, show ¬ (1 ≤ s.length ∧ s.length ≤ 12) by omega, decide_false, Bool.false_and]
    refine pov1 Try.func56 rfl Try.ntmps56 Try.results56 ?_
    simp only [go_sem, h1, hx]
  · by_cases h2 : (12 : Int) < (s.length : Int)
    · have hx : nameB s = false := by simp only [nameB, show ¬ (1 ≤ s.length ∧ s.length ≤ 12) by omega, decide_false, Bool.false_and]
      refine pov1 Try.func56 rfl Try.ntmps56 Try.results56 ?_
      simp only [go_sem, h1, h2, hx]
    · have hn : nameB s = (List.range s.length).all (okAt s) := by simp only [nameB, show (1 ≤ s.length ∧ s.length ≤ 12) by omega, and_self, decide_true, Bool.true_and]
      refine pov1 Try.func56 rfl Try.ntmps56 Try.results56 ?_
      simp only [go_sem, h1, h2]
      refine vLoopM (ι := { k : Nat // k ≤ s.length ∧ ∀ j, j < k → okAt s j = true }) 50 (fun x => [(0, .str s), (15, .int .i64 (s.length : Int)), (16, .int .i64 (x.1 : Int))]) (fun x => []) (fun x => []) (fun x => s.length - x.1) ⟨0, by omega, fun j hj => by omega⟩
        ⟨rfl, (forall_cons rfl (forall_cons rfl (forall_cons rfl (forall_nil)))), forall_nil, forall_nil⟩ (fun x => ⟨(forall_cons rfl (forall_cons rfl (forall_cons rfl (forall_nil)))), forall_nil⟩) (fun x => ?_)
      obtain ⟨k, hk, hall⟩ := x
      simp only
      by_cases h : (k : Int) < (s.length : Int)
      · have hka : k < s.length := by omega
        have w1 : IntKind.i64.wrap ((k : Int) + 1) = ((k + 1 : Nat) : Int) := by rw [w64 (by omega)]; rfl
        have i1 : (0 : Int) ≤ (k : Int) := by omega
        cases ho : okAt s k
        · have hx : nameB s = false := by
            rw [hn, List.all_eq_false]
            exact ⟨k, by simpa using hka, by simp [ho]⟩
          simp only [okAt, Bool.or_eq_false_iff, decide_eq_false_iff_not, Bool.and_eq_false_iff] at ho
          by_cases g1 : 97 ≤ nm s k
          · have g2 : ¬ nm s k ≤ 122 := by omega
            have g3 : 48 ≤ nm s k := by omega
            have g4 : ¬ nm s k ≤ 57 := by omega
            simp only [go_sem, h, i1, nm_fold, g1, g2, g3, g4, hx]
          · by_cases g3 : 48 ≤ nm s k
            · by_cases g4 : nm s k ≤ 57
              · have hk0 : ((k : Int) == 0) = true := by
                  rw [beq_iff_eq]
                  rcases ho.2 with h' | h' <;> omega
                simp only [go_sem, h, i1, nm_fold, g1, g3, g4, hk0, hx]
              · simp only [go_sem, h, i1, nm_fold, g1, g3, g4, hx]
            · simp only [go_sem, h, i1, nm_fold, g1, g3, hx]
        · have nx : ∀ j, j < k + 1 → okAt s j = true := below_succ hall ho
          simp only [okAt, Bool.or_eq_true, decide_eq_true_eq, Bool.and_eq_true] at ho
          by_cases g1 : 97 ≤ nm s k
          · have g2 : nm s k ≤ 122 := by omega
            have g3 : 48 ≤ nm s k := by omega
            have g4 : ¬ nm s k ≤ 57 := by omega
            simp only [go_sem, h, i1, nm_fold, g1, g2, g3, g4, w1]
            exact ⟨⟨k + 1, by omega, nx⟩, by show s.length - (k + 1) < s.length - k; omega, ⟨rfl, (forall_cons rfl (forall_cons rfl (forall_cons rfl (forall_nil)))), forall_nil, forall_nil⟩⟩
          · have g3 : 48 ≤ nm s k := by omega
            have g4 : nm s k ≤ 57 := by omega
            have hk0 : ((k : Int) == 0) = false := beq_eq_false_iff_ne.2 (by omega)
            simp only [go_sem, h, i1, nm_fold, g1, g3, g4, hk0, w1]
            exact ⟨⟨k + 1, by omega, nx⟩, by show s.length - (k + 1) < s.length - k; omega, ⟨rfl, (forall_cons rfl (forall_cons rfl (forall_cons rfl (forall_nil)))), forall_nil, forall_nil⟩⟩
      · have hx : nameB s = true := by
          rw [hn, List.all_eq_true]
          intro j hj
          exact hall j (by have := List.mem_range.1 hj; omega)
        simp only [go_sem, h, hx]
def placeB (r : Rf) : Bool := (decide (r.sc = 0) || decide (r.sc = 1)) && (nameB r.nm && (decide (r.gr = []) || nameB r.gr))
set_option maxRecDepth 20000 in
set_option maxHeartbeats 4000000 in
theorem Place_pure (r : Rf) : PL.Pure Try.prog 116 [ref r] (.bool (placeB r)) := by
  have hN := Name_pure r.nm
  have hG := Name_pure r.gr
  by_cases hs : r.sc = 0 ∨ r.sc = 1
  · have hs' : (decide (r.sc = 0) || decide (r.sc = 1)) = true := by simpa using hs
    have key : PL.Pure Try.prog 116 [ref r] (.bool (nameB r.nm && (decide (r.gr = []) || nameB r.gr))) := by
      cases hn : nameB r.nm
      · rw [hn] at hN
        rcases hs with h0 | h1
        · have q : (r.sc != 0) = false := by rw [h0]; rfl
          refine pov1 Try.func116 rfl Try.ntmps116 Try.results116 ?_
          simp only [go_sem, ref, q]
          refine vc1 (hN) ?_
          simp only [go_sem, Bool.false_and]
        · have q : (r.sc != 0) = true := by rw [h1]; rfl
          have q1 : (r.sc != 1) = false := by rw [h1]; rfl
          refine pov1 Try.func116 rfl Try.ntmps116 Try.results116 ?_
          simp only [go_sem, ref, q, q1]
          refine vc1 (hN) ?_
          simp only [go_sem, Bool.false_and]
      · rw [hn] at hN
        by_cases hg : r.gr = []
        · have hg' := beq_nil hg
          rcases hs with h0 | h1
          · have q : (r.sc != 0) = false := by rw [h0]; rfl
            refine pov1 Try.func116 rfl Try.ntmps116 Try.results116 ?_
            simp only [go_sem, ref, q]
            refine vc1 (hN) ?_
            simp only [go_sem, Bool.true_and, hg', decide_eq_true hg]
          · have q : (r.sc != 0) = true := by rw [h1]; rfl
            have q1 : (r.sc != 1) = false := by rw [h1]; rfl
            refine pov1 Try.func116 rfl Try.ntmps116 Try.results116 ?_
            simp only [go_sem, ref, q, q1]
            refine vc1 (hN) ?_
            simp only [go_sem, Bool.true_and, hg', decide_eq_true hg]
        · have hg' := beq_nil' hg
          rcases hs with h0 | h1
          · have q : (r.sc != 0) = false := by rw [h0]; rfl
            refine pov1 Try.func116 rfl Try.ntmps116 Try.results116 ?_
            simp only [go_sem, ref, q]
            refine vc1 (hN) ?_
            simp only [go_sem, hg']
            refine vc1 (hG) ?_
            simp only [go_sem, Bool.true_and, decide_eq_false hg]
          · have q : (r.sc != 0) = true := by rw [h1]; rfl
            have q1 : (r.sc != 1) = false := by rw [h1]; rfl
            refine pov1 Try.func116 rfl Try.ntmps116 Try.results116 ?_
            simp only [go_sem, ref, q, q1]
            refine vc1 (hN) ?_
            simp only [go_sem, hg']
            refine vc1 (hG) ?_
            simp only [go_sem, Bool.true_and, decide_eq_false hg]
    simp only [placeB, hs', Bool.true_and]
    exact key
  · have q : (r.sc != 0) = true := bne_iff_ne.2 (by omega)
    have q1 : (r.sc != 1) = true := bne_iff_ne.2 (by omega)
    have hx : placeB r = false := by
      have : (decide (r.sc = 0) || decide (r.sc = 1)) = false := by simp; omega
      simp only [placeB, this, Bool.false_and]
    refine pov1 Try.func116 rfl Try.ntmps116 Try.results116 ?_
    simp only [go_sem, ref, q, q1, hx]
def prefixM (r : Rf) : Str := (if r.sc = 1 then [108, 105, 110, 101] else [104, 101, 97, 100]) ++ (if r.gr = [] then [] else [46] ++ r.gr)
def printM (r : Rf) : Str := if placeB r = true then prefixM r ++ [46] ++ r.nm else [63]
theorem name_len {s : Str} (h : nameB s = true) : 1 ≤ s.length ∧ s.length ≤ 12 := by
  simp only [nameB, Bool.and_eq_true, decide_eq_true_eq] at h
  exact h.1
set_option maxRecDepth 20000 in
set_option maxHeartbeats 4000000 in
theorem Print_pure (r : Rf) : PL.Pure Try.prog 93 [ref r] (.str (printM r)) := by
  have hP := Place_pure r
  cases hp : placeB r
  · rw [hp] at hP
    refine pov1 Try.func93 rfl Try.ntmps93 Try.results93 ?_
    simp only [go_sem, ref]
    refine vc1 (hP) ?_
    simp only [go_sem, printM, hp]
  · rw [hp] at hP
    have hl : r.nm.length ≤ 12 ∧ r.gr.length ≤ 12 := by
      simp only [placeB, Bool.and_eq_true, Bool.or_eq_true, decide_eq_true_eq] at hp
      refine ⟨(name_len hp.2.1).2, ?_⟩
      rcases hp.2.2 with h | h
      · rw [h]; decide
      · exact (name_len h).2
    by_cases h1 : r.sc = 1
    · have h1' : (r.sc == 1) = true := by rw [h1]; rfl
      by_cases hg : r.gr = []
      · have hg' := beq_nil hg
        refine pov1 Try.func93 rfl Try.ntmps93 Try.results93 ?_
        simp only [go_sem, ref]
        refine vc1 (hP) ?_
        simp only [go_sem, h1', hg', printM, hp, prefixM, h1, hg, List.append_assoc]
        omega
      · have hg' := beq_nil' hg
        refine pov1 Try.func93 rfl Try.ntmps93 Try.results93 ?_
        simp only [go_sem, ref]
        refine vc1 (hP) ?_
        simp only [go_sem, h1', hg', printM, hp, prefixM, h1, hg, List.append_assoc]
        simp only [List.length_append, List.length_cons, List.length_nil]
        refine ⟨?_, ?_, ?_, ?_⟩ <;> omega
    · have h1' : (r.sc == 1) = false := beq_eq_false_iff_ne.2 h1
      by_cases hg : r.gr = []
      · have hg' := beq_nil hg
        refine pov1 Try.func93 rfl Try.ntmps93 Try.results93 ?_
        simp only [go_sem, ref]
        refine vc1 (hP) ?_
        simp only [go_sem, h1', hg', printM, hp, prefixM, h1, hg, List.append_assoc]
        omega
      · have hg' := beq_nil' hg
        refine pov1 Try.func93 rfl Try.ntmps93 Try.results93 ?_
        simp only [go_sem, ref]
        refine vc1 (hP) ?_
        simp only [go_sem, h1', hg', printM, hp, prefixM, h1, hg, List.append_assoc]
        simp only [List.length_append, List.length_cons, List.length_nil]
        refine ⟨?_, ?_, ?_, ?_⟩ <;> omega

set_option maxHeartbeats 1000000 in
theorem Text_pure (s : Str) : PL.Pure Try.prog 117 [.str s] (.bool (decide ((s.length : Int) ≤ 40))) := by
  refine pov1 Try.func117 rfl Try.ntmps117 Try.results117 ?_
  simp only [go_sem]
end Go.Proofs.Ytmnibpgmcgdfpaa

set_option linter.unusedSimpArgs false
set_option linter.unusedVariables false
set_option linter.unusedSimpArgs false
set_option linter.unusedVariables false
namespace Go.Proofs.Ytmnibpgmcgdfpaa
open Go.PL
set_option maxRecDepth 20000 in
set_option maxHeartbeats 4000000 in
theorem RName_pure (s : Str) : PL.Pure Try.prog 60 [.str s] (.bool (nameB s)) := by
  by_cases h1 : (s.length : Int) < 1
  · have hx : nameB s = false := by simp only [nameB, show ¬ (1 ≤ s.length ∧ s.length ≤ 12) by omega, decide_false, Bool.false_and]
    refine pov1 Try.func60 rfl Try.ntmps60 Try.results60 ?_
    simp only [go_sem, h1, hx]
  · by_cases h2 : (12 : Int) < (s.length : Int)
    · have hx : nameB s = false := by simp only [nameB, show ¬ (1 ≤ s.length ∧ s.length ≤ 12) by omega, decide_false, Bool.false_and]
      refine pov1 Try.func60 rfl Try.ntmps60 Try.results60 ?_
      simp only [go_sem, h1, h2, hx]
    · have hn : nameB s = (List.range s.length).all (okAt s) := by simp only [nameB, show (1 ≤ s.length ∧ s.length ≤ 12) by omega, and_self, decide_true, Bool.true_and]
      refine pov1 Try.func60 rfl Try.ntmps60 Try.results60 ?_
      simp only [go_sem, h1, h2]
      refine vLoopM (ι := { k : Nat // k ≤ s.length ∧ ∀ j, j < k → okAt s j = true }) 50 (fun x => [(0, .str s), (3, .int .i64 (x.1 : Int))]) (fun x => []) (fun x => []) (fun x => s.length - x.1) ⟨0, by omega, fun j hj => by omega⟩
        ⟨rfl, (forall_cons rfl (forall_cons rfl (forall_nil))), forall_nil, forall_nil⟩ (fun x => ⟨(forall_cons rfl (forall_cons rfl (forall_nil))), forall_nil⟩) (fun x => ?_)
      obtain ⟨k, hk, hall⟩ := x
      simp only
      by_cases h : (k : Int) < (s.length : Int)
      · have hka : k < s.length := by omega
        have w1 : IntKind.i64.wrap ((k : Int) + 1) = ((k + 1 : Nat) : Int) := by rw [w64 (by omega)]; rfl
        have i1 : (0 : Int) ≤ (k : Int) := by omega
        cases ho : okAt s k
        · have hx : nameB s = false := by
            rw [hn, List.all_eq_false]
            exact ⟨k, by simpa using hka, by simp [ho]⟩
          simp only [okAt, Bool.or_eq_false_iff, decide_eq_false_iff_not, Bool.and_eq_false_iff] at ho
          by_cases g1 : 97 ≤ nm s k
          · have g2 : ¬ nm s k ≤ 122 := by omega
            have g3 : 48 ≤ nm s k := by omega
            have g4 : ¬ nm s k ≤ 57 := by omega
            simp only [go_sem, h, i1, nm_fold, g1, g2, g3, g4, hx]
          · by_cases g3 : 48 ≤ nm s k
            · by_cases g4 : nm s k ≤ 57
              · have hk0 : ((k : Int) == 0) = true := by
                  rw [beq_iff_eq]
                  rcases ho.2 with h' | h' <;> omega
                simp only [go_sem, h, i1, nm_fold, g1, g3, g4, hk0, hx]
              · simp only [go_sem, h, i1, nm_fold, g1, g3, g4, hx]
            · simp only [go_sem, h, i1, nm_fold, g1, g3, hx]
        · have nx : ∀ j, j < k + 1 → okAt s j = true := below_succ hall ho
          simp only [okAt, Bool.or_eq_true, decide_eq_true_eq, Bool.and_eq_true] at ho
          by_cases g1 : 97 ≤ nm s k
          · have g2 : nm s k ≤ 122 := by omega
            have g3 : 48 ≤ nm s k := by omega
            have g4 : ¬ nm s k ≤ 57 := by omega
            simp only [go_sem, h, i1, nm_fold, g1, g2, g3, g4, w1]
            exact ⟨⟨k + 1, by omega, nx⟩, by show s.length - (k + 1) < s.length - k; omega, ⟨rfl, (forall_cons rfl (forall_cons rfl (forall_nil))), forall_nil, forall_nil⟩⟩
          · have g3 : 48 ≤ nm s k := by omega
            have g4 : nm s k ≤ 57 := by omega
            have hk0 : ((k : Int) == 0) = false := beq_eq_false_iff_ne.2 (by omega)
            simp only [go_sem, h, i1, nm_fold, g1, g3, g4, hk0, w1]
            exact ⟨⟨k + 1, by omega, nx⟩, by show s.length - (k + 1) < s.length - k; omega, ⟨rfl, (forall_cons rfl (forall_cons rfl (forall_nil))), forall_nil, forall_nil⟩⟩
      · have hx : nameB s = true := by
          rw [hn, List.all_eq_true]
          intro j hj
          exact hall j (by have := List.mem_range.1 hj; omega)
        simp only [go_sem, h, hx]
theorem place_alt (r : Rf) : placeB r = (decide (0 ≤ r.sc) && (decide (r.sc ≤ 1) && (nameB r.nm && (decide (r.gr = []) || nameB r.gr)))) := by
  have : (decide (r.sc = 0) || decide (r.sc = 1)) = (decide (0 ≤ r.sc) && decide (r.sc ≤ 1)) := by
    rw [Bool.eq_iff_iff]; simp; omega
  rw [placeB, this, Bool.and_assoc]
set_option maxRecDepth 20000 in
set_option maxHeartbeats 4000000 in
theorem RPlace_pure (r : Rf) : PL.Pure Try.prog 120 [ref r] (.bool (placeB r)) := by
  rw [place_alt]
  have hN := RName_pure r.nm
  have hG := RName_pure r.gr
  refine pov1 Try.func120 rfl Try.ntmps120 Try.results120 ?_
  simp only [go_sem, ref]
  repeat' ((first | refine vGuard_t (fun h => ?_) (fun h => ?_) | refine vGuard_f (fun h => ?_) (fun h => ?_) | refine vCond_b (fun h => ?_) (fun h => ?_) | refine vc1 (hN) ?_ | refine vc1 (hG) ?_ | refine vDq ?_) <;> first | simp only [go_sem, h] | simp only [go_sem] | skip)
  all_goals (simp_all)
set_option maxHeartbeats 1000000 in
theorem RHas_pure (l : List Str) (s : Str) (hl : l.length ≤ maxLen) : PL.Pure Try.prog 121 [strs l, .str s] (.bool (l.any (· == s))) := by
  refine pov1 Try.func121 rfl Try.ntmps121 Try.results121 ?_
  simp only [go_sem, strs]
  refine vLoopM (ι := { k : Nat // k ≤ l.length ∧ ∀ j, j < k → (l.getD j [] == s) = false }) 18 (fun x => [(0, strs l), (1, .str s), (5, .int .i64 (x.1 : Int))]) (fun x => []) (fun x => []) (fun x => l.length - x.1) ⟨0, by omega, fun j hj => by omega⟩
    ⟨rfl, (forall_cons rfl (forall_cons rfl (forall_cons rfl (forall_nil)))), forall_nil, forall_nil⟩ (fun x => ⟨(forall_cons rfl (forall_cons rfl (forall_cons rfl (forall_nil)))), forall_nil⟩) (fun x => ?_)
  obtain ⟨k, hk, hall⟩ := x
  simp only
  by_cases h : (k : Int) < (l.length : Int)
  · have hka : k < l.length := by omega
    have w1 := w64s hka hl
    have i1 : (0 : Int) ≤ (k : Int) := by omega
    cases he : (l.getD k [] == s)
    · simp only [go_sem, strs, h, getD_str hka, i1, he, w1]
      exact ⟨⟨k + 1, by omega, below_succ hall he⟩, by show l.length - (k + 1) < l.length - k; omega, ⟨rfl, (forall_cons rfl (forall_cons rfl (forall_cons rfl (forall_nil)))), forall_nil, forall_nil⟩⟩
    · have hx := any_true (p := (· == s)) hka he
      simp only [go_sem, strs, h, getD_str hka, i1, he, hx]
  · have hx := any_false (p := (· == s)) (d := []) (l := l) (fun j hj => hall j (by omega))
    simp only [go_sem, strs, h, hx]
def lessB (a b : Rf) : Bool := if a.sc ≠ b.sc then decide (a.sc < b.sc) else if a.gr ≠ b.gr then bytesLt a.gr b.gr else bytesLt a.nm b.nm
set_option maxHeartbeats 1000000 in
theorem RLess_pure (a b : Rf) : PL.Pure Try.prog 91 [ref a, ref b] (.bool (lessB a b)) := by
  refine pov1 Try.func91 rfl Try.ntmps91 Try.results91 ?_
  simp only [go_sem, ref]
  repeat' ((first | refine vGuard_t (fun h => ?_) (fun h => ?_) | refine vGuard_f (fun h => ?_) (fun h => ?_) | refine vCond_b (fun h => ?_) (fun h => ?_) | refine vDq ?_) <;> first | simp only [go_sem, h] | simp only [go_sem] | skip)
  all_goals (simp_all [lessB])
end Go.Proofs.Ytmnibpgmcgdfpaa

set_option linter.unusedSimpArgs false
set_option linter.unusedVariables false
set_option linter.unusedSimpArgs false
set_option linter.unusedVariables false
namespace Go.Proofs.Ytmnibpgmcgdfpaa
open Go.PL
attribute [go_sem] Option.map_some Option.map_none Option.isNone_none
theorem take_str (l : List Str) (k : Nat) : List.take k (l.map PV.str) = (l.take k).map PV.str := by rw [List.map_take]
def caseOk (l : List Str) (i : Nat) : Bool := nameB (l.getD i []) && !((l.take i).any (· == l.getD i []))
def casesB (l : List Str) : Bool := (List.range l.length).all (caseOk l)
theorem casesB_false {l : List Str} {k : Nat} (hk : k < l.length) (h : caseOk l k = false) : casesB l = false := by
  rw [casesB, List.all_eq_false]; exact ⟨k, by simpa using hk, by simp [h]⟩
theorem casesB_true {l : List Str} (h : ∀ j, j < l.length → caseOk l j = true) : casesB l = true := by
  rw [casesB, List.all_eq_true]; intro j hj; exact h j (List.mem_range.1 hj)
def tail3 (f : Fd) : Bool := casesB f.cases' && (decide ((f.cases'.length : Int) < 7) && f.cases'.any (· == f.df))
def tail2 (f : Fd) : Bool := !decide (0 < (f.cases'.length : Int)) && ((decide (f.kind = 2) && decide ((f.df.length : Int) < 41)) || (decide (f.kind = 4) && decide (f.df = [])))
def rightF (f : Fd) : Bool :=
  placeB f.at' && (if f.kind = 1 then decide (f.df = []) && (decide ((f.cases'.length : Int) = 0) && (decide (0 < f.worth) && decide (f.worth < 1048577)))
    else decide (f.worth = 0) && (if f.kind = 3 then tail3 f else tail2 f))
set_option maxRecDepth 20000 in
set_option maxHeartbeats 8000000 in
theorem RRight_pure (f : Fd) (hl : f.cases'.length ≤ maxLen) : PL.Pure Try.prog 90 [fld f] (.bool (rightF f)) := by
  have hP := RPlace_pure f.at'
  by_cases h3 : f.kind = 3
  · have k1 : (f.kind == 1) = false := by rw [h3]; rfl
    have k3 : (f.kind == 3) = true := by rw [h3]; rfl
    cases hp : placeB f.at'
    · rw [hp] at hP
      refine pov1 Try.func90 rfl Try.ntmps90 Try.results90 ?_
      simp only [go_sem, fld]
      refine vc1 (hP) ?_
      simp only [go_sem, rightF, hp, Bool.false_and]
    · rw [hp] at hP
      by_cases hw : f.worth = 0
      · have hw' : (f.worth != 0) = false := by rw [hw]; rfl
        have hx : rightF f = tail3 f := by
          simp only [rightF, hp, h3, hw, Bool.true_and, decide_true, if_true]
          rfl
        rw [hx]
        refine pov1 Try.func90 rfl Try.ntmps90 Try.results90 ?_
        simp only [go_sem, fld]
        refine vc1 (hP) ?_
        simp only [go_sem, k1, k3, hw']
        refine vLoopM (ι := { k : Nat // k ≤ f.cases'.length ∧ ∀ j, j < k → caseOk f.cases' j = true }) 96 (fun x => [(1, .ptr 1 0), (3, .int .i64 (x.1 : Int))]) (fun x => [(1, [.int .i64 f.at'.sc, .str f.at'.gr, .str f.at'.nm, .int .i64 f.kind, .str f.df, .sl .no (f.cases'.map .str), .int .i64 f.worth], false)]) (fun x => []) (fun x => f.cases'.length - x.1) ⟨0, by omega, fun j hj => by omega⟩
          ⟨rfl, (forall_cons rfl (forall_cons rfl (forall_nil))), forall_cons ⟨rfl, rfl⟩ forall_nil, forall_nil⟩ (fun x => ⟨(forall_cons rfl (forall_cons rfl (forall_nil))), (forall_cons rfl (forall_nil))⟩) (fun x => ?_)
        obtain ⟨k, hk, hall⟩ := x
        simp only
        by_cases h : (k : Int) < (f.cases'.length : Int)
        · have hka : k < f.cases'.length := by omega
          have w1 := w64s hka hl
          have i1 : (0 : Int) ≤ (k : Int) := by omega
          have i2 : (k : Int) ≤ (f.cases'.length : Int) := by omega
          have hN := RName_pure (f.cases'.getD k [])
          have hT : (f.cases'.take k).length ≤ maxLen := by rw [List.length_take]; omega
          have hH := RHas_pure (f.cases'.take k) (f.cases'.getD k []) hT
          cases hn : nameB (f.cases'.getD k [])
          · rw [hn] at hN
            have hz : tail3 f = false := by simp only [tail3, casesB_false hka (by simp only [caseOk, hn, Bool.false_and]), Bool.false_and]
            simp only [go_sem, h, i1]
            refine vDq ?_
            simp only [go_sem, getD_str hka, h, i1]
            refine vc1 (hN) ?_
            simp only [go_sem, hz]
          · rw [hn] at hN
            cases hh : (f.cases'.take k).any (· == f.cases'.getD k [])
            · rw [hh] at hH
              have ok : caseOk f.cases' k = true := by simp only [caseOk, hn, hh, Bool.not_false, Bool.and_self]
              simp only [go_sem, h, i1]
              refine vDq ?_
              simp only [go_sem, getD_str hka, h, i1]
              refine vc1 (hN) ?_
              simp only [go_sem, getD_str hka, h, i1, i2, cut, Nat.sub_zero, take_str, sized_str]
              refine vc1 (hH) ?_
              simp only [go_sem, w1]
              exact ⟨⟨k + 1, by omega, below_succ hall ok⟩, by show f.cases'.length - (k + 1) < f.cases'.length - k; omega, ⟨rfl, (forall_cons rfl (forall_cons rfl (forall_nil))), forall_cons ⟨rfl, rfl⟩ forall_nil, forall_nil⟩⟩
            · rw [hh] at hH
              have hz : tail3 f = false := by simp only [tail3, casesB_false hka (by simp only [caseOk, hn, hh, Bool.not_true, Bool.and_false]), Bool.false_and]
              simp only [go_sem, h, i1]
              refine vDq ?_
              simp only [go_sem, getD_str hka, h, i1]
              refine vc1 (hN) ?_
              simp only [go_sem, getD_str hka, h, i1, i2, cut, Nat.sub_zero, take_str, sized_str]
              refine vc1 (hH) ?_
              simp only [go_sem, hz]
        · have hc := casesB_true (l := f.cases') (fun j hj => hall j (by omega))
          have hH := RHas_pure f.cases' f.df hl
          by_cases h7 : (f.cases'.length : Int) < 7
          · simp only [go_sem, h, h7]
            refine vc1 (hH) ?_
            simp only [go_sem, tail3, hc, h7, Bool.true_and]
          · simp only [go_sem, h, h7, tail3, hc, Bool.true_and, Bool.false_and]
      · have hw' : (f.worth != 0) = true := bne_iff_ne.2 hw
        have hx : rightF f = false := by
          simp only [rightF, hp, h3, hw, Bool.true_and, decide_false, Bool.false_and]
          rfl
        refine pov1 Try.func90 rfl Try.ntmps90 Try.results90 ?_
        simp only [go_sem, fld]
        refine vc1 (hP) ?_
        simp only [go_sem, k1, k3, hw', hx]
  · have k3 : (f.kind == 3) = false := beq_eq_false_iff_ne.2 h3
    have hx : rightF f = (placeB f.at' && (if f.kind = 1 then decide (f.df = []) && (decide ((f.cases'.length : Int) = 0) && (decide (0 < f.worth) && decide (f.worth < 1048577))) else decide (f.worth = 0) && tail2 f)) := by
      simp only [rightF, h3, if_false]
    rw [hx]
    refine pov1 Try.func90 rfl Try.ntmps90 Try.results90 ?_
    simp only [go_sem, fld]
    refine vc1 (hP) ?_
    simp only [go_sem]
    repeat' ((first | refine vGuard_t (fun h => ?_) (fun h => ?_) | refine vGuard_f (fun h => ?_) (fun h => ?_) | refine vCond_b (fun h => ?_) (fun h => ?_) | refine vDq ?_) <;> first | simp only [go_sem, h, k3] | simp only [go_sem, k3] | skip)
    all_goals (simp_all [tail2])
    all_goals (cases f.df <;> simp)

def fitsF (f : Fd) (s : Str) : Bool := (rightF f && !decide (f.kind = 1)) && (if f.kind = 3 then f.cases'.any (· == s) else decide ((s.length : Int) < 41))
set_option maxRecDepth 20000 in
set_option maxHeartbeats 8000000 in
theorem RFits_pure (f : Fd) (s : Str) (hl : f.cases'.length ≤ maxLen) : PL.Pure Try.prog 110 [fld f, .str s] (.bool (fitsF f s)) := by
  have hR := RRight_pure f hl
  have hH := RHas_pure f.cases' s hl
  refine pov1 Try.func110 rfl Try.ntmps110 Try.results110 ?_
  simp only [go_sem, fld]
  repeat' ((first | refine vGuard_t (fun h => ?_) (fun h => ?_) | refine vGuard_f (fun h => ?_) (fun h => ?_) | refine vCond_b (fun h => ?_) (fun h => ?_) | refine vc2 (hR) ?_ | refine vc2 (hH) ?_ | refine vDq ?_) <;> first | simp only [go_sem, h] | simp only [go_sem] | skip)
  all_goals (simp_all [fitsF])
end Go.Proofs.Ytmnibpgmcgdfpaa

set_option linter.unusedSimpArgs false
set_option linter.unusedVariables false
set_option linter.unusedSimpArgs false
set_option linter.unusedVariables false
namespace Go.Proofs.Ytmnibpgmcgdfpaa
open Go.PL
structure Pr where
  fr' : Str
  to' : Str
  deriving DecidableEq, Inhabited
structure Ln where
  kind : Int
  at' : Rf
  nm : Str
  ot : Str
  fac : Int
  fd : Fd
  fo : List Pr
  ba : List Pr
  deriving DecidableEq, Inhabited
structure Tg where
  r : Int
  n : Int
  deriving DecidableEq, Inhabited
structure Eg where
  id : Tg
  par : Tg
  ln : Ln
  deriving DecidableEq, Inhabited
structure Lg where
  id : Tg
  down : Bool
  deriving DecidableEq, Inhabited
def pr (p : Pr) : PV := .agg [.str p.fr', .str p.to']
def refs (l : List Rf) : PV := .sl .no (l.map ref)
def tg (t : Tg) : PV := .agg [.int .i64 t.r, .int .i64 t.n]
def eg (e : Eg) : PV := .agg [.int .i64 e.id.r, .int .i64 e.id.n, .int .i64 e.par.r, .int .i64 e.par.n, .int .i64 e.ln.kind, .int .i64 e.ln.at'.sc, .str e.ln.at'.gr, .str e.ln.at'.nm, .str e.ln.nm, .str e.ln.ot, .int .i64 e.ln.fac, .int .i64 e.ln.fd.at'.sc, .str e.ln.fd.at'.gr, .str e.ln.fd.at'.nm, .int .i64 e.ln.fd.kind, .str e.ln.fd.df, .sl .no (e.ln.fd.cases'.map .str), .int .i64 e.ln.fd.worth, .sl .no (e.ln.fo.map pr), .sl .no (e.ln.ba.map pr)]
theorem getD_map {α : Type} {enc : α → PV} {l : List α} {i : Nat} {d : α} (h : i < l.length) : (l.map enc).getD i .any = enc (l.getD i d) := by
  simp [List.getD_eq_getElem?_getD, h]
set_option maxHeartbeats 1000000 in
theorem IdxStr_pure (l : List Str) (s : Str) (hl : l.length ≤ maxLen) : PL.Pure Try.prog 129 [strs l, .str s] (.int .i64 (idx (fun x => s == x) l)) := by
  refine pov1 Try.func129 rfl Try.ntmps129 Try.results129 ?_
  simp only [go_sem, strs]
  refine vLoopM (ι := { x : Nat // x ≤ (l).length ∧ (∀ j, j < x → (fun x => s == x) (l.getD j []) = false) }) 19 (fun x => [(0, strs l), (1, .str s), (7, .int .i64 (l.length : Int)), (8, .int .i64 (x.1 : Int))]) (fun x => []) (fun x => []) (fun x => (l).length - x.1) ⟨0, Nat.zero_le _, fun j hj => absurd hj (Nat.not_lt_zero j)⟩ ⟨rfl, (forall_cons rfl (forall_cons rfl (forall_cons rfl (forall_cons rfl forall_nil)))), forall_nil, forall_nil⟩ (fun x => ⟨(forall_cons rfl (forall_cons rfl (forall_cons rfl (forall_cons rfl forall_nil)))), forall_nil⟩) (fun x => ?_); obtain ⟨k, hk, hI⟩ := x; simp only at hk hI ⊢
  by_cases h : (k : Int) < (l.length : Int)
  · (have hka : k < (l).length := by omega); (have w1 := w64s hka (hl)); (have i1 : (0 : Int) ≤ (k : Int) := by omega)
    cases he : (fun x => s == x) (l.getD k [])
    · have he0 := he
      simp only at he
      simp only [go_sem, strs, h]
      simp only [go_sem, getD_str hka, h, i1, he, w1]
      exact ⟨⟨k + 1, by (try simp only); omega, below_succ hI he0⟩, by show (l).length - (k + 1) < (l).length - k; omega, ⟨rfl, (forall_cons rfl (forall_cons rfl (forall_cons rfl (forall_cons rfl forall_nil)))), forall_nil, forall_nil⟩⟩
    · have hx := idx_found (p := fun x => s == x) hka hI he
      simp only at he
      simp only [go_sem, strs, h]
      simp only [go_sem, getD_str hka, h, i1, he, hx]
  · have hx := idx_none (p := fun x => s == x) (d := []) (l := l) (fun j hj => hI j (by omega))
    simp only [go_sem, strs, h, hx]
set_option maxHeartbeats 1000000 in
theorem Index_pure (l : List Fd) (r : Rf) (hl : l.length ≤ maxLen) : PL.Pure Try.prog 107 [flds l, ref r] (.int .i64 (idx (fun x => decide (x.at' = r)) l)) := by
  refine pov1 Try.func107 rfl Try.ntmps107 Try.results107 ?_
  simp only [go_sem, flds, ref]
  refine vLoopM (ι := { x : Nat // x ≤ (l).length ∧ (∀ j, j < x → (fun x => decide (x.at' = r)) (l.getD j default) = false) }) 20 (fun x => [(3, .ptr 3 0), (7, flds l), (8, .int .i64 (l.length : Int)), (9, .int .i64 (x.1 : Int))]) (fun x => [(3, [.int .i64 r.sc, .str r.gr, .str r.nm], false)]) (fun x => []) (fun x => (l).length - x.1) ⟨0, Nat.zero_le _, fun j hj => absurd hj (Nat.not_lt_zero j)⟩ ⟨rfl, (forall_cons rfl (forall_cons rfl (forall_cons rfl (forall_cons rfl forall_nil)))), (forall_cons ⟨rfl, rfl⟩ forall_nil), forall_nil⟩ (fun x => ⟨(forall_cons rfl (forall_cons rfl (forall_cons rfl (forall_cons rfl forall_nil)))), (forall_cons rfl forall_nil)⟩) (fun x => ?_); obtain ⟨k, hk, hI⟩ := x; simp only at hk hI ⊢
  by_cases h : (k : Int) < (l.length : Int)
  · (have hka : k < (l).length := by omega); (have w1 := w64s hka (hl)); (have i1 : (0 : Int) ≤ (k : Int) := by omega)
    cases he : (fun x => decide (x.at' = r)) (l.getD k default)
    · have he0 := he
      simp only at he
      simp only [go_sem, flds, h]
      simp only [go_sem, getD_fld hka, h, i1, fld, ref_fold, he, w1]
      exact ⟨⟨k + 1, by (try simp only); omega, below_succ hI he0⟩, by show (l).length - (k + 1) < (l).length - k; omega, ⟨rfl, (forall_cons rfl (forall_cons rfl (forall_cons rfl (forall_cons rfl forall_nil)))), (forall_cons ⟨rfl, rfl⟩ forall_nil), forall_nil⟩⟩
    · have hx := idx_found (p := fun x => decide (x.at' = r)) hka hI he
      simp only at he
      simp only [go_sem, flds, h]
      simp only [go_sem, getD_fld hka, h, i1, fld, ref_fold, he, hx]
  · have hx := idx_none (p := fun x => decide (x.at' = r)) (d := default) (l := l) (fun j hj => hI j (by omega))
    simp only [go_sem, flds, h, hx]
set_option maxHeartbeats 1000000 in
theorem RAt_pure (l : List Fd) (r : Rf) (hl : l.length ≤ maxLen) : PL.Pure Try.prog 77 [flds l, ref r] (.int .i64 (idx (fun x => decide (x.at' = r)) l)) := by
  refine pov1 Try.func77 rfl Try.ntmps77 Try.results77 ?_
  simp only [go_sem, flds, ref]
  refine vLoopM (ι := { x : Nat // x ≤ (l).length ∧ (∀ j, j < x → (fun x => decide (x.at' = r)) (l.getD j default) = false) }) 20 (fun x => [(0, flds l), (3, .ptr 3 0), (5, .int .i64 (x.1 : Int))]) (fun x => [(3, [.int .i64 r.sc, .str r.gr, .str r.nm], false)]) (fun x => []) (fun x => (l).length - x.1) ⟨0, Nat.zero_le _, fun j hj => absurd hj (Nat.not_lt_zero j)⟩ ⟨rfl, (forall_cons rfl (forall_cons rfl (forall_cons rfl forall_nil))), (forall_cons ⟨rfl, rfl⟩ forall_nil), forall_nil⟩ (fun x => ⟨(forall_cons rfl (forall_cons rfl (forall_cons rfl forall_nil))), (forall_cons rfl forall_nil)⟩) (fun x => ?_); obtain ⟨k, hk, hI⟩ := x; simp only at hk hI ⊢
  by_cases h : (k : Int) < (l.length : Int)
  · (have hka : k < (l).length := by omega); (have w1 := w64s hka (hl)); (have i1 : (0 : Int) ≤ (k : Int) := by omega)
    cases he : (fun x => decide (x.at' = r)) (l.getD k default)
    · have he0 := he
      simp only at he
      simp only [go_sem, flds, h]
      refine vDq ?_
      simp only [go_sem, getD_fld hka, h, i1, fld, ref_fold, he, w1]
      exact ⟨⟨k + 1, by (try simp only); omega, below_succ hI he0⟩, by show (l).length - (k + 1) < (l).length - k; omega, ⟨rfl, (forall_cons rfl (forall_cons rfl (forall_cons rfl forall_nil))), (forall_cons ⟨rfl, rfl⟩ forall_nil), forall_nil⟩⟩
    · have hx := idx_found (p := fun x => decide (x.at' = r)) hka hI he
      simp only at he
      simp only [go_sem, flds, h]
      refine vDq ?_
      simp only [go_sem, getD_fld hka, h, i1, fld, ref_fold, he, hx]
  · have hx := idx_none (p := fun x => decide (x.at' = r)) (d := default) (l := l) (fun j hj => hI j (by omega))
    simp only [go_sem, flds, h, hx]
end Go.Proofs.Ytmnibpgmcgdfpaa
