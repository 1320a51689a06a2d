/- Facts on the table of types of this seat, printed by program: one rule a fact. -/
import Derived.Test.YtmnibpgmcgdfpaaProg
import Derived.Test.YtmnibpgmcgdfpaaPlH
import Derived.KernelRfl
import Derived.Shelf.Strings.OnBuilder
set_option linter.unusedSimpArgs false
set_option linter.unusedVariables false
namespace Go.Proofs.Ytmnibpgmcgdfpaa
open Go.PL
@[go_sem] theorem tkn_2 : tkn Try.prog 2 = true := by kernel_rfl
@[go_sem] theorem tsz_2 : tsz Try.prog 2 = 1 := by kernel_rfl
@[go_sem] theorem tagg_2 : tagg Try.prog 2 = false := by kernel_rfl
@[go_sem] theorem tkn_3 : tkn Try.prog 3 = true := by kernel_rfl
@[go_sem] theorem tsz_3 : tsz Try.prog 3 = 1 := by kernel_rfl
@[go_sem] theorem tagg_3 : tagg Try.prog 3 = false := by kernel_rfl
@[go_sem] theorem teqk_4 : teqk Try.prog 4 = .bool := by kernel_rfl
@[go_sem] theorem tkn_5 : tkn Try.prog 5 = true := by kernel_rfl
@[go_sem] theorem tsz_5 : tsz Try.prog 5 = 1 := by kernel_rfl
@[go_sem] theorem tkn_9 : tkn Try.prog 9 = true := by kernel_rfl
@[go_sem] theorem tsz_9 : tsz Try.prog 9 = 1 := by kernel_rfl
@[go_sem] theorem tagg_9 : tagg Try.prog 9 = false := by kernel_rfl
@[go_sem] theorem tix_9 : tix Try.prog 9 = .str := by kernel_rfl
@[go_sem] theorem tlen_9 : tlen Try.prog 9 = .str := by kernel_rfl
@[go_sem] theorem tkn_24 : tkn Try.prog 24 = true := by kernel_rfl
@[go_sem] theorem tsz_24 : tsz Try.prog 24 = 3 := by kernel_rfl
@[go_sem] theorem tagg_24 : tagg Try.prog 24 = true := by kernel_rfl
@[go_sem] theorem tfld_24_0 : tfld Try.prog 24 0 = some (0, 1, false) := by kernel_rfl
@[go_sem] theorem tfld_24_1 : tfld Try.prog 24 1 = some (1, 1, false) := by kernel_rfl
@[go_sem] theorem tfld_24_2 : tfld Try.prog 24 2 = some (2, 1, false) := by kernel_rfl
@[go_sem] theorem tbd_24 : tbd Try.prog 24 = .str [(0, 1), (1, 1), (2, 1)] [.int .i64 0, .str [], .str []] := by kernel_rfl
@[go_sem] theorem tleaves_24 : tleaves Try.prog 24 = some [.int, .str, .str] := by kernel_rfl
@[go_sem] theorem tkn_25 : tkn Try.prog 25 = true := by kernel_rfl
@[go_sem] theorem tsz_25 : tsz Try.prog 25 = 1 := by kernel_rfl
@[go_sem] theorem tagg_25 : tagg Try.prog 25 = false := by kernel_rfl
@[go_sem] theorem tix_25 : tix Try.prog 25 = .slc 1 false := by kernel_rfl
@[go_sem] theorem tlen_25 : tlen Try.prog 25 = .slc := by kernel_rfl
@[go_sem] theorem telem_25 : telem Try.prog 25 = some ⟨9, 1, 16⟩ := by kernel_rfl
@[go_sem] theorem tkn_27 : tkn Try.prog 27 = true := by kernel_rfl
@[go_sem] theorem tsz_27 : tsz Try.prog 27 = 5 := by kernel_rfl
@[go_sem] theorem tagg_27 : tagg Try.prog 27 = true := by kernel_rfl
@[go_sem] theorem tzero_27 : tzero Try.prog 27 = some [.int .i64 0, .str [], .str [], .int .i64 0, .sl .nil []] := by kernel_rfl
@[go_sem] theorem tfld_27_0 : tfld Try.prog 27 0 = some (0, 3, true) := by kernel_rfl
@[go_sem] theorem tfld_27_1 : tfld Try.prog 27 1 = some (3, 1, false) := by kernel_rfl
@[go_sem] theorem tfld_27_2 : tfld Try.prog 27 2 = some (4, 1, false) := by kernel_rfl
@[go_sem] theorem tbd_27 : tbd Try.prog 27 = .str [(0, 3), (3, 1), (4, 1)] [.int .i64 0, .str [], .str [], .int .i64 0, .sl .nil []] := by kernel_rfl
@[go_sem] theorem tkn_28 : tkn Try.prog 28 = true := by kernel_rfl
@[go_sem] theorem tsz_28 : tsz Try.prog 28 = 1 := by kernel_rfl
@[go_sem] theorem tagg_28 : tagg Try.prog 28 = false := by kernel_rfl
@[go_sem] theorem tix_28 : tix Try.prog 28 = .slc 5 true := by kernel_rfl
@[go_sem] theorem tlen_28 : tlen Try.prog 28 = .slc := by kernel_rfl
@[go_sem] theorem telem_28 : telem Try.prog 28 = some ⟨27, 5, 72⟩ := by kernel_rfl
@[go_sem] theorem tix_37 : tix Try.prog 37 = .slc 7 true := by kernel_rfl
@[go_sem] theorem tlen_37 : tlen Try.prog 37 = .slc := by kernel_rfl
@[go_sem] theorem telem_37 : telem Try.prog 37 = some ⟨76, 7, 96⟩ := by kernel_rfl
@[go_sem] theorem tkn_38 : tkn Try.prog 38 = true := by kernel_rfl
@[go_sem] theorem tsz_38 : tsz Try.prog 38 = 1 := by kernel_rfl
@[go_sem] theorem tagg_38 : tagg Try.prog 38 = false := by kernel_rfl
@[go_sem] theorem tix_38 : tix Try.prog 38 = .slc 2 true := by kernel_rfl
@[go_sem] theorem tlen_38 : tlen Try.prog 38 = .slc := by kernel_rfl
@[go_sem] theorem telem_38 : telem Try.prog 38 = some ⟨53, 2, 40⟩ := by kernel_rfl
@[go_sem] theorem tkn_40 : tkn Try.prog 40 = true := by kernel_rfl
@[go_sem] theorem tsz_40 : tsz Try.prog 40 = 2 := by kernel_rfl
@[go_sem] theorem tagg_40 : tagg Try.prog 40 = true := by kernel_rfl
@[go_sem] theorem tzero_40 : tzero Try.prog 40 = some [.sl .nil [], .sl .nil []] := by kernel_rfl
@[go_sem] theorem tfld_40_0 : tfld Try.prog 40 0 = some (0, 1, false) := by kernel_rfl
@[go_sem] theorem tfld_40_1 : tfld Try.prog 40 1 = some (1, 1, false) := by kernel_rfl
@[go_sem] theorem tbd_40 : tbd Try.prog 40 = .str [(0, 1), (1, 1)] [.sl .nil [], .sl .nil []] := by kernel_rfl
@[go_sem] theorem tkn_53 : tkn Try.prog 53 = true := by kernel_rfl
@[go_sem] theorem tsz_53 : tsz Try.prog 53 = 2 := by kernel_rfl
@[go_sem] theorem tagg_53 : tagg Try.prog 53 = true := by kernel_rfl
@[go_sem] theorem tzero_53 : tzero Try.prog 53 = some [.str [], .sl .nil []] := by kernel_rfl
@[go_sem] theorem tfld_53_0 : tfld Try.prog 53 0 = some (0, 1, false) := by kernel_rfl
@[go_sem] theorem tfld_53_1 : tfld Try.prog 53 1 = some (1, 1, false) := by kernel_rfl
@[go_sem] theorem tbd_53 : tbd Try.prog 53 = .str [(0, 1), (1, 1)] [.str [], .sl .nil []] := by kernel_rfl
@[go_sem] theorem tkn_76 : tkn Try.prog 76 = true := by kernel_rfl
@[go_sem] theorem tsz_76 : tsz Try.prog 76 = 7 := by kernel_rfl
@[go_sem] theorem tagg_76 : tagg Try.prog 76 = true := by kernel_rfl
@[go_sem] theorem tzero_76 : tzero Try.prog 76 = some [.int .i64 0, .str [], .str [], .int .i64 0, .str [], .sl .nil [], .int .i64 0] := by kernel_rfl
@[go_sem] theorem tfld_76_0 : tfld Try.prog 76 0 = some (0, 3, true) := by kernel_rfl
@[go_sem] theorem tfld_76_1 : tfld Try.prog 76 1 = some (3, 1, false) := by kernel_rfl
@[go_sem] theorem tfld_76_2 : tfld Try.prog 76 2 = some (4, 1, false) := by kernel_rfl
@[go_sem] theorem tfld_76_3 : tfld Try.prog 76 3 = some (5, 1, false) := by kernel_rfl
@[go_sem] theorem tfld_76_4 : tfld Try.prog 76 4 = some (6, 1, false) := by kernel_rfl
@[go_sem] theorem tbd_76 : tbd Try.prog 76 = .str [(0, 3), (3, 1), (4, 1), (5, 1), (6, 1)] [.int .i64 0, .str [], .str [], .int .i64 0, .str [], .sl .nil [], .int .i64 0] := by kernel_rfl
@[go_sem] theorem tzero_128 : tzero Try.prog 128 = some [.int .u8 0, .int .u8 0, .int .u8 0, .int .u8 0, .int .u8 0, .int .u8 0, .int .u8 0, .int .u8 0, .int .u8 0, .int .u8 0, .int .u8 0, .int .u8 0, .int .u8 0, .int .u8 0, .int .u8 0, .int .u8 0, .int .u8 0, .int .u8 0, .int .u8 0, .int .u8 0] := by kernel_rfl
@[go_sem] theorem tix_128 : tix Try.prog 128 = .arr 20 1 false := by kernel_rfl
@[go_sem] theorem tix_130 : tix Try.prog 130 = .slc 1 false := by kernel_rfl
@[go_sem] theorem telem_130 : telem Try.prog 130 = some ⟨5, 1, 1⟩ := by kernel_rfl
@[go_sem] theorem tcv_2_5 : tcv Try.prog 2 5 = .int .u8 := by kernel_rfl
@[go_sem] theorem tcv_2_129 : tcv Try.prog 2 129 = .int .u64 := by kernel_rfl
@[go_sem] theorem tcv_129_5 : tcv Try.prog 129 5 = .int .u8 := by kernel_rfl
@[go_sem] theorem tcv_130_9 : tcv Try.prog 130 9 = .bytes := by kernel_rfl
end Go.Proofs.Ytmnibpgmcgdfpaa

set_option linter.unusedSimpArgs false
set_option linter.unusedVariables false
set_option linter.unusedSimpArgs false
set_option linter.unusedVariables false
namespace Go.Proofs.Ytmnibpgmcgdfpaa
open Go.Shelf
def lays156_ren : Go.Shelf.Ren := ⟨fun | 156 => 96 | 165 => 123 | 166 => 124 | 169 => 125 | 240 => 130 | 241 => 131 | 276 => 134 | 277 => 135 | n => n, fun | 31 => 25 | 9 => 9 | 3 => 3 | 4 => 4 | 0 => 0 | 20 => 20 | 72 => 135 | 76 => 139 | 70 => 133 | 37 => 130 | 75 => 138 | 127 => 144 | 164 => 146 | 5 => 5 | 80 => 141 | n => n, fun | n => n⟩
theorem lays156 : Go.Proofs.Lays.n156 Try.prog lays156_ren where
  mixed := by kernel_rfl
  f156 := Try.func96.trans (congrArg some (by kernel_rfl))
  f165 := Try.func123.trans (congrArg some (by kernel_rfl))
  f166 := Try.func124.trans (congrArg some (by kernel_rfl))
  f169 := Try.func125.trans (congrArg some (by kernel_rfl))
  f240 := Try.func130.trans (congrArg some (by kernel_rfl))
  f241 := Try.func131.trans (congrArg some (by kernel_rfl))
  f276 := Try.func134.trans (congrArg some (by kernel_rfl))
  f277 := Try.func135.trans (congrArg some (by kernel_rfl))
  t0 := Try.underlying0
  a0 := Try.isAgg0
  z0 := Try.sizeOf0
  v0 := Try.zeroValue0
  t3 := Try.underlying3
  a3 := Try.isAgg3
  z3 := Try.sizeOf3
  v3 := Try.zeroValue3
  t4 := Try.underlying4
  a4 := Try.isAgg4
  z4 := Try.sizeOf4
  v4 := Try.zeroValue4
  t9 := Try.underlying9
  a9 := Try.isAgg9
  z9 := Try.sizeOf9
  v9 := Try.zeroValue9
  t20 := Try.underlying20
  a20 := Try.isAgg20
  z20 := Try.sizeOf20
  v20 := Try.zeroValue20
  t31 := Try.underlying25
  a31 := Try.isAgg25
  z31 := Try.sizeOf25
  v31 := Try.zeroValue25
  t37 := Try.underlying130
  a37 := Try.isAgg130
  z37 := Try.sizeOf130
  v37 := Try.zeroValue130
  t70 := Try.underlying133
  a70 := Try.isAgg133
  z70 := Try.sizeOf133
  v70 := Try.zeroValue133
  t72 := Try.underlying135
  a72 := Try.isAgg135
  z72 := Try.sizeOf135
  v72 := Try.zeroValue135
  t75 := Try.underlying138
  a75 := Try.isAgg138
  z75 := Try.sizeOf138
  v75 := Try.zeroValue138
  t76 := Try.underlying139
  a76 := Try.isAgg139
  z76 := Try.sizeOf139
  v76 := Try.zeroValue139
  t127 := Try.underlying144
  a127 := Try.isAgg144
  z127 := Try.sizeOf144
  v127 := Try.zeroValue144
  t164 := Try.underlying146
  a164 := Try.isAgg146
  z164 := Try.sizeOf146
  v164 := Try.zeroValue146
theorem extra156 : Builder.Extra Try.prog lays156_ren := {
  sizeBuilder := by kernel_rfl
  liesBuilder := by kernel_rfl
  t5 := Try.underlying5
  a5 := Try.isAgg5
  z5 := Try.sizeOf5
  v5 := Try.zeroValue5
  infoByte := by kernel_rfl
  cellsByte := by kernel_rfl
  sizeByte := by kernel_rfl
  neB5 := by decide }
open Go.RowKit in
theorem strJoin_none (a : Option Addr) (c : Nat) (sep : ByteArray) (w : World) :
    Calls Try.prog 96 #[.slice a 0 c, .string sep] w fun e w' => e = .returned (.string ⟨#[]⟩) ∧ w' = w := Any.strings_Join_none lays156 extra156 a c sep w
open Go.RowKit in
theorem strJoin (bk o c : Nat) (xs : List ByteArray) (sep : ByteArray) (w : World) (hcells : ∀ (j : Nat) x, xs[j]? = some x → w.cell? ⟨bk, o + j, none⟩ = some (.string x)) (hbk : bk < w.heap.size) (hN : xs.length ≤ 140737488355328) (hcap : xs.length ≤ c) (hlen : (Lib.join (xs.map (·.data.toList)) sep.data.toList).length ≤ 140737488355328) :
    Calls Try.prog 96 #[.slice (some ⟨bk, o, none⟩) xs.length c, .string sep] w fun e w' => e = .returned (.string ⟨(Lib.join (xs.map (·.data.toList)) sep.data.toList).toArray⟩) ∧ Below w.heap.size w w' := Any.strings_Join lays156 extra156 bk o c xs sep w hcells hbk hN hcap hlen
end Go.Proofs.Ytmnibpgmcgdfpaa

set_option linter.unusedSimpArgs false
set_option linter.unusedVariables false
set_option linter.unusedSimpArgs false
set_option linter.unusedVariables false
namespace Go.Proofs.Ytmnibpgmcgdfpaa
open Go.PL
attribute [go_sem] reduceIte Nat.reduceEqDiff reduceCtorEq Nat.reduceLT Nat.reduceAdd Nat.reduceSub Nat.reduceMul Nat.reduceLeDiff Int.reduceLT Int.reduceLE Int.reduceToNat Int.reduceEq Int.reduceAdd Int.reduceSub Int.reduceNeg Int.reduceBNe Int.reduceBEq
attribute [go_sem] true_or or_true List.getElem?_cons_zero List.getElem?_cons_succ List.getElem?_nil decide_true decide_false Bool.not_true Bool.not_false imp_self false_implies true_implies List.all_cons List.all_nil Bool.and_true Bool.false_eq_true Nat.zero_add Nat.add_zero Option.some.injEq true_and and_true List.getD_cons_zero List.getD_cons_succ List.length_cons List.length_nil ne_eq not_false_eq_true implies_true and_self List.take List.drop List.map_cons List.map_nil List.reverse_cons List.reverse_nil List.nil_append PV.bool.injEq List.length_map Int.toNat_natCast Nat.mul_one beq_self_eq_true bne_self_eq_false Bool.or_self Bool.false_or Bool.true_or Bool.or_true Bool.or_false
theorem w64 {x : Int} (h : -9223372036854775808 ≤ x ∧ x ≤ 9223372036854775807) : IntKind.i64.wrap x = x := IntWalk.i64_in _ (by omega)
theorem maxLen_eq : maxLen = 9223372036854775807 := by decide
theorem w64s {k n : Nat} (h : k < n) (hn : n ≤ maxLen) : IntKind.i64.wrap ((k : Int) + 1) = ((k + 1 : Nat) : Int) := by
  rw [maxLen_eq] at hn
  rw [w64 (by omega)]; rfl
abbrev Str := List UInt8
structure Rf where
  sc : Int
  gr : Str
  nm : Str
  deriving DecidableEq, Inhabited
structure En where
  at' : Rf
  n : Int
  l : List Str
  deriving DecidableEq, Inhabited
structure Rw where
  item : Str
  l : List En
  deriving DecidableEq, Inhabited
structure Dc where
  head : List En
  rows : List Rw
  deriving DecidableEq, Inhabited
def strs (l : List Str) : PV := .sl .no (l.map .str)
def ref (r : Rf) : PV := .agg [.int .i64 r.sc, .str r.gr, .str r.nm]
def ent (e : En) : PV := .agg [.int .i64 e.at'.sc, .str e.at'.gr, .str e.at'.nm, .int .i64 e.n, .sl .no (e.l.map .str)]
def ents (l : List En) : PV := .sl .no (l.map ent)
def row (r : Rw) : PV := .agg [.str r.item, .sl .no (r.l.map ent)]
def doc (d : Dc) : PV := .agg [.sl .no (d.head.map ent), .sl .no (d.rows.map row)]
theorem ref_fold (a b : Rf) : (a.sc == b.sc && (a.gr == b.gr && a.nm == b.nm)) = decide (a = b) := by
  cases a; cases b
  rw [Bool.eq_iff_iff]
  simp
theorem getD_str {l : List Str} {i : Nat} (h : i < l.length) : (l.map PV.str).getD i .any = .str (l.getD i []) := by
  simp [List.getD_eq_getElem?_getD, h]
theorem getD_ent {l : List En} {i : Nat} (h : i < l.length) : (l.map ent).getD i .any = ent (l.getD i default) := by
  simp [List.getD_eq_getElem?_getD, h]
theorem getD_row {l : List Rw} {i : Nat} (h : i < l.length) : (l.map row).getD i .any = row (l.getD i default) := by
  simp [List.getD_eq_getElem?_getD, h]
theorem getD_mem' {α : Type} {l : List α} {i : Nat} {d : α} (h : i < l.length) : l.getD i d ∈ l := by
  rw [List.getD_eq_getElem?_getD, List.getElem?_eq_getElem h]; exact List.getElem_mem h
/-- lists that are alike, place by place -/
theorem eq_of_getD {α : Type} {a b : List α} {d : α} (hl : a.length = b.length) (h : ∀ j, j < a.length → a.getD j d = b.getD j d) : a = b := by
  apply List.ext_getElem hl
  intro i h1 h2
  have := h i h1
  simpa [List.getD_eq_getElem?_getD, h1, h2] using this
theorem ne_of_getD {α : Type} {a b : List α} {d : α} {j : Nat} (h : a.getD j d ≠ b.getD j d) : a ≠ b := fun e => h (by rw [e])
set_option maxHeartbeats 1000000 in
theorem RSame_pure (a b : List Str) (ha : a.length ≤ maxLen) (hb : b.length ≤ maxLen) : PL.Pure Try.prog 26 [strs a, strs b] (.bool (decide (a = b))) := by
  by_cases hl : a.length = b.length
  · have hl' : ((a.length : Int) != (b.length : Int)) = false := by rw [hl]; exact bne_self_eq_false _
    refine PL.Pure.of_v Try.func26 (by decide) rfl Try.ntmps26 Try.results26 (by simp) rfl ?_
    simp only [go_sem, strs, hl']
    refine vLoopM (ι := { k : Nat // k ≤ a.length ∧ ∀ j, j < k → a.getD j [] = b.getD j [] }) 26 (fun x => [(0, strs a), (1, strs b), (5, .int .i64 (x.1 : Int))]) (fun x => []) (fun x => []) (fun x => a.length - x.1) ⟨0, by omega, fun j hj => by omega⟩
      ⟨rfl, (forall_cons rfl (forall_cons rfl (forall_cons rfl (forall_nil)))), forall_nil, forall_nil⟩ (fun x => ⟨(forall_cons rfl (forall_cons rfl (forall_cons rfl (forall_nil)))), forall_nil⟩) (fun x => ?_)
    obtain ⟨k, hk, hall⟩ := x
    simp only
    by_cases h : (k : Int) < (a.length : Int)
    · have hka : k < a.length := by omega
      have hkb : k < b.length := by omega
      have w1 := w64s hka ha
      have i1 : (0 : Int) ≤ (k : Int) := by omega
      have i2 : (k : Int) < (b.length : Int) := by omega
      by_cases he : a.getD k [] = b.getD k []
      · have he' : (a.getD k [] == b.getD k []) = true := beq_iff_eq.2 he
        simp only [go_sem, strs, h]
        refine vDrawQ (by kernel_rfl) (by kernel_rfl) ?_
        simp only [go_sem, getD_str hka, getD_str hkb, h, i1, i2, he', w1]
        exact ⟨⟨k + 1, by omega, fun j hj => by
          rcases Nat.lt_or_ge j k with h1 | h1
          · exact hall j h1
          · obtain rfl : j = k := by omega
            exact he⟩, by show a.length - (k + 1) < a.length - k; omega, ⟨rfl, (forall_cons rfl (forall_cons rfl (forall_cons rfl (forall_nil)))), forall_nil, forall_nil⟩⟩
      · have he' : (a.getD k [] == b.getD k []) = false := beq_eq_false_iff_ne.2 he
        have hab : ¬ a = b := ne_of_getD he
        simp only [go_sem, strs, h]
        refine vDrawQ (by kernel_rfl) (by kernel_rfl) ?_
        simp only [go_sem, getD_str hka, getD_str hkb, h, i1, i2, he', hab]
    · have hab : decide (a = b) = true := decide_eq_true (eq_of_getD (d := []) hl fun j hj => hall j (by omega))
      simp only [go_sem, strs, h, hab]
  · have hl' : ((a.length : Int) != (b.length : Int)) = true := bne_iff_ne.2 (by omega)
    have hab : ¬ a = b := fun e => hl (by rw [e])
    refine PL.Pure.of_v Try.func26 (by decide) rfl Try.ntmps26 Try.results26 (by simp) rfl ?_
    simp only [go_sem, strs, hl', hab]
end Go.Proofs.Ytmnibpgmcgdfpaa

set_option linter.unusedSimpArgs false
set_option linter.unusedVariables false
set_option linter.unusedSimpArgs false
set_option linter.unusedVariables false
namespace Go.Proofs.Ytmnibpgmcgdfpaa
open Go.PL
/-- the first place at which something holds, or -1 -/
def idx {α : Type} (p : α → Bool) (l : List α) : Int := match l.findIdx? p with | some i => (i : Int) | none => -1
theorem idx_found {α : Type} {p : α → Bool} {l : List α} {k : Nat} {d : α} (hk : k < l.length) (h : ∀ j, j < k → p (l.getD j d) = false) (hp : p (l.getD k d) = true) : idx p l = k := by
  have : l.findIdx? p = some k := by
    rw [List.findIdx?_eq_some_iff_getElem]
    refine ⟨hk, ?_, fun j hj => ?_⟩
    · simpa [List.getD_eq_getElem?_getD, hk] using hp
    · have := h j hj
      simp [List.getD_eq_getElem?_getD, show j < l.length by omega] at this
      simp [this]
  simp [idx, this]
theorem idx_none {α : Type} {p : α → Bool} {l : List α} {d : α} (h : ∀ j, j < l.length → p (l.getD j d) = false) : idx p l = -1 := by
  have : l.findIdx? p = none := by
    rw [List.findIdx?_eq_none_iff]
    intro x hx
    obtain ⟨j, hj, rfl⟩ := List.getElem_of_mem hx
    have := h j hj
    simpa [List.getD_eq_getElem?_getD, hj] using this
  simp [idx, this]
/-- one more place at which nothing is -/
theorem below_succ {p : Nat → Prop} {k : Nat} (h : ∀ j, j < k → p j) (hk : p k) : ∀ j, j < k + 1 → p j := fun j hj => by
  rcases Nat.lt_or_ge j k with h1 | h1
  · exact h j h1
  · obtain rfl : j = k := by omega
    exact hk
theorem en_ext {a b : En} (h1 : a.at' = b.at') (h2 : a.n = b.n) (h3 : a.l = b.l) : a = b := by
  cases a; cases b; simp_all
set_option maxRecDepth 20000 in
set_option maxHeartbeats 4000000 in
theorem SameEntries_pure (a b : List En) (ha : a.length ≤ maxLen) (hb : b.length ≤ maxLen) (ha' : ∀ e ∈ a, e.l.length ≤ maxLen) (hb' : ∀ e ∈ b, e.l.length ≤ maxLen) : PL.Pure Try.prog 34 [ents a, ents b] (.bool (decide (a = b))) := by
  by_cases hl : a.length = b.length
  · have hl' : ((a.length : Int) != (b.length : Int)) = false := by rw [hl]; exact bne_self_eq_false _
    refine PL.Pure.of_v Try.func34 (by decide) rfl Try.ntmps34 Try.results34 (by simp) rfl ?_
    simp only [go_sem, ents, hl']
    refine vLoopM (ι := { k : Nat // k ≤ a.length ∧ ∀ j, j < k → a.getD j default = b.getD j default }) 55 (fun x => [(0, ents a), (1, ents b), (5, .int .i64 (x.1 : Int))]) (fun x => []) (fun x => []) (fun x => a.length - x.1) ⟨0, by omega, fun j hj => by omega⟩
      ⟨rfl, (forall_cons rfl (forall_cons rfl (forall_cons rfl (forall_nil)))), forall_nil, forall_nil⟩ (fun x => ⟨(forall_cons rfl (forall_cons rfl (forall_cons rfl (forall_nil)))), forall_nil⟩) (fun x => ?_)
    obtain ⟨k, hk, hall⟩ := x
    simp only
    by_cases h : (k : Int) < (a.length : Int)
    · have hka : k < a.length := by omega
      have hkb : k < b.length := by omega
      have w1 := w64s hka ha
      have i1 : (0 : Int) ≤ (k : Int) := by omega
      have i2 : (k : Int) < (b.length : Int) := by omega
      have hc := RSame_pure _ _ (ha' _ (getD_mem' (d := default) hka)) (hb' _ (getD_mem' (d := default) hkb))
      by_cases e1 : (a.getD k default).at' = (b.getD k default).at'
      · have e1' := decide_eq_true e1
        by_cases e2 : (a.getD k default).n = (b.getD k default).n
        · have e2' : ((a.getD k default).n != (b.getD k default).n) = false := by rw [e2]; exact bne_self_eq_false _
          by_cases e3 : (a.getD k default).l = (b.getD k default).l
          · rw [decide_eq_true e3] at hc
            simp only [go_sem, ents, h]
            refine vDrawQ (by kernel_rfl) (by kernel_rfl) ?_
            simp only [go_sem, getD_ent hka, getD_ent hkb, ent, h, i1, i2, ref_fold, e1', e2']
            refine vCall_of (hc) ?_ ?_ ?_; (focus simp only [go_sem, strs]); (focus simp only [go_sem, strs])
            simp only [go_sem, w1]
            exact ⟨⟨k + 1, by omega, below_succ hall (en_ext e1 e2 e3)⟩, by show a.length - (k + 1) < a.length - k; omega, ⟨rfl, (forall_cons rfl (forall_cons rfl (forall_cons rfl (forall_nil)))), forall_nil, forall_nil⟩⟩
          · rw [decide_eq_false e3] at hc
            have hab : ¬ a = b := fun e => e3 (by rw [e])
            simp only [go_sem, ents, h]
            refine vDrawQ (by kernel_rfl) (by kernel_rfl) ?_
            simp only [go_sem, getD_ent hka, getD_ent hkb, ent, h, i1, i2, ref_fold, e1', e2']
            refine vCall_of (hc) ?_ ?_ ?_; (focus simp only [go_sem, strs]); (focus simp only [go_sem, strs])
            simp only [go_sem, hab]
        · have e2' : ((a.getD k default).n != (b.getD k default).n) = true := bne_iff_ne.2 e2
          have hab : ¬ a = b := fun e => e2 (by rw [e])
          simp only [go_sem, ents, h]
          refine vDrawQ (by kernel_rfl) (by kernel_rfl) ?_
          simp only [go_sem, getD_ent hka, getD_ent hkb, ent, h, i1, i2, ref_fold, e1', e2', hab]
      · have e1' := decide_eq_false e1
        have hab : ¬ a = b := fun e => e1 (by rw [e])
        simp only [go_sem, ents, h]
        refine vDrawQ (by kernel_rfl) (by kernel_rfl) ?_
        simp only [go_sem, getD_ent hka, getD_ent hkb, ent, h, i1, i2, ref_fold, e1', hab]
    · have hab : decide (a = b) = true := decide_eq_true (eq_of_getD (d := default) hl fun j hj => hall j (by omega))
      simp only [go_sem, ents, h, hab]
  · have hl' : ((a.length : Int) != (b.length : Int)) = true := bne_iff_ne.2 (by omega)
    have hab : ¬ a = b := fun e => hl (by rw [e])
    refine PL.Pure.of_v Try.func34 (by decide) rfl Try.ntmps34 Try.results34 (by simp) rfl ?_
    simp only [go_sem, ents, hl', hab]
end Go.Proofs.Ytmnibpgmcgdfpaa

set_option linter.unusedSimpArgs false
set_option linter.unusedVariables false
set_option linter.unusedSimpArgs false
set_option linter.unusedVariables false
namespace Go.Proofs.Ytmnibpgmcgdfpaa
open Go.PL
theorem any_true {α : Type} {p : α → Bool} {l : List α} {k : Nat} {d : α} (hk : k < l.length) (h : p (l.getD k d) = true) : l.any p = true :=
  List.any_eq_true.2 ⟨_, getD_mem' hk, h⟩
theorem any_false {α : Type} {p : α → Bool} {l : List α} {d : α} (h : ∀ j, j < l.length → p (l.getD j d) = false) : l.any p = false := by
  rw [List.any_eq_false]
  intro x hx
  obtain ⟨j, hj, rfl⟩ := List.getElem_of_mem hx
  have := h j hj
  simpa [List.getD_eq_getElem?_getD, hj] using this
def longB (n : Nat) (s : Str) : Bool := decide ((n : Int) < (s.length : Int))
def entH (e : En) : Bool := longB 200 e.at'.gr || (longB 200 e.at'.nm || (decide ((410 : Int) < (e.l.length : Int)) || e.l.any (longB 200)))
def heavyEs (l : List En) : Bool := decide ((40 : Int) < (l.length : Int)) || l.any entH
def rowH (r : Rw) : Bool := longB 200 r.item || heavyEs r.l
def heavyD (d : Dc) : Bool := decide ((410 : Int) < (d.rows.length : Int)) || (heavyEs d.head || d.rows.any rowH)
set_option maxRecDepth 20000 in
set_option maxHeartbeats 4000000 in
theorem heavyEntries_pure (l : List En) (hl : l.length ≤ maxLen) (hl' : ∀ e ∈ l, e.l.length ≤ maxLen) : PL.Pure Try.prog 46 [ents l] (.bool (heavyEs l)) := by
  by_cases h40 : (40 : Int) < (l.length : Int)
  · refine PL.Pure.of_v Try.func46 (by decide) rfl Try.ntmps46 Try.results46 (by simp) rfl ?_
    simp only [go_sem, ents, h40, heavyEs, Bool.true_or]
  · refine PL.Pure.of_v Try.func46 (by decide) rfl Try.ntmps46 Try.results46 (by simp) rfl ?_
    simp only [go_sem, ents, h40]
    refine vLoopM (ι := { k : Nat // k ≤ l.length ∧ ∀ j, j < k → entH (l.getD j default) = false }) 61 (fun x => [(0, ents l), (3, .int .i64 (x.1 : Int))]) (fun x => []) (fun x => []) (fun x => l.length - x.1) ⟨0, by omega, fun j hj => by omega⟩
      ⟨rfl, (forall_cons rfl (forall_cons rfl (forall_nil))), forall_nil, forall_nil⟩ (fun x => ⟨(forall_cons rfl (forall_cons rfl (forall_nil))), forall_nil⟩) (fun x => ?_)
    obtain ⟨k, hk, hall⟩ := x
    simp only
    by_cases h : (k : Int) < (l.length : Int)
    · have hka : k < l.length := by omega
      have w1 := w64s hka hl
      have i1 : (0 : Int) ≤ (k : Int) := by omega
      have hle := hl' _ (getD_mem' (d := default) hka)
      have done : entH (l.getD k default) = true → heavyEs l = true := fun h => by simp only [heavyEs, any_true hka h, Bool.or_true]
      by_cases g1 : (200 : Int) < ((l.getD k default).at'.gr.length : Int)
      · have hx := done (by simp only [entH, longB, decide_eq_true_eq, Bool.or_eq_true]; exact .inl (by omega))
        simp only [go_sem, ents, h, getD_ent hka, ent, i1, g1, hx]
      · by_cases g2 : (200 : Int) < ((l.getD k default).at'.nm.length : Int)
        · have hx := done (by simp only [entH, longB, decide_eq_true_eq, Bool.or_eq_true]; exact .inr (.inl (by omega)))
          simp only [go_sem, ents, h, getD_ent hka, ent, i1, g1, g2, hx]
        · by_cases g3 : (410 : Int) < ((l.getD k default).l.length : Int)
          · have hx := done (by simp only [entH, longB, decide_eq_true_eq, Bool.or_eq_true]; exact .inr (.inr (.inl g3)))
            simp only [go_sem, ents, h, getD_ent hka, ent, i1, g1, g2, g3, hx]
          · simp only [go_sem, ents, h, getD_ent hka, ent, i1, g1, g2, g3]
            refine vLoopM (ι := { n : Nat // n ≤ (l.getD k default).l.length ∧ ∀ j, j < n → longB 200 ((l.getD k default).l.getD j []) = false }) 61 (fun x => [(0, ents l), (3, .int .i64 (k : Int)), (4, .int .i64 (x.1 : Int))]) (fun x => []) (fun x => []) (fun x => (l.getD k default).l.length - x.1) ⟨0, by omega, fun j hj => by omega⟩
              ⟨rfl, (forall_cons rfl (forall_cons rfl (forall_cons rfl (forall_nil)))), forall_nil, forall_nil⟩ (fun x => ⟨(forall_cons rfl (forall_cons rfl (forall_cons rfl (forall_nil)))), forall_nil⟩) (fun x => ?_)
            obtain ⟨n, hn, hall2⟩ := x
            simp only
            by_cases h2 : (n : Int) < ((l.getD k default).l.length : Int)
            · have hna : n < (l.getD k default).l.length := by omega
              have w2 := w64s hna hle
              have i3 : (0 : Int) ≤ (n : Int) := by omega
              by_cases g4 : (200 : Int) < (((l.getD k default).l.getD n []).length : Int)
              · have hx := done (by simp only [entH, Bool.or_eq_true]; exact .inr (.inr (.inr (any_true hna (d := []) (by simp only [longB, decide_eq_true_eq]; omega)))))
                simp only [go_sem, ents, h, getD_ent hka, ent, i1, h2, getD_str hna, i3, g4, hx]
              · simp only [go_sem, ents, h, getD_ent hka, ent, i1, h2, getD_str hna, i3, g4, w2]
                exact ⟨⟨n + 1, by omega, below_succ hall2 (by simp only [longB, decide_eq_false_iff_not]; omega)⟩, by show (l.getD k default).l.length - (n + 1) < (l.getD k default).l.length - n; omega, ⟨rfl, (forall_cons rfl (forall_cons rfl (forall_cons rfl (forall_nil)))), forall_nil, forall_nil⟩⟩
            · have hz : entH (l.getD k default) = false := by
                have := any_false (p := longB 200) (d := []) (l := (l.getD k default).l) (fun j hj => hall2 j (by omega))
                simp only [entH, longB, this, Bool.or_false, Bool.or_eq_false_iff, decide_eq_false_iff_not]
                exact ⟨by omega, by omega, g3⟩
              simp only [go_sem, ents, h, getD_ent hka, ent, i1, h2, w1]
              exact ⟨⟨k + 1, by omega, below_succ hall hz⟩, by show l.length - (k + 1) < l.length - k; omega, ⟨rfl, (forall_cons rfl (forall_cons rfl (forall_nil))), forall_nil, forall_nil⟩⟩
    · have hx := any_false (p := entH) (d := default) (l := l) (fun j hj => hall j (by omega))
      have hz : heavyEs l = false := by simp only [heavyEs, h40, hx, decide_false, Bool.or_false]
      simp only [go_sem, ents, h, hz]
def Fine (d : Dc) : Prop := d.head.length ≤ maxLen ∧ d.rows.length ≤ maxLen ∧ (∀ e ∈ d.head, e.l.length ≤ maxLen) ∧ ∀ r ∈ d.rows, r.l.length ≤ maxLen ∧ ∀ e ∈ r.l, e.l.length ≤ maxLen
set_option maxRecDepth 20000 in
set_option maxHeartbeats 4000000 in
theorem Heavy_pure (d : Dc) (hf : Fine d) : PL.Pure Try.prog 17 [doc d] (.bool (heavyD d)) := by
  obtain ⟨f1, f2, f3, f4⟩ := hf
  have hH := heavyEntries_pure d.head f1 f3
  by_cases h1 : (410 : Int) < (d.rows.length : Int)
  · refine PL.Pure.of_v Try.func17 (by decide) rfl Try.ntmps17 Try.results17 (by simp) rfl ?_
    simp only [go_sem, doc, h1, heavyD, Bool.true_or]
  · cases h2 : heavyEs d.head
    · rw [h2] at hH
      refine PL.Pure.of_v Try.func17 (by decide) rfl Try.ntmps17 Try.results17 (by simp) rfl ?_
      simp only [go_sem, doc, h1]
      refine vCall_of (hH) ?_ ?_ ?_; (focus simp only [go_sem, ents]); (focus simp only [go_sem, ents])
      simp only [go_sem]
      refine vLoopM (ι := { k : Nat // k ≤ d.rows.length ∧ ∀ j, j < k → rowH (d.rows.getD j default) = false }) 37 (fun x => [(1, .ptr 1 0), (3, .int .i64 (x.1 : Int))]) (fun x => [(1, [.sl .no (d.head.map ent), .sl .no (d.rows.map row)], false)]) (fun x => []) (fun x => d.rows.length - x.1) ⟨0, by omega, fun j hj => by omega⟩
        ⟨rfl, (forall_cons rfl (forall_cons rfl (forall_nil))), forall_cons ⟨rfl, rfl⟩ forall_nil, forall_nil⟩ (fun x => ⟨(forall_cons rfl (forall_cons rfl (forall_nil))), (forall_cons rfl (forall_nil))⟩) (fun x => ?_)
      obtain ⟨k, hk, hall⟩ := x
      simp only
      by_cases h : (k : Int) < (d.rows.length : Int)
      · have hka : k < d.rows.length := by omega
        have w1 := w64s hka f2
        have i1 : (0 : Int) ≤ (k : Int) := by omega
        obtain ⟨b1, b2⟩ := f4 _ (getD_mem' (d := default) hka)
        have hR := heavyEntries_pure _ b1 b2
        by_cases g1 : (200 : Int) < ((d.rows.getD k default).item.length : Int)
        · have hx : heavyD d = true := by simp only [heavyD, any_true (p := rowH) (d := default) hka (by simp only [rowH, longB, Bool.or_eq_true, decide_eq_true_eq]; exact .inl (by omega)), Bool.or_true]
          simp only [go_sem, h, getD_row hka, row, i1, g1, hx]
        · cases g2 : heavyEs (d.rows.getD k default).l
          · rw [g2] at hR
            simp only [go_sem, h, getD_row hka, row, i1, g1]
            refine vCall_of (hR) ?_ ?_ ?_; (focus simp only [go_sem, ents]); (focus simp only [go_sem, ents])
            simp only [go_sem, w1]
            exact ⟨⟨k + 1, by omega, below_succ hall (by simp only [rowH, longB, g2, Bool.or_false, decide_eq_false_iff_not]; omega)⟩, by show d.rows.length - (k + 1) < d.rows.length - k; omega, ⟨rfl, (forall_cons rfl (forall_cons rfl (forall_nil))), forall_cons ⟨rfl, rfl⟩ forall_nil, forall_nil⟩⟩
          · rw [g2] at hR
            have hx : heavyD d = true := by simp only [heavyD, any_true (p := rowH) (d := default) hka (by simp only [rowH, g2, Bool.or_true]), Bool.or_true]
            simp only [go_sem, h, getD_row hka, row, i1, g1]
            refine vCall_of (hR) ?_ ?_ ?_; (focus simp only [go_sem, ents]); (focus simp only [go_sem, ents])
            simp only [go_sem, hx]
      · have hx := any_false (p := rowH) (d := default) (l := d.rows) (fun j hj => hall j (by omega))
        have hz : heavyD d = false := by simp only [heavyD, h1, h2, hx, decide_false, Bool.or_false]
        simp only [go_sem, h, hz]
    · rw [h2] at hH
      refine PL.Pure.of_v Try.func17 (by decide) rfl Try.ntmps17 Try.results17 (by simp) rfl ?_
      simp only [go_sem, doc, h1]
      refine vCall_of (hH) ?_ ?_ ?_; (focus simp only [go_sem, ents]); (focus simp only [go_sem, ents])
      simp only [go_sem, heavyD, h2, Bool.true_or, Bool.or_true]
end Go.Proofs.Ytmnibpgmcgdfpaa

set_option linter.unusedSimpArgs false
set_option linter.unusedVariables false
set_option linter.unusedSimpArgs false
set_option linter.unusedVariables false
namespace Go.Proofs.Ytmnibpgmcgdfpaa
open Go.PL
@[go_sem] theorem arr_empty {α : Type} : (#[] : Array α).isEmpty = true := rfl
theorem room_small {n b : Nat} (hn : n ≤ 100000000000) (hb : b ≤ 1000) : Room n b := by
  refine ⟨?_, by unfold maxLen; omega⟩
  calc n * b ≤ 100000000000 * 1000 := Nat.mul_le_mul hn hb
    _ ≤ 140737488355328 := by decide
@[go_sem] theorem sized_nil (n : Nat) : Sized n [] = True := by simp [Sized]
@[go_sem] theorem sized_cons (n : Nat) (e : PV) (l : List PV) : Sized n (e :: l) = (e.cells.length = n ∧ Sized n l) := by simp [Sized]
@[go_sem] theorem atoms_nil : Atoms [] = True := by simp [Atoms]
@[go_sem] theorem atoms_cons (e : PV) (l : List PV) : Atoms (e :: l) = (e.cells.all PV.atom = true ∧ Atoms l) := by simp [Atoms]
theorem sized_str (l : List Str) : Sized 1 (l.map .str) := fun e he => by
  obtain ⟨x, _, rfl⟩ := List.mem_map.1 he; rfl
theorem atoms_str (l : List Str) : Atoms (l.map .str) := fun e he => by
  obtain ⟨x, _, rfl⟩ := List.mem_map.1 he; rfl
theorem didsL_str (l : List Str) : PV.didsL (l.map .str) = [] := by
  induction l with
  | nil => rfl
  | cons t l ih => simp only [List.map_cons, PV.didsL, ih, PV.dids, List.append_nil]
theorem ent_dids (e : En) : (ent e).dids = [] := by simp only [ent, PV.dids, PV.didsL, didsL_str, List.append_nil]
set_option maxHeartbeats 1000000 in
theorem ownEntry_pure (e : En) (he : e.l.length ≤ 1000000) : PL.Pure Try.prog 74 [ent e] (ent e) := by
  have hr := room_small (show e.l.length ≤ 100000000000 by omega) (show 16 ≤ 1000 by omega)
  refine PL.Pure.of_v Try.func74 (by decide) rfl Try.ntmps74 Try.results74 (by simp) (ent_dids _) ?_
  simp only [go_sem, ent, sized_str, atoms_str, hr]
end Go.Proofs.Ytmnibpgmcgdfpaa

set_option linter.unusedSimpArgs false
set_option linter.unusedVariables false
set_option linter.unusedSimpArgs false
set_option linter.unusedVariables false
namespace Go.Proofs.Ytmnibpgmcgdfpaa
open Go.PL
attribute [go_sem] Bool.not_eq_true'
theorem beq_nil {s : Str} (h : s = []) : (s == []) = true := by rw [h]; rfl
theorem beq_nil' {s : Str} (h : ¬ s = []) : (s == []) = false := beq_eq_false_iff_ne.2 h
end Go.Proofs.Ytmnibpgmcgdfpaa

set_option linter.unusedSimpArgs false
set_option linter.unusedVariables false
set_option linter.unusedSimpArgs false
set_option linter.unusedVariables false
namespace Go.Proofs.Ytmnibpgmcgdfpaa
open Go.PL
structure Fd where
  at' : Rf
  kind : Int
  df : Str
  cases' : List Str
  worth : Int
  deriving DecidableEq, Inhabited
def fld (f : Fd) : PV := .agg [.int .i64 f.at'.sc, .str f.at'.gr, .str f.at'.nm, .int .i64 f.kind, .str f.df, .sl .no (f.cases'.map .str), .int .i64 f.worth]
def flds (l : List Fd) : PV := .sl .no (l.map fld)
theorem getD_fld {l : List Fd} {i : Nat} (h : i < l.length) : (l.map fld).getD i .any = fld (l.getD i default) := by
  simp [List.getD_eq_getElem?_getD, h]
def valueM (f : Fd) : En := ⟨f.at', 0, if f.kind = 1 ∨ f.kind = 4 then [] else [f.df]⟩
attribute [go_sem] partsOk
set_option maxHeartbeats 1000000 in
theorem Value_pure (f : Fd) : PL.Pure Try.prog 102 [fld f] (ent (valueM f)) := by
  by_cases h1 : f.kind = 1
  · have h1' : (f.kind != 1) = false := by rw [h1]; rfl
    refine PL.Pure.of_v Try.func102 (by decide) rfl Try.ntmps102 Try.results102 (by simp) (ent_dids _) ?_
    simp only [go_sem, fld, ent, valueM, h1']
    simp [h1]
  · have h1' : (f.kind != 1) = true := bne_iff_ne.2 h1
    by_cases h2 : f.kind = 4
    · have h2' : (f.kind != 4) = false := by rw [h2]; rfl
      refine PL.Pure.of_v Try.func102 (by decide) rfl Try.ntmps102 Try.results102 (by simp) (ent_dids _) ?_
      simp only [go_sem, fld, ent, valueM, h1', h2']
      simp [h2]
    · have h2' : (f.kind != 4) = true := bne_iff_ne.2 h2
      refine PL.Pure.of_v Try.func102 (by decide) rfl Try.ntmps102 Try.results102 (by simp) (ent_dids _) ?_
      simp only [go_sem, fld, ent, valueM, h1', h2', h1, h2, or_self]
def blanksM (l : List Fd) (sc : Int) : List En := (l.filter fun f => f.at'.sc == sc).map valueM
theorem sized_ent (l : List En) : Sized 5 (l.map ent) := fun e he => by
  obtain ⟨x, _, rfl⟩ := List.mem_map.1 he; rfl
theorem atoms_ent (l : List En) : Atoms (l.map ent) := fun e he => by
  obtain ⟨x, _, rfl⟩ := List.mem_map.1 he; rfl
theorem sized_ent1 (e : En) : Sized 5 [PV.agg [.int .i64 e.at'.sc, .str e.at'.gr, .str e.at'.nm, .int .i64 e.n, .sl .no (e.l.map .str)]] := sized_ent [e]
theorem atoms_ent1 (e : En) : Atoms [PV.agg [.int .i64 e.at'.sc, .str e.at'.gr, .str e.at'.nm, .int .i64 e.n, .sl .no (e.l.map .str)]] := atoms_ent [e]
theorem map_ent (l : List En) (e : En) : l.map ent ++ [PV.agg [.int .i64 e.at'.sc, .str e.at'.gr, .str e.at'.nm, .int .i64 e.n, .sl .no (e.l.map .str)]] = (l ++ [e]).map ent := by simp [ent]
theorem take_snoc {α : Type} {l : List α} {k : Nat} (h : k < l.length) {d : α} : l.take (k + 1) = l.take k ++ [l.getD k d] := by
  rw [List.take_succ_eq_append_getElem h, List.getD_eq_getElem?_getD, List.getElem?_eq_getElem h]; rfl
theorem blanks_len (l : List Fd) (sc : Int) : (blanksM l sc).length ≤ l.length := by
  simp only [blanksM, List.length_map]; exact List.length_filter_le _ _
theorem didsL_ent (l : List En) : PV.didsL (l.map ent) = [] := by
  induction l with
  | nil => rfl
  | cons e l ih => rw [List.map_cons, PV.didsL, ih, ent_dids]; rfl
theorem ents_dids (l : List En) : (ents l).dids = [] := by simp only [ents, PV.dids, didsL_ent]
set_option maxRecDepth 20000 in
set_option maxHeartbeats 4000000 in
theorem blanks_pure (l : List Fd) (sc : Int) (hl : l.length ≤ 1000000) : PL.Pure Try.prog 69 [flds l, .int .i64 sc] (ents (blanksM l sc)) := by
  have hm : l.length ≤ maxLen := by rw [maxLen_eq]; omega
  refine PL.Pure.of_v Try.func69 (by decide) rfl Try.ntmps69 Try.results69 (by simp) (ents_dids _) ?_
  simp only [go_sem, flds]
  refine awp_nilRow 5 23 5 27 rfl rfl ?_
  refine vLoopM (ι := { k : Nat // k ≤ l.length }) 26 (fun x => [(1, .int .i64 sc), (5, .sl (.row 23) ((blanksM (l.take x.1) sc).map ent)), (8, flds l), (9, .int .i64 (l.length : Int)), (10, .int .i64 (x.1 : Int))]) (fun x => []) (fun x => [(23, .live (blanksM (l.take x.1) sc).length 5 27)]) (fun x => l.length - x.1) ⟨0, by omega⟩
    ⟨rfl, (forall_cons rfl (forall_cons rfl (forall_cons rfl (forall_cons rfl (forall_cons rfl (forall_nil)))))), forall_nil, (forall_cons rfl (forall_nil))⟩ (fun x => ⟨forall_cons rfl (forall_cons (by simp [PV.ids, refInM]) (forall_cons rfl (forall_cons rfl (forall_cons rfl (forall_nil))))), forall_nil⟩) (fun x => ?_)
  obtain ⟨k, hk⟩ := x
  simp only
  by_cases h : (k : Int) < (l.length : Int)
  · have hka : k < l.length := by omega
    have w1 := w64s hka hm
    have i1 : (0 : Int) ≤ (k : Int) := by omega
    have hc := Value_pure (l.getD k default)
    have hlen := blanks_len (l.take k) sc
    have hlen2 : (l.take k).length ≤ k := List.length_take_le _ _
    have hr := room_small (show (blanksM (l.take k) sc).length + 1 ≤ 100000000000 by omega) (show 72 ≤ 1000 by omega)
    cases he : ((l.getD k default).at'.sc == sc)
    · have hs : blanksM (l.take (k + 1)) sc = blanksM (l.take k) sc := by
        rw [take_snoc hka (d := default)]
        simp only [blanksM, List.filter_append, List.filter_cons, he, Bool.false_eq_true, if_false, List.filter_nil, List.append_nil]
      simp only [go_sem, flds, h, getD_fld hka, fld, i1, he, w1]
      exact ⟨⟨k + 1, by omega⟩, by show l.length - (k + 1) < l.length - k; omega, ⟨rfl, forall_cons rfl (forall_cons (by show PV.sl _ _ = PV.sl _ _; rw [hs]) (forall_cons rfl (forall_cons rfl (forall_cons rfl (forall_nil))))), forall_nil, forall_cons (by show some _ = some _; rw [hs]) forall_nil⟩⟩
    · have hs : blanksM (l.take (k + 1)) sc = blanksM (l.take k) sc ++ [valueM (l.getD k default)] := by
        rw [take_snoc hka (d := default)]
        simp only [blanksM, List.filter_append, List.filter_cons, he, if_true, List.filter_nil, List.map_append, List.map_cons, List.map_nil]
      generalize hv : valueM (l.getD k default) = v at *
      simp only [go_sem, flds, h, getD_fld hka, fld, i1, he]
      refine vCall_of (hc) ?_ ?_ ?_; (focus simp only [go_sem, fld]); (focus simp only [go_sem, fld])
      simp only [go_sem, ent, sized_ent, sized_ent1, atoms_ent1, hr, w1]
      exact ⟨⟨k + 1, by omega⟩, by show l.length - (k + 1) < l.length - k; omega, ⟨rfl, forall_cons rfl (forall_cons (by show PV.sl _ _ = PV.sl _ _; rw [hs, ← map_ent]) (forall_cons rfl (forall_cons rfl (forall_cons rfl (forall_nil))))), forall_nil, forall_cons (by show some _ = some _; rw [hs, List.length_append]; rfl) forall_nil⟩⟩
  · obtain rfl : k = l.length := by omega
    simp only [go_sem, h, ents, List.take_length]

theorem blankDoc_dids (l : List En) : (doc ⟨l, []⟩).dids = [] := by simp only [doc, PV.dids, PV.didsL, didsL_ent, List.map_nil, List.append_nil]
set_option maxHeartbeats 1000000 in
theorem Blank_pure (l : List Fd) (hl : l.length ≤ 1000000) : PL.Pure Try.prog 52 [flds l] (doc ⟨blanksM l 0, []⟩) := by
  have hc := blanks_pure l 0 hl
  refine PL.Pure.of_v Try.func52 (by decide) rfl Try.ntmps52 Try.results52 (by simp) (blankDoc_dids _) ?_
  simp only [go_sem, flds]
  refine vCall_of (hc) ?_ ?_ ?_; (focus simp only [go_sem, flds]); (focus simp only [go_sem, flds])
  simp only [go_sem, ents, doc]
def rootL : List Fd := [⟨⟨0, [], [99, 111, 117, 112, 111, 110]⟩, 2, [], [], 0⟩, ⟨⟨1, [], [110, 111, 116, 101]⟩, 2, [], [], 0⟩, ⟨⟨1, [], [113, 116, 121]⟩, 1, [], [], 1⟩,
  ⟨⟨1, [], [115, 105, 122, 101]⟩, 3, [109, 101, 100, 105, 117, 109], [[115, 109, 97, 108, 108], [109, 101, 100, 105, 117, 109], [108, 97, 114, 103, 101]], 0⟩, ⟨⟨1, [], [116, 97, 103, 115]⟩, 4, [], [], 0⟩]
theorem sized_fld (l : List Fd) : Sized 7 (l.map fld) := fun e he => by
  obtain ⟨x, _, rfl⟩ := List.mem_map.1 he; rfl
theorem didsL_fld (l : List Fd) : PV.didsL (l.map fld) = [] := by
  induction l with
  | nil => rfl
  | cons e l ih => rw [List.map_cons, PV.didsL, ih]; simp only [fld, PV.dids, PV.didsL, didsL_str, List.append_nil]
theorem flds_dids (l : List Fd) : (flds l).dids = [] := by simp only [flds, PV.dids, didsL_fld]
set_option maxRecDepth 20000 in
set_option maxHeartbeats 4000000 in
theorem Root_pure : PL.Pure Try.prog 37 [] (flds rootL) := by
  refine PL.Pure.of_v Try.func37 (by decide) rfl Try.ntmps37 Try.results37 (by simp) (flds_dids _) ?_
  simp (config := { maxSteps := 2000000 }) only [go_sem, room_small, flds, fld, rootL]
end Go.Proofs.Ytmnibpgmcgdfpaa
