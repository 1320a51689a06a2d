/- Contracts of functions and laws of this seat, each for every input that it names: lemmas of the proof. -/
import Derived.Test.YthingdchjkhfbaaGreatVXAf
import Derived.Test.YthingdchjkhfbaaGreatVPlH
import Derived.Laws.LoneSync
import Derived.Test.YthingdchjkhfbaaGreatVXBb
import Derived.Test.YthingdchjkhfbaaGreatVXAw
set_option linter.unusedSimpArgs false
set_option linter.unusedVariables false
set_option linter.unusedSimpArgs false
set_option linter.unusedVariables false
namespace Go.Proofs.YthingdchjkhfbaaGreat
open Go.PL
@[go_sem] theorem tcv_if : tcv Tryz.prog 2 210 = .flt .f64 := by kernel_rfl
@[go_sem] theorem tcv_fi : tcv Tryz.prog 210 2 = .int .i64 := by kernel_rfl
theorem ge_flt (a b : Int) : ((some (compare a b) : Option Ordering) == some .gt || (some (compare a b) : Option Ordering) == some .eq) = decide (b ≤ a) := by
 rcases Int.lt_trichotomy a b with h | h | h
 ·rw [Int.compare_eq_lt.2 h, decide_eq_false (by omega)]; rfl
 ·subst h; rw [Int.compare_eq_eq.2 rfl, decide_eq_true (by omega)]; rfl
 ·rw [Int.compare_eq_gt.2 h, decide_eq_true (by omega)]; rfl
theorem le_flt (a b : Int) : ((some (compare a b) : Option Ordering) == some .lt || (some (compare a b) : Option Ordering) == some .eq) = decide (a ≤ b) := by
 rcases Int.lt_trichotomy a b with h | h | h
 ·rw [Int.compare_eq_lt.2 h, decide_eq_true (by omega)]; rfl
 ·subst h; rw [Int.compare_eq_eq.2 rfl, decide_eq_true (by omega)]; rfl
 ·rw [Int.compare_eq_gt.2 h, decide_eq_false (by omega)]; rfl
theorem ne_flt (a b : Int) : ((some (compare a b) : Option Ordering) != some .eq) = decide (a ≠ b) := by
 rcases Int.lt_trichotomy a b with h | h | h
 ·rw [Int.compare_eq_lt.2 h, decide_eq_true (by omega)]; rfl
 ·subst h; rw [Int.compare_eq_eq.2 rfl, decide_eq_false (by omega)]; rfl
 ·rw [Int.compare_eq_gt.2 h, decide_eq_true (by omega)]; rfl
theorem most_fl : (4841369599423283200 : Nat) = flOf 4503599627370496 := by decide +kernel
theorem mneg_fl : Op.negFloat .f64 4841369599423283200 = flOf (-4503599627370496) := by decide +kernel
theorem xt_name : Extern.findNext Tryz.f191 = none := by kernel_rfl
theorem xt_find : Extern.find Tryz.f191 = some (Extern.MathFloor.toIntegral "math.archTrunc" .zero) := by kernel_rfl
theorem trunc_run (n : Int) (h : n.natAbs < 2 ^ 53) (P : Program) (w : World) : (Extern.MathFloor.toIntegral "math.archTrunc" .zero #[.float .f64 (flOf n)]).run P w = .ok (.float .f64 (flOf n)) w := by
 obtain ⟨s, m, p, hp⟩ := number_fl n h
 have ht := trunc_fl n h
 rw [hp] at ht
 show (Extern.MathFloor.toIntegral.match_1 (fun _ => Sem Value) (FloatKind.f64.decode (flOf n)) _ _ : Sem Value).run P w = _
 rw [hp]
 show Result.ok (Value.float .f64 (FloatKind.f64.encode ((Ieee.Datum.number s m p).integral .zero))) w = _
 rw [ht]
theorem archTrunc_xt (n : Int) (h : n.natAbs < 2 ^ 53) : PL.Xt Tryz.prog 191 [.flt .f64 (flOf n)] (.flt .f64 (flOf n)) := by
 intro w S vs hl hr
 match vs, hl with
 | [v], _ =>
  have h0 := hr 0 (by simp)
  simp only [List.getD_cons_zero] at h0
  cases h0
  refine ⟨.float .f64 (flOf n), .flt _ _, ?_⟩
  rw [run_callFunc_extern Tryz.func191 (by decide) rfl xt_name xt_find]
  show ((Extern.MathFloor.toIntegral "math.archTrunc" .zero #[.float .f64 (flOf n)]).run Tryz.prog w).andThen _ = _
  rw [trunc_run n h]
  rfl
set_option maxHeartbeats 4000000 in
theorem Trunc_pure (n : Int) (h : n.natAbs < 2 ^ 53) : PL.Pure Tryz.prog 188 [.flt .f64 (flOf n)] (.flt .f64 (flOf n)) := by
 have hT := archTrunc_xt n h
 refine PL.Pure.of_v Tryz.func188 (by decide) rfl Tryz.ntmps188 Tryz.results188 (by simp) rfl ?_
 simp only [go_sem]
 refine vCall_xt hT ?_ ?_ ?_
 ·simp only [go_sem]
 ·simp only [go_sem]
 simp only [go_sem]
set_option maxHeartbeats 4000000 in
theorem zparts_pure (a b : Nat) : PL.Pure Tryz.prog 187 [.cpx .f64 a b] (.agg [.flt .f64 a, .flt .f64 b]) := by
 refine PL.Pure.of_v Tryz.func187 (by decide) rfl Tryz.ntmps187 Tryz.results187 (by simp) rfl ?_
 simp only [go_sem]
def Lim (n : Int) : Prop := -4503599627370496 ≤ n ∧ n ≤ 4503599627370496
theorem Lim.abs {n : Int} (h : Lim n) : n.natAbs < 2 ^ 53 := by have := h.1; have := h.2; omega
set_option maxRecDepth 20000 in
set_option maxHeartbeats 8000000 in
theorem within_pure (a b : Int) (ha : Lim a) (hb : Lim b) : PL.Pure Tryz.prog 176 [.cpx .f64 (flOf a) (flOf b), .flt .f64 4841369599423283200] (.bool true) := by
 have hZ := zparts_pure (flOf a) (flOf b)
 have hTa := Trunc_pure a ha.abs
 have hTb := Trunc_pure b hb.abs
 have m1 : (4503599627370496 : Int).natAbs < 2 ^ 53 := by decide
 have m2 : (-4503599627370496 : Int).natAbs < 2 ^ 53 := by decide
 have ga : (FloatKind.f64.format.order (flOf a) (Op.negFloat .f64 4841369599423283200) == some .gt || FloatKind.f64.format.order (flOf a) (Op.negFloat .f64 4841369599423283200) == some .eq) = true := by
  rw [mneg_fl, order_fl _ _ ha.abs m2, ge_flt]; simpa using ha.1
 have gb : (FloatKind.f64.format.order (flOf b) (Op.negFloat .f64 4841369599423283200) == some .gt || FloatKind.f64.format.order (flOf b) (Op.negFloat .f64 4841369599423283200) == some .eq) = true := by
  rw [mneg_fl, order_fl _ _ hb.abs m2, ge_flt]; simpa using hb.1
 have la : (FloatKind.f64.format.order (flOf a) 4841369599423283200 == some .lt || FloatKind.f64.format.order (flOf a) 4841369599423283200 == some .eq) = true := by
  rw [most_fl, order_fl _ _ ha.abs m1, le_flt]; simpa using ha.2
 have lb : (FloatKind.f64.format.order (flOf b) 4841369599423283200 == some .lt || FloatKind.f64.format.order (flOf b) 4841369599423283200 == some .eq) = true := by
  rw [most_fl, order_fl _ _ hb.abs m1, le_flt]; simpa using hb.2
 have na : (FloatKind.f64.format.order (flOf a) (flOf a) != some .eq) = false := by rw [order_fl _ _ ha.abs ha.abs, ne_flt]; simp
 have nb : (FloatKind.f64.format.order (flOf b) (flOf b) != some .eq) = false := by rw [order_fl _ _ hb.abs hb.abs, ne_flt]; simp
 have c0 : ((0 : Nat) : Int) = 0 := rfl
 have c1 : ((1 : Nat) : Int) = 1 := rfl
 have c2 : ((2 : Nat) : Int) = 2 := rfl
 have w0 : IntKind.i64.wrap (0 + 1) = ((1 : Nat) : Int) := by decide
 have w1 : IntKind.i64.wrap (1 + 1) = ((2 : Nat) : Int) := by decide
 refine PL.Pure.of_v Tryz.func176 (by decide) rfl Tryz.ntmps176 Tryz.results176 (by simp) rfl ?_
 simp only [go_sem]
 refine vCall_of (hZ) ?_ ?_ ?_; iterate 2 simp only [go_sem]
 simp only [go_sem]
 refine vLoopM (ι := { k : Nat // k ≤ 2 }) 29 (fun x => [(1, .flt .f64 4841369599423283200), (8, .agg [.flt .f64 (flOf a), .flt .f64 (flOf b)]), (9, .int .i64 (x.1 : Int))]) (fun x => []) (fun x => []) (fun x => 2 - x.1) ⟨0, by omega⟩
  ⟨rfl, (fcs rfl (fcs rfl (fcs rfl fnl))), fnl, fnl⟩ (fun x => ⟨fcs rfl (fcs (by simp [PV.ids, PV.idsL]) (fcs rfl fnl)), fnl⟩) (fun x => ?_)
 obtain ⟨k, hk⟩ := x
 simp only
 obtain rfl | rfl | rfl : k = 0 ∨ k = 1 ∨ k = 2 := by omega
 ·simp only [go_sem, c0, List.getD_cons_zero, ga, la, Bool.not_true]
  refine vCall_of (hTa) ?_ ?_ ?_; iterate 2 simp only [go_sem]
  simp only [go_sem, na, w0]
  exact ⟨⟨1, by omega⟩, by show 2 - 1 < 2 - 0; omega, ⟨rfl, (fcs rfl (fcs rfl (fcs rfl fnl))), fnl, fnl⟩⟩
 ·simp only [go_sem, c1, List.getD_cons_zero, List.getD_cons_succ, gb, lb, Bool.not_true]
  refine vCall_of (hTb) ?_ ?_ ?_; iterate 2 simp only [go_sem]
  simp only [go_sem, nb, w1]
  exact ⟨⟨2, by omega⟩, by show 2 - 2 < 2 - 1; omega, ⟨rfl, (fcs rfl (fcs rfl (fcs rfl fnl))), fnl, fnl⟩⟩
 ·simp only [go_sem, c2]
set_option maxHeartbeats 4000000 in
theorem Whole_pure (a b : Int) (ha : Lim a) (hb : Lim b) : PL.Pure Tryz.prog 150 [.cpx .f64 (flOf a) (flOf b)] (.bool true) := by
 have hW := within_pure a b ha hb
 refine PL.Pure.of_v Tryz.func150 (by decide) rfl Tryz.ntmps150 Tryz.results150 (by simp) rfl ?_
 simp only [go_sem]
 refine vCall_of (hW) ?_ ?_ ?_; iterate 2 simp only [go_sem]
 simp only [go_sem]
set_option maxHeartbeats 4000000 in
theorem Parts_pure (a b : Int) (ha : Lim a) (hb : Lim b) : PL.Pure Tryz.prog 111 [.cpx .f64 (flOf a) (flOf b)] (.tup [.int .i64 a, .int .i64 b, .int .i64 0]) := by
 have hW := Whole_pure a b ha hb
 have ta := toInt_fl a ha.abs
 have tb := toInt_fl b hb.abs
 have l1 : IntKind.i64.min ≤ a := by rw [show IntKind.i64.min = -9223372036854775808 by decide]; have := ha.1; omega
 have l2 : a ≤ IntKind.i64.max := by rw [show IntKind.i64.max = 9223372036854775807 by decide]; have := ha.2; omega
 have l3 : IntKind.i64.min ≤ b := by rw [show IntKind.i64.min = -9223372036854775808 by decide]; have := hb.1; omega
 have l4 : b ≤ IntKind.i64.max := by rw [show IntKind.i64.max = 9223372036854775807 by decide]; have := hb.2; omega
 refine PL.Pure.of_v Tryz.func111 (by decide) rfl Tryz.ntmps111 Tryz.results111 (by simp) (rfl) ?_
 simp only [go_sem]
 refine vCall_of (hW) ?_ ?_ ?_; iterate 2 simp only [go_sem]
 simp only [go_sem, ta, tb, l1, l2, l3, l4]
def fitsI (n : Int) : Bool := decide (-4503599627370496 ≤ n) && decide (n ≤ 4503599627370496)
theorem fitsI_iff {n : Int} : fitsI n = true ↔ Lim n := by simp [fitsI, Lim]
set_option maxHeartbeats 4000000 in
theorem fits_pure (n : Int) : PL.Pure Tryz.prog 149 [.int .i64 n] (.bool (fitsI n)) := by
 refine PL.Pure.of_v Tryz.func149 (by decide) rfl Tryz.ntmps149 Tryz.results149 (by simp) rfl ?_
 simp only [go_sem]
 repeat' (first | (refine vGuard_t (fun h => ?_) (fun h => ?_) <;> (try simp only [go_sem, h])) | (refine vGuard_f (fun h => ?_) (fun h => ?_) <;> (try simp only [go_sem, h])) | (refine vCond_b (fun h => ?_) (fun h => ?_) <;> (try simp only [go_sem, h])) | ((refine vDrawQ (by kernel_rfl) (by kernel_rfl) ?_); (try simp only [go_sem])))
 all_goals (simp_all [fitsI]; try omega)
set_option maxHeartbeats 4000000 in
theorem Of_pure (a b : Int) : PL.Pure Tryz.prog 109 [.int .i64 a, .int .i64 b] (if fitsI a = true ∧ fitsI b = true then .tup [.cpx .f64 (flOf a) (flOf b), .int .i64 0] else .tup [.cpx .f64 0 0, .int .i64 3]) := by
 have hA := fits_pure a
 have hB := fits_pure b
 have ea : FloatKind.f64.nearest a = flOf a := rfl
 have eb : FloatKind.f64.nearest b = flOf b := rfl
 cases h1 : fitsI a
 ·rw [h1] at hA
  simp only [Bool.false_eq_true, false_and, if_false]
  refine PL.Pure.of_v Tryz.func109 (by decide) rfl Tryz.ntmps109 Tryz.results109 (by simp) (rfl) ?_
  simp only [go_sem]
  refine vCall_of (hA) ?_ ?_ ?_; iterate 2 simp only [go_sem]
  simp only [go_sem]
 ·rw [h1] at hA
  cases h2 : fitsI b
  ·rw [h2] at hB
   simp only [Bool.false_eq_true, and_false, if_false]
   refine PL.Pure.of_v Tryz.func109 (by decide) rfl Tryz.ntmps109 Tryz.results109 (by simp) (rfl) ?_
   simp only [go_sem]
   refine vCall_of (hA) ?_ ?_ ?_; iterate 2 simp only [go_sem]
   simp only [go_sem]
   refine vCall_of (hB) ?_ ?_ ?_; iterate 2 simp only [go_sem]
   simp only [go_sem]
  ·rw [h2] at hB
   simp only [and_self, if_true]
   refine PL.Pure.of_v Tryz.func109 (by decide) rfl Tryz.ntmps109 Tryz.results109 (by simp) (rfl) ?_
   simp only [go_sem]
   refine vCall_of (hA) ?_ ?_ ?_; iterate 2 simp only [go_sem]
   simp only [go_sem]
   refine vCall_of (hB) ?_ ?_ ?_; iterate 2 simp only [go_sem]
   simp only [go_sem, ea, eb]
set_option maxHeartbeats 4000000 in
theorem away_pure (n : Int) : PL.Pure Tryz.prog 190 [.int .i64 n] (.bool (!fitsI n)) := by
 refine PL.Pure.of_v Tryz.func190 (by decide) rfl Tryz.ntmps190 Tryz.results190 (by simp) rfl ?_
 simp only [go_sem]
 repeat' (first | (refine vGuard_t (fun h => ?_) (fun h => ?_) <;> (try simp only [go_sem, h])) | (refine vGuard_f (fun h => ?_) (fun h => ?_) <;> (try simp only [go_sem, h])) | (refine vCond_b (fun h => ?_) (fun h => ?_) <;> (try simp only [go_sem, h])) | ((refine vDrawQ (by kernel_rfl) (by kernel_rfl) ?_); (try simp only [go_sem])))
 all_goals (simp_all [fitsI]; try omega)
 all_goals (rw [← decide_not]; congr 1; simp only [eq_iff_iff]; omega)
end Go.Proofs.YthingdchjkhfbaaGreat
set_option linter.unusedSimpArgs false
set_option linter.unusedVariables false
set_option linter.unusedSimpArgs false
set_option linter.unusedVariables false
namespace Go.Proofs.YthingdchjkhfbaaGreat
open Go.PL
end Go.Proofs.YthingdchjkhfbaaGreat
set_option linter.unusedSimpArgs false
set_option linter.unusedVariables false
set_option linter.unusedSimpArgs false
set_option linter.unusedVariables false
namespace Go.Proofs.YthingdchjkhfbaaGreat
open Go.PL
end Go.Proofs.YthingdchjkhfbaaGreat
set_option linter.unusedSimpArgs false
set_option linter.unusedVariables false
set_option linter.unusedSimpArgs false
set_option linter.unusedVariables false
namespace Go.Proofs.YthingdchjkhfbaaGreat
open Go.PL
structure Nd where
 e : Eg
 st : Int
 sch : List Fd
 dep : Int
 deriving DecidableEq, Inhabited
def nd (n : Nd) : PV := .agg [.int .i64 n.e.id.r, .int .i64 n.e.id.n, .int .i64 n.e.par.r, .int .i64 n.e.par.n, .int .i64 n.e.ln.kind, .int .i64 n.e.ln.at'.sc, .str n.e.ln.at'.gr, .str n.e.ln.at'.nm, .str n.e.ln.nm, .str n.e.ln.ot, .int .i64 n.e.ln.fac, .int .i64 n.e.ln.fd.at'.sc, .str n.e.ln.fd.at'.gr, .str n.e.ln.fd.at'.nm, .int .i64 n.e.ln.fd.kind, .str n.e.ln.fd.df, .sl .no (n.e.ln.fd.cases'.map .str), .int .i64 n.e.ln.fd.worth, .sl .no (n.e.ln.fo.map pr), .sl .no (n.e.ln.ba.map pr), .int .i64 n.st, .sl .no (n.sch.map fld), .int .i64 n.dep]
def kts (l : List Nd) : List PV := l.map fun n => tg n.e.id
def nds (l : List Nd) : List PV := l.map nd
def tr (l : List Nd) : PV := .rptr [.rmap (kts l) (nds l)]
def mc (l : List Nd) : MapC := ⟨kts l, nds l⟩
theorem didsL_pr (l : List Pr) : PV.didsL (l.map pr) = [] := by
 induction l with
 | nil => rfl
 | cons t l ih => simp only [List.map_cons, PV.didsL, ih, pr, PV.dids, List.append_nil]
theorem eg_dids (e : Eg) : (eg e).dids = [] := by simp only [eg, PV.dids, PV.didsL, didsL_pr, didsL_str, List.append_nil]
theorem nd_dids (n : Nd) : (nd n).dids = [] := by simp only [nd, PV.dids, PV.didsL, didsL_pr, didsL_fld, didsL_str, List.append_nil]
theorem tg_dids (t : Tg) : (tg t).dids = [] := by simp only [tg, PV.dids, PV.didsL, List.append_nil]
theorem nomapL_map {α : Type} (f : α → PV) (h : ∀ x, (f x).nomap = true) (l : List α) : PV.nomapL (l.map f) = true := nomapL_iff.2 fun c hc => by
 obtain ⟨x, _, rfl⟩ := List.mem_map.1 hc; exact h x
theorem nomapL_str (l : List Str) : PV.nomapL (l.map .str) = true := nomapL_map _ (fun _ => rfl) l
theorem nomapL_pr (l : List Pr) : PV.nomapL (l.map pr) = true := nomapL_map _ (fun _ => rfl) l
theorem nomap_fld (f : Fd) : (fld f).nomap = true := by simp only [fld, PV.nomap, PV.nomapL, nomapL_str, Bool.and_self]
theorem nomap_nd (n : Nd) : (nd n).nomap = true := by simp only [nd, PV.nomap, PV.nomapL, nomapL_pr, nomapL_str, nomapL_map _ nomap_fld, Bool.and_self]
theorem findP_tags (id : Tg) : ∀ (l : List Nd) (i : Nat), findP [.int, .int] [.int .i64 id.r, .int .i64 id.n] (kts l) i = some ((l.findIdx? fun n => decide (id = n.e.id)).map (· + i))
 | [], i => rfl
 | n :: l, i => by
  have ih := findP_tags id l (i + 1)
  simp only [kts, tg] at ih
  simp only [kts, List.map_cons, tg, findP, eqLeaves, eqLeaf, if_true, List.findIdx?_cons, Bool.and_true, tg_fold]
  by_cases h : id = n.e.id
  ·simp [h]
  ·simp only [h, decide_false, ih]
   simp only [Bool.false_eq_true, if_false, Option.map_map]
   congr 2
   funext x
   simp; omega
theorem findP_tags0 (id : Tg) (l : List Nd) : findP [.int, .int] [.int .i64 id.r, .int .i64 id.n] (kts l) 0 = some (l.findIdx? fun n => decide (id = n.e.id)) := by
 rw [findP_tags]; congr 1; cases List.findIdx? (fun n => decide (id = n.e.id)) l <;> rfl
def findN (l : List Nd) (id : Tg) : Option Nd := l.find? fun n => decide (id = n.e.id)
theorem findIdx_find {l : List Nd} {id : Tg} : (l.findIdx? fun n => decide (id = n.e.id)) = none ↔ findN l id = none := by
 unfold findN; rw [List.findIdx?_eq_none_iff, List.find?_eq_none]; simp
theorem findIdx_some {l : List Nd} {id : Tg} {i : Nat} (h : (l.findIdx? fun n => decide (id = n.e.id)) = some i) : i < l.length ∧ findN l id = some (l.getD i default) := by
 rw [List.findIdx?_eq_some_iff_getElem] at h
 obtain ⟨h1, h2, h3⟩ := h
 refine ⟨h1, ?_⟩
 unfold findN
 rw [List.find?_eq_some_iff_getElem]
 exact ⟨by rw [getD_lt h1]; exact h2, i, h1, (getD_lt h1).symm, fun j hj => by simpa using h3 j hj⟩
theorem getD_nd {l : List Nd} {i : Nat} (h : i < l.length) : (nds l).getD i .any = nd (l.getD i default) := getD_map h
theorem getD_kt {l : List Nd} {i : Nat} (h : i < l.length) : (kts l).getD i .any = tg (l.getD i default).e.id := getD_map (d := default) h
set_option maxHeartbeats 1000000 in
theorem TRoot_pure : PL.Pure Tryz.prog 92 [] (tg default) := by
 refine PL.Pure.of_v Tryz.func92 (by decide) rfl Tryz.ntmps92 Tryz.results92 (by simp) (rfl) ?_
 simp only [go_sem]
 rfl
set_option maxRecDepth 20000 in
set_option maxHeartbeats 4000000 in
theorem SRoot_pure : PL.Pure Tryz.prog 93 [] (flds rootL) := by
 refine PL.Pure.of_v Tryz.func93 (by decide) rfl Tryz.ntmps93 Tryz.results93 (by simp) (flds_dids _) ?_
 simp only [go_sem]
 repeat ((with_reducible refine And.intro ?_ ?_); (focus ((repeat' (with_reducible apply And.intro)) <;> (first | omega | exact room_small (by omega) (by omega) | exact room_small (by simp; omega) (by omega) | exact sized_str _ | (simp; done) | (simp; omega)))))
 rfl
def rootN : Nd := ⟨default, 2, rootL, 0⟩
def atN (l : List Nd) (id : Tg) : Nd := if id = default then rootN else (findN l id).getD default
theorem mk_new : PL.Mk Tryz.prog 28 [] (fun b => .rptr [.mref b]) (mc []) := by
 refine PL.Mk.of_v Tryz.func28 (by decide) rfl Tryz.ntmps28 Tryz.results28 (by simp) (fun b => rfl) ?_
 simp only [go_sem]
 intro b
 exact ⟨b, 3, [.mref b], rfl, by simp, rfl, by simp [mc, kts, nds], rfl⟩
set_option maxRecDepth 20000 in
set_option maxHeartbeats 8000000 in
theorem at_pure (l : List Nd) (id : Tg) : PL.Pure Tryz.prog 49 [tr l, tg id] (nd (atN l id)) := by
 unfold atN
 by_cases h : id = default
 ·rw [if_pos h]
  subst h
  refine PL.Pure.of_v Tryz.func49 (by decide) rfl Tryz.ntmps49 Tryz.results49 (by simp) (nd_dids _) ?_
  simp only [go_sem, tr, tg]
  refine vDrawQ (by kernel_rfl) (by kernel_rfl) ?_
  simp only [go_sem]
  refine vCall_of (TRoot_pure) ?_ ?_ ?_; iterate 2 simp only [go_sem, tg]
  simp only [go_sem, tg]
  refine vCall_of (SRoot_pure) ?_ ?_ ?_; iterate 2 simp only [go_sem, tg]
  simp only [go_sem, flds]
  rfl
 ·rw [if_neg h]
  have hd : decide (id = default) = false := by simpa using h
  refine PL.Pure.of_v Tryz.func49 (by decide) rfl Tryz.ntmps49 Tryz.results49 (by simp) (nd_dids _) ?_
  simp only [go_sem, tr, tg]
  refine vDrawQ (by kernel_rfl) (by kernel_rfl) ?_
  simp only [go_sem]
  refine vCall_of (TRoot_pure) ?_ ?_ ?_; iterate 2 simp only [go_sem, tg]
  simp only [go_sem, tg, tg_fold, hd]
  cases hf : l.findIdx? (fun n => decide (id = n.e.id)) with
  | none =>
   have := findIdx_find.1 hf
   refine vDrawQ (by kernel_rfl) (by kernel_rfl) ?_
   simp only [go_sem, findP_tags0, hf, this, Option.getD_none]
   rfl
  | some i =>
   obtain ⟨h1, h2⟩ := findIdx_some hf
   refine vDrawQ (by kernel_rfl) (by kernel_rfl) ?_
   simp only [go_sem, findP_tags0, hf, h2, Option.getD_some, getD_nd h1, nd]
end Go.Proofs.YthingdchjkhfbaaGreat
set_option linter.unusedSimpArgs false
set_option linter.unusedVariables false
set_option linter.unusedSimpArgs false
set_option linter.unusedVariables false
namespace Go.Proofs.YthingdchjkhfbaaGreat
open Go.PL
def findE (m : List Eg) (id : Tg) : Option Eg := m.find? fun e => decide (id = e.id)
theorem findE_id {m : List Eg} {id : Tg} {e : Eg} (h : findE m id = some e) : id = e.id ∧ e ∈ m := by
 unfold findE at h
 exact ⟨by simpa using List.find?_some h, List.mem_of_find?_eq_some h⟩
inductive Way (m : List Eg) : Tg → List Eg → Prop
 | root : Way m default []
 | step {id : Tg} {e : Eg} {w : List Eg} (hn : id ≠ default) (he : findE m id = some e) (hw : Way m e.par w) : Way m id (w ++ [e])
theorem Way.fn {m : List Eg} {id : Tg} {w w' : List Eg} (h : Way m id w) (h' : Way m id w') : w = w' := by
 induction h generalizing w' with
 | root => cases h' with
  | root => rfl
  | step hn he hw => exact absurd rfl hn
 | step hn he hw ih =>
  cases h' with
  | root => exact absurd rfl hn
  | step hn' he' hw' =>
   rw [he] at he'
   cases he'
   rw [ih hw']
theorem Way.mem {m : List Eg} {id : Tg} {w : List Eg} (h : Way m id w) : ∀ e ∈ w, e ∈ m := by
 induction h with
 | root => intro e he; cases he
 | step hn he hw ih =>
  intro x hx
  rcases List.mem_append.1 hx with hx | hx
  ·exact ih x hx
  ·rw [List.mem_singleton.1 hx]; exact (findE_id he).2
theorem Way.take {m : List Eg} {id : Tg} {w : List Eg} (h : Way m id w) : ∀ k (hk : k < w.length), Way m (w[k]).id (w.take (k + 1)) := by
 induction h with
 | root => intro k hk; simp at hk
 | step hn he hw ih =>
  rename_i id e w
  intro k hk
  by_cases hlt : k < w.length
  ·rw [List.getElem_append_left hlt, List.take_append_of_le_length (by omega)]
   exact ih k hlt
  ·have hk' : k = w.length := by simp at hk; omega
   subst hk'
   have e1 : (w ++ [e])[w.length]'hk = e := by simp
   rw [e1, List.take_of_length_le (by simp)]
   have := (findE_id he).1
   rw [← this]
   exact .step hn he hw
theorem Way.nodup {m : List Eg} {id : Tg} {w : List Eg} (h : Way m id w) : w.Nodup := by
 rw [List.nodup_iff_pairwise_ne, List.pairwise_iff_getElem]
 intro i j hi hj hij e
 have h1 := h.take i hi
 have h2 := h.take j hj
 rw [e] at h1
 have := congrArg List.length (h1.fn h2)
 simp at this
 omega
theorem nodup_le {α : Type} [DecidableEq α] : ∀ {l m : List α}, l.Nodup → (∀ x ∈ l, x ∈ m) → l.length ≤ m.length
 | [], _, _, _ => Nat.zero_le _
 | a :: l, m, hn, hs => by
  rw [List.nodup_cons] at hn
  have ha : a ∈ m := hs a (by simp)
  have := nodup_le (l := l) (m := m.erase a) hn.2 (fun x hx => (List.mem_erase_of_ne (fun e : x = a => hn.1 (e ▸ hx))).2 (hs x (by simp [hx])))
  rw [List.length_erase_of_mem ha] at this
  have : 0 < m.length := List.length_pos_of_mem ha
  simp only [List.length_cons]
  omega
theorem Way.len {m : List Eg} {id : Tg} {w : List Eg} (h : Way m id w) : w.length ≤ m.length := nodup_le h.nodup h.mem
def wayF (m : List Eg) : Nat → Tg → List Eg → Option (List Eg)
 | 0, _, _ => none
 | k + 1, id, way => if id = default then some way else match findE m id with
  | none => none
  | some e => wayF m k e.par (e :: way)
def wayM (m : List Eg) (id : Tg) : Option (List Eg) := wayF m (m.length + 1) id []
theorem wayF_sound {m : List Eg} : ∀ {k : Nat} {id : Tg} {acc r : List Eg}, wayF m k id acc = some r → ∃ w, Way m id w ∧ r = w ++ acc
 | 0, _, _, _, h => by cases h
 | k + 1, id, acc, r, h => by
  unfold wayF at h
  split at h
  ·rename_i hd
   cases h
   exact ⟨[], hd ▸ .root, rfl⟩
  ·rename_i hd
   split at h
   ·cases h
   ·rename_i e he
    obtain ⟨w, h1, h2⟩ := wayF_sound h
    exact ⟨w ++ [e], .step hd he h1, by rw [h2]; simp⟩
theorem wayF_full {m : List Eg} {id : Tg} {w : List Eg} (h : Way m id w) : ∀ {k : Nat} (acc : List Eg), w.length < k → wayF m k id acc = some (w ++ acc) := by
 induction h with
 | root => intro k acc hk; cases k with
  | zero => simp at hk
  | succ k => simp [wayF]
 | step hn he hw ih =>
  intro k acc hk
  cases k with
  | zero => simp at hk
  | succ k =>
   simp only [List.length_append, List.length_cons, List.length_nil] at hk
   simp only [wayF, if_neg hn, he]
   rw [ih _ (by omega)]
   simp
theorem wayM_iff {m : List Eg} {id : Tg} {w : List Eg} : wayM m id = some w ↔ Way m id w := by
 constructor
 ·intro h
  obtain ⟨w', h1, h2⟩ := wayF_sound h
  rw [h2, List.append_nil]; exact h1
 ·intro h
  have := wayF_full h (k := m.length + 1) [] (by have := h.len; omega)
  simpa [wayM] using this
def foldA : List Eg → List Fd → Option (List Fd)
 | [], fs => some fs
 | e :: es, fs => if (applyM fs e.ln).2 ≠ 0 then none else foldA es (applyM fs e.ln).1
theorem foldA_append (w v : List Eg) (fs : List Fd) : foldA (w ++ v) fs = (foldA w fs).bind (foldA v) := by
 induction w generalizing fs with
 | nil => rfl
 | cons e w ih =>
  simp only [List.cons_append, foldA]
  split
  ·rfl
  ·exact ih _
def nodeW (e : Eg) : Option (List Eg) → Nd
 | none => ⟨e, 1, [], 0⟩
 | some w => match foldA w rootL with
  | none => ⟨e, 3, [], 0⟩
  | some fs => ⟨e, 2, fs, w.length⟩
def nodeOf (m : List Eg) (e : Eg) : Nd := nodeW e (wayM m e.id)
def treeOf (m : List Eg) : List Nd := m.map (nodeOf m)
def pend (e : Eg) : Nd := ⟨e, 1, [], 0⟩
theorem nodeOf_e (m : List Eg) (e : Eg) : (nodeOf m e).e = e := by
 unfold nodeOf nodeW; split
 ·rfl
 ·split <;> rfl
structure Apart (m : List Eg) : Prop where
 d : (m.map (·.id)).Nodup
 n : ∀ e ∈ m, e.id ≠ default
theorem Apart.find {m : List Eg} (h : Apart m) {e : Eg} (he : e ∈ m) : findE m e.id = some e := by
 obtain ⟨l1, l2, rfl⟩ := List.append_of_mem he
 have hd := h.d
 simp only [List.map_append, List.map_cons] at hd
 unfold findE
 rw [List.find?_append]
 have hno : l1.find? (fun x => decide (e.id = x.id)) = none := by
  rw [List.find?_eq_none]
  intro x hx hh
  have hx' : x.id ∈ l1.map (·.id) := List.mem_map.2 ⟨x, hx, rfl⟩
  have := (List.nodup_append.1 hd).2.2 _ hx' e.id (by simp)
  exact this (by simpa using Eq.symm (by simpa using hh))
 rw [hno]
 simp
def Semi (m : List Eg) (c : List Nd) : Prop := c.length = m.length ∧ ∀ i, i < m.length → c.getD i default = pend (m.getD i default) ∨ (c.getD i default = nodeOf m (m.getD i default) ∧ (c.getD i default).st ≠ 1)
theorem nodeOf_st {m : List Eg} {e : Eg} : (nodeOf m e).st = 1 ↔ wayM m e.id = none := by
 unfold nodeOf nodeW
 split
 ·rename_i h; simp [h]
 ·rename_i w h
  constructor
  ·intro hh; split at hh <;> cases hh
  ·intro hh; rw [h] at hh; cases hh
theorem nodeOf_none {m : List Eg} {e : Eg} (h : wayM m e.id = none) : nodeOf m e = pend e := by simp [nodeOf, nodeW, h, pend]
theorem pend_st (e : Eg) : (pend e).st = 1 := rfl
theorem semi_e {m : List Eg} {c : List Nd} (h : Semi m c) {i : Nat} (hi : i < m.length) : (c.getD i default).e = m.getD i default := by
 rcases h.2 i hi with h | ⟨h, _⟩
 ·rw [h]; rfl
 ·rw [h, nodeOf_e]
theorem semi_map {m : List Eg} {c : List Nd} (h : Semi m c) : c.map (·.e) = m := by
 apply List.ext_getElem
 ·simp [h.1]
 ·intro i h1 h2
  have := semi_e h h2
  rw [getD_lt (by have := h.1; omega), getD_lt h2] at this
  simpa using this
theorem find_semi {m : List Eg} {c : List Nd} (h : Semi m c) (id : Tg) : (findN c id).map (·.e) = findE m id := by
 rw [← semi_map h]
 unfold findN findE
 rw [List.find?_map]
 rfl
theorem mem_semi {m : List Eg} {c : List Nd} (h : Semi m c) {n : Nd} (hn : n ∈ c) : n.e ∈ m ∧ (n = pend n.e ∨ (n = nodeOf m n.e ∧ n.st ≠ 1)) := by
 obtain ⟨i, hi, rfl⟩ := List.getElem_of_mem hn
 have hi' : i < m.length := by have := h.1; omega
 have e := semi_e h hi'
 have k := h.2 i hi'
 rw [getD_lt hi] at e k
 rw [e]
 exact ⟨getD_mem hi', k⟩
def nextN (e : Eg) (up : Nd) : Nd := if up.st = 2 ∧ (applyM up.sch e.ln).2 = 0 then ⟨e, 2, (applyM up.sch e.ln).1, up.dep + 1⟩ else ⟨e, 3, [], 0⟩
theorem next_of_way {m : List Eg} {e : Eg} {w : List Eg} (ha : Apart m) (he : e ∈ m) (hw : Way m e.par w) : nodeOf m e = match foldA w rootL with
  | none => ⟨e, 3, [], 0⟩
  | some fs => nextN e ⟨default, 2, fs, w.length⟩ := by
 have h1 : Way m e.id (w ++ [e]) := .step (ha.n e he) (ha.find he) hw
 have h2 := wayM_iff.2 h1
 unfold nodeOf nodeW
 rw [h2]
 simp only [foldA_append]
 cases hf : foldA w rootL with
 | none => rfl
 | some fs =>
  simp only [Option.bind_some, foldA, nextN]
  by_cases hz : (applyM fs e.ln).2 = 0
  ·simp [hz]
  ·simp [hz]
theorem semi_next {m : List Eg} {c : List Nd} (ha : Apart m) (h : Semi m c) {e : Eg} (he : e ∈ m) (hu : (atN c e.par).st = 2 ∨ (atN c e.par).st = 3) : nextN e (atN c e.par) = nodeOf m e ∧ (nodeOf m e).st ≠ 1 := by
 have key : ∃ w, Way m e.par w ∧ nextN e (atN c e.par) = (match foldA w rootL with | none => ⟨e, 3, [], 0⟩ | some fs => nextN e ⟨default, 2, fs, w.length⟩) := by
  unfold atN at hu ⊢
  by_cases hp : e.par = default
  ·rw [if_pos hp]
   exact ⟨[], hp ▸ .root, by simp [foldA, nextN, rootN]⟩
  ·rw [if_neg hp] at hu ⊢
   cases hf : findN c e.par with
   | none => rw [hf] at hu; simp at hu; rcases hu with hu | hu <;> cases hu
   | some n =>
    rw [hf] at hu
    simp only [Option.getD_some] at hu ⊢
    have hn : n ∈ c := List.mem_of_find?_eq_some hf
    obtain ⟨hm, hk⟩ := mem_semi h hn
    rcases hk with hk | ⟨hk, hst⟩
    ·rw [hk] at hu; simp [pend] at hu
    ·have hid : e.par = n.e.id := by
      have := find_semi h e.par
      rw [hf] at this
      exact (findE_id this.symm).1
     cases hw : wayM m n.e.id with
     | none => rw [hk] at hst; exact absurd (nodeOf_st.2 hw) hst
     | some w =>
      refine ⟨w, by rw [hid]; exact wayM_iff.1 hw, ?_⟩
      have hnw : n = nodeW n.e (some w) := by rw [← hw]; exact hk
      unfold nodeW at hnw
      cases hfa : foldA w rootL with
      | none =>
       simp only [hfa] at hnw
       rw [hnw]; simp [nextN]
      | some fs =>
       simp only [hfa] at hnw
       rw [hnw]; simp [nextN]
 obtain ⟨w, hw, hk⟩ := key
 refine ⟨by rw [hk, next_of_way ha he hw], fun hh => ?_⟩
 have := nodeOf_st.1 hh
 have h2 := wayM_iff.2 (Way.step (ha.n e he) (ha.find he) hw)
 rw [this] at h2
 cases h2
theorem semi_done {m : List Eg} {c : List Nd} (ha : Apart m) (h : Semi m c) (hd : ∀ i, i < m.length → (c.getD i default).st ≠ 1 ∨ ((atN c (m.getD i default).par).st ≠ 2 ∧ (atN c (m.getD i default).par).st ≠ 3)) : c = treeOf m := by
 have hs : ∀ {id w}, Way m id w → ∀ e, findE m id = some e → id ≠ default → nodeOf m e ∈ c := by
  intro id w hw
  induction hw with
  | root => intro e _ hn; exact absurd rfl hn
  | step hn he hw ih =>
   rename_i id e w
   intro e' he' _
   rw [he] at he'
   cases he'
   obtain ⟨hid, hem⟩ := findE_id he
   obtain ⟨i, hi, rfl⟩ := List.getElem_of_mem hem
   have hic : i < c.length := by have := h.1; omega
   rcases h.2 i hi with hk | ⟨hk, _⟩
   ·exfalso
    rcases hd i hi with h1 | ⟨h1, h2⟩
    ·rw [hk] at h1; exact h1 rfl
    ·rw [getD_lt hi] at h1 h2
     by_cases hp : (m[i]).par = default
     ·simp [atN, hp, rootN] at h1
     ·cases hfe : findE m (m[i]).par with
      | none =>
       generalize (m[i]).par = p at *
       cases hw with
       | root => exact hp rfl
       | step _ hq _ => rw [hfe] at hq; cases hq
      | some q =>
       have hq := ih q hfe hp
       obtain ⟨hqid, hqm⟩ := findE_id hfe
       have hfn : findN c (m[i]).par = some (nodeOf m q) := by
        have h3 := find_semi h (m[i]).par
        rw [hfe] at h3
        cases hx : findN c (m[i]).par with
        | none => rw [hx] at h3; cases h3
        | some n =>
         rw [hx] at h3
         simp only [Option.map_some, Option.some.injEq] at h3
         have hn : n ∈ c := List.mem_of_find?_eq_some hx
         have hcd : (c.map (·.e.id)).Nodup := by
          have := semi_map h
          have h4 := ha.d
          rw [← this, List.map_map] at h4
          exact h4
         congr 1
         obtain ⟨a1, b1, ha1⟩ := List.getElem_of_mem hn
         obtain ⟨a2, b2, ha2⟩ := List.getElem_of_mem hq
         have hee : n.e.id = (nodeOf m q).e.id := by rw [nodeOf_e, h3]
         have : a1 = a2 := by
          rw [List.nodup_iff_pairwise_ne, List.pairwise_iff_getElem] at hcd
          rcases Nat.lt_trichotomy a1 a2 with hlt | heq | hlt
          ·exact absurd (show (c.map (·.e.id))[a1]'(by simpa using b1) = (c.map (·.e.id))[a2]'(by simpa using b2) by rw [List.getElem_map, List.getElem_map, ha1, ha2]; exact hee) (hcd a1 a2 (by simpa using b1) (by simpa using b2) hlt)
          ·exact heq
          ·exact absurd (show (c.map (·.e.id))[a2]'(by simpa using b2) = (c.map (·.e.id))[a1]'(by simpa using b1) by rw [List.getElem_map, List.getElem_map, ha1, ha2]; exact hee.symm) (hcd a2 a1 (by simpa using b2) (by simpa using b1) hlt)
         subst this
         rw [← ha1, ← ha2]
       have hst : (nodeOf m q).st ≠ 1 := fun hh => by
        have := nodeOf_st.1 hh
        rw [← hqid] at this
        rw [wayM_iff.2 hw] at this
        cases this
       have hst2 : (nodeOf m q).st = 2 ∨ (nodeOf m q).st = 3 := by
        revert hst
        unfold nodeOf nodeW
        split
        ·exact fun h => absurd rfl h
        ·split
         ·exact fun _ => .inr rfl
         ·exact fun _ => .inl rfl
       have hat : atN c (m[i]).par = nodeOf m q := by simp [atN, hp, hfn]
       rw [hat] at h1 h2
       rcases hst2 with h5 | h5
       ·exact h1 h5
       ·exact h2 h5
   ·rw [getD_lt hic, getD_lt hi] at hk
    rw [← hk]; exact List.getElem_mem hic
 apply List.ext_getElem
 ·simp [treeOf, h.1]
 ·intro i h1 h2
  have hi : i < m.length := by have := h.1; omega
  have hk := h.2 i hi
  rw [getD_lt h1, getD_lt hi] at hk
  simp only [treeOf, List.getElem_map]
  rcases hk with hk | ⟨hk, _⟩
  ·rw [hk]
   cases hw : wayM m (m[i]).id with
   | none => exact (nodeOf_none hw).symm
   | some w =>
    exfalso
    have hem : m[i] ∈ m := List.getElem_mem hi
    have hmem := hs (wayM_iff.1 hw) _ (ha.find hem) (ha.n _ hem)
    obtain ⟨j, hj, hje⟩ := List.getElem_of_mem hmem
    have hjm : j < m.length := by have := h.1; omega
    have h3 := semi_e h hjm
    rw [getD_lt hj, getD_lt hjm, hje, nodeOf_e] at h3
    have hij : i = j := by
     have hd := ha.d
     rw [List.nodup_iff_pairwise_ne, List.pairwise_iff_getElem] at hd
     rcases Nat.lt_trichotomy i j with hlt | heq | hlt
     ·exact absurd (show (m.map (·.id))[i]'(by simpa using hi) = (m.map (·.id))[j]'(by simpa using hjm) by rw [List.getElem_map, List.getElem_map, h3]) (hd i j (by simpa using hi) (by simpa using hjm) hlt)
     ·exact heq
     ·exact absurd (show (m.map (·.id))[j]'(by simpa using hjm) = (m.map (·.id))[i]'(by simpa using hi) by rw [List.getElem_map, List.getElem_map, h3]) (hd j i (by simpa using hjm) (by simpa using hi) hlt)
    subst hij
    rw [hk] at hje
    have := congrArg Nd.st hje
    rw [pend_st] at this
    have := nodeOf_st.1 this.symm
    rw [hw] at this
    cases this
  ·exact hk
end Go.Proofs.YthingdchjkhfbaaGreat
set_option linter.unusedSimpArgs false
set_option linter.unusedVariables false
set_option linter.unusedSimpArgs false
set_option linter.unusedVariables false
namespace Go.Proofs.YthingdchjkhfbaaGreat
open Go.PL
theorem okGoAll : ∀ (rs : List Rf) {l m : List Fd}, OkFs l → goAll rs l = some m → OkFs m
 | [], l, m, h, e => by cases e; exact h
 | r :: rs, l, m, h, e => by
  unfold goAll at e
  split at e
  ·cases e
  ·exact okGoAll rs (okWithout h r) e
theorem okComeAll : ∀ (fs : List Fd) {l m : List Fd}, (∀ f ∈ fs, f.cases'.length ≤ 1000000) → OkFs l → comeAll fs l = some m → OkFs m
 | [], l, m, _, h, e => by cases e; exact h
 | f :: fs, l, m, hc, h, e => by
  unfold comeAll at e
  split at e
  ·cases e
  ·exact okComeAll fs (fun g hg => hc g (by simp [hg])) (okWith h (hc f (by simp))) e
theorem okApply {l : List Fd} {x : Ln} (hl : OkFs l) (hx : OkLn x) : OkFs (applyM l x).1 := by
 have o0 : OkFs [] := ⟨Nat.zero_le _, fun f hf => by cases hf⟩
 unfold applyM
 split
 ·exact o0
 split
 ·exact o0
 ·rename_i m hm
  unfold applyR at hm
  split at hm
  ·cases hm
  ·obtain ⟨k, h1, h2⟩ := Option.bind_eq_some_iff.1 hm
   exact okComeAll _ (okArr hl hx).c (okGoAll _ hl h1) h2
theorem okRoot : OkFs rootL := ⟨by decide, by decide⟩
theorem okFold : ∀ (w : List Eg) {fs gs : List Fd}, (∀ e ∈ w, OkLn e.ln) → OkFs fs → foldA w fs = some gs → OkFs gs
 | [], fs, gs, _, h, e => by cases e; exact h
 | e :: w, fs, gs, hw, h, he => by
  unfold foldA at he
  split at he
  ·cases he
  ·exact okFold w (fun x hx => hw x (by simp [hx])) (okApply h (hw e (by simp))) he
theorem okNode {m : List Eg} (hm : ∀ e ∈ m, OkLn e.ln) (e : Eg) : OkFs (nodeOf m e).sch ∧ 0 ≤ (nodeOf m e).dep ∧ (nodeOf m e).dep ≤ (m.length : Int) := by
 have o0 : OkFs [] := ⟨Nat.zero_le _, fun f hf => by cases hf⟩
 unfold nodeOf nodeW
 split
 ·exact ⟨o0, by simp, by simp⟩
 ·rename_i w hw
  have h1 := wayM_iff.1 hw
  split
  ·exact ⟨o0, by simp, by simp⟩
  ·rename_i fs hf
   have := h1.len
   exact ⟨okFold w (fun x hx => hm x (h1.mem x hx)) okRoot hf, by simp, by simp only; omega⟩
theorem okAtN {m : List Eg} {c : List Nd} (hm : ∀ e ∈ m, OkLn e.ln) (h : Semi m c) (id : Tg) : OkFs (atN c id).sch ∧ 0 ≤ (atN c id).dep ∧ (atN c id).dep ≤ (m.length : Int) := by
 have o0 : OkFs [] := ⟨Nat.zero_le _, fun f hf => by cases hf⟩
 unfold atN
 split
 ·exact ⟨okRoot, by simp [rootN], by simp [rootN]⟩
 ·cases hf : findN c id with
  | none => exact ⟨o0, Int.le_refl _, by show (0 : Int) ≤ _; omega⟩
  | some n =>
   simp only [Option.getD_some]
   obtain ⟨_, hk⟩ := mem_semi h (List.mem_of_find?_eq_some hf)
   rcases hk with hk | ⟨hk, _⟩
   ·rw [hk]; exact ⟨o0, by simp [pend], by simp [pend]⟩
   ·rw [hk]; exact okNode hm _
theorem semi_ids {m : List Eg} {c : List Nd} (ha : Apart m) (h : Semi m c) {i : Nat} (hi : i < c.length) : (c.findIdx? fun n => decide ((c.getD i default).e.id = n.e.id)) = some i := by
 rw [List.findIdx?_eq_some_iff_getElem]
 refine ⟨hi, by rw [getD_lt hi]; simp, fun j hj => ?_⟩
 have hd := ha.d
 rw [← semi_map h, List.map_map] at hd
 rw [List.nodup_iff_pairwise_ne, List.pairwise_iff_getElem] at hd
 have := hd j i (by simp; omega) (by simpa using hi) hj
 simp only [List.getElem_map, Function.comp] at this
 rw [getD_lt hi]
 simp only [decide_eq_true_eq]
 exact fun e => this e.symm
theorem semi_set {m : List Eg} {c : List Nd} (ha : Apart m) (h : Semi m c) {i : Nat} (hi : i < c.length) (hu : (atN c (c.getD i default).e.par).st = 2 ∨ (atN c (c.getD i default).e.par).st = 3) : Semi m (c.set i (nextN (c.getD i default).e (atN c (c.getD i default).e.par))) := by
 have him : i < m.length := by have := h.1; omega
 have he := semi_e h him
 rw [he] at hu ⊢
 obtain ⟨k1, k2⟩ := semi_next ha h (getD_mem him) hu
 rw [k1]
 refine ⟨by simp [h.1], fun j hj => ?_⟩
 by_cases e : i = j
 ·subst e
  right
  have : (c.set i (nodeOf m (m.getD i default))).getD i default = nodeOf m (m.getD i default) := by
   rw [getD_lt (by simpa using hi)]; simp
  rw [this]
  exact ⟨rfl, k2⟩
 ·have : (c.set i (nodeOf m (m.getD i default))).getD j default = c.getD j default := by
   simp only [List.getD_eq_getElem?_getD, List.getElem?_set_ne e]
  rw [this]
  exact h.2 j hj
def pends (c : List Nd) : Nat := c.countP fun n => decide (n.st = 1)
theorem pends_set {c : List Nd} {i : Nat} {n : Nd} (hi : i < c.length) (h1 : (c.getD i default).st = 1) (h2 : n.st ≠ 1) : pends (c.set i n) < pends c := by
 unfold pends
 rw [getD_lt hi] at h1
 rw [List.countP_set hi]
 have : 0 < c.countP fun n => decide (n.st = 1) := List.countP_pos_iff.2 ⟨c[i], List.getElem_mem hi, by simpa using h1⟩
 simp only [h1, decide_true, if_true, h2, decide_false, Bool.false_eq_true, if_false]
 omega
theorem kts_set (c : List Nd) (i : Nat) (n : Nd) (h : n.e = (c.getD i default).e) : kts (c.set i n) = kts c := by
 unfold kts
 apply List.ext_getElem?
 intro j
 simp only [List.getElem?_map, List.getElem?_set]
 by_cases e : i = j
 ·subst e
  by_cases hi : i < c.length
  ·simp [hi, h, getD_lt hi]
  ·simp [hi]
 ·simp [e]
theorem nds_set (c : List Nd) (i : Nat) (n : Nd) : nds (c.set i n) = (nds c).set i (nd n) := by simp [nds, List.map_set]
theorem nextN_e (e : Eg) (u : Nd) : (nextN e u).e = e := by unfold nextN; split <;> rfl
theorem nextN_st (e : Eg) (u : Nd) : (nextN e u).st ≠ 1 := by unfold nextN; split <;> simp
theorem kts_len (c : List Nd) : (kts c).length = c.length := by simp [kts]
structure Seen (n : Nat) (p : Nat → Prop) where
 l : List Nat
 d : l.Nodup
 h : ∀ i ∈ l, i < n ∧ p i
def Seen.next {n : Nat} {p : Nat → Prop} (s : Seen n p) (i : Nat) (hi : i < n) (hp : p i) (hn : i ∉ s.l) : Seen n p :=
 ⟨s.l ++ [i], by rw [List.nodup_append]; exact ⟨s.d, by simp, fun a ha b hb => by simp at hb; subst hb; exact fun e => hn (e ▸ ha)⟩, fun j hj => by
  rcases List.mem_append.1 hj with hj | hj
  ·exact s.h j hj
  ·simp at hj; subst hj; exact ⟨hi, hp⟩⟩
theorem Seen.len {n : Nat} {p : Nat → Prop} (s : Seen n p) : s.l.length ≤ n := by
 have := nodup_le (m := List.range n) s.d (fun i hi => List.mem_range.2 (s.h i hi).1)
 simpa using this
end Go.Proofs.YthingdchjkhfbaaGreat
