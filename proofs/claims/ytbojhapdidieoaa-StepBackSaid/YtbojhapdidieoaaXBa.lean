/- Contracts of functions and laws of this seat, each for every input that it names: lemmas of the proof. -/
import Derived.Test.YtbojhapdidieoaaXAy
import Derived.Test.YtbojhapdidieoaaPlF
set_option linter.unusedSimpArgs false
set_option linter.unusedVariables false
set_option linter.unusedSimpArgs false
set_option linter.unusedVariables false
namespace Go.Proofs.Ytbojhapdidieoaa
open Go.PL
theorem didsL_tg (l : List Tg) : PV.didsL (l.map tg) = [] := by
  induction l with
  | nil => rfl
  | cons t l ih => simp only [List.map_cons, PV.didsL, ih, tg, PV.dids, List.append_nil]
theorem sized_tg (l : List Tg) : Sized 2 (l.map tg) := fun e he => by
  obtain ⟨x, _, rfl⟩ := List.mem_map.1 he; rfl
theorem atoms_tg (l : List Tg) : Atoms (l.map tg) := fun e he => by
  obtain ⟨x, _, rfl⟩ := List.mem_map.1 he; rfl
def tagB (t : Tg) : Bool := decide (1 ≤ t.r) && (decide (t.r ≤ 6) && (decide (1 ≤ t.n) && decide (t.n ≤ 1099511627776)))
set_option maxHeartbeats 1000000 in
theorem Tag_pure (t : Tg) : PL.Pure Try.prog 117 [tg t] (.bool (tagB t)) := by
  refine PL.Pure.of_v Try.func117 (by decide) rfl Try.ntmps117 Try.results117 (by simp) rfl ?_
  simp only [go_sem, reduceIte, Nat.reduceEqDiff, reduceCtorEq, Nat.reduceLT, Nat.reduceAdd, Nat.reduceSub, Nat.reduceMul, Nat.reduceLeDiff, Int.reduceLT, Int.reduceLE, Int.reduceToNat, Int.reduceEq, Int.reduceAdd, Int.reduceSub, Int.reduceNeg, Int.reduceBNe, Int.reduceBEq, tg]
  repeat' (first | (refine vGuard_t (fun h => ?_) (fun h => ?_) <;> (try simp only [go_sem, reduceIte, Nat.reduceEqDiff, reduceCtorEq, Nat.reduceLT, Nat.reduceAdd, Nat.reduceSub, Nat.reduceMul, Nat.reduceLeDiff, Int.reduceLT, Int.reduceLE, Int.reduceToNat, Int.reduceEq, Int.reduceAdd, Int.reduceSub, Int.reduceNeg, Int.reduceBNe, Int.reduceBEq, h])) | (refine vGuard_f (fun h => ?_) (fun h => ?_) <;> (try simp only [go_sem, reduceIte, Nat.reduceEqDiff, reduceCtorEq, Nat.reduceLT, Nat.reduceAdd, Nat.reduceSub, Nat.reduceMul, Nat.reduceLeDiff, Int.reduceLT, Int.reduceLE, Int.reduceToNat, Int.reduceEq, Int.reduceAdd, Int.reduceSub, Int.reduceNeg, Int.reduceBNe, Int.reduceBEq, h])) | (refine vCond_b (fun h => ?_) (fun h => ?_) <;> (try simp only [go_sem, reduceIte, Nat.reduceEqDiff, reduceCtorEq, Nat.reduceLT, Nat.reduceAdd, Nat.reduceSub, Nat.reduceMul, Nat.reduceLeDiff, Int.reduceLT, Int.reduceLE, Int.reduceToNat, Int.reduceEq, Int.reduceAdd, Int.reduceSub, Int.reduceNeg, Int.reduceBNe, Int.reduceBEq, h])) | ((refine vDrawQ (by kernel_rfl) (by kernel_rfl) ?_); (try simp only [go_sem, reduceIte, Nat.reduceEqDiff, reduceCtorEq, Nat.reduceLT, Nat.reduceAdd, Nat.reduceSub, Nat.reduceMul, Nat.reduceLeDiff, Int.reduceLT, Int.reduceLE, Int.reduceToNat, Int.reduceEq, Int.reduceAdd, Int.reduceSub, Int.reduceNeg, Int.reduceBNe, Int.reduceBEq])))
  all_goals (simp_all [tagB] <;> (intros; omega))
def tlessB (a b : Tg) : Bool := if a.r = b.r then decide (a.n < b.n) else decide (a.r < b.r)
set_option maxHeartbeats 1000000 in
theorem TLess_pure (a b : Tg) : PL.Pure Try.prog 143 [tg a, tg b] (.bool (tlessB a b)) := by
  refine PL.Pure.of_v Try.func143 (by decide) rfl Try.ntmps143 Try.results143 (by simp) rfl ?_
  simp only [go_sem, reduceIte, Nat.reduceEqDiff, reduceCtorEq, Nat.reduceLT, Nat.reduceAdd, Nat.reduceSub, Nat.reduceMul, Nat.reduceLeDiff, Int.reduceLT, Int.reduceLE, Int.reduceToNat, Int.reduceEq, Int.reduceAdd, Int.reduceSub, Int.reduceNeg, Int.reduceBNe, Int.reduceBEq, tg]
  repeat' (first | (refine vGuard_t (fun h => ?_) (fun h => ?_) <;> (try simp only [go_sem, reduceIte, Nat.reduceEqDiff, reduceCtorEq, Nat.reduceLT, Nat.reduceAdd, Nat.reduceSub, Nat.reduceMul, Nat.reduceLeDiff, Int.reduceLT, Int.reduceLE, Int.reduceToNat, Int.reduceEq, Int.reduceAdd, Int.reduceSub, Int.reduceNeg, Int.reduceBNe, Int.reduceBEq, h])) | (refine vGuard_f (fun h => ?_) (fun h => ?_) <;> (try simp only [go_sem, reduceIte, Nat.reduceEqDiff, reduceCtorEq, Nat.reduceLT, Nat.reduceAdd, Nat.reduceSub, Nat.reduceMul, Nat.reduceLeDiff, Int.reduceLT, Int.reduceLE, Int.reduceToNat, Int.reduceEq, Int.reduceAdd, Int.reduceSub, Int.reduceNeg, Int.reduceBNe, Int.reduceBEq, h])) | (refine vCond_b (fun h => ?_) (fun h => ?_) <;> (try simp only [go_sem, reduceIte, Nat.reduceEqDiff, reduceCtorEq, Nat.reduceLT, Nat.reduceAdd, Nat.reduceSub, Nat.reduceMul, Nat.reduceLeDiff, Int.reduceLT, Int.reduceLE, Int.reduceToNat, Int.reduceEq, Int.reduceAdd, Int.reduceSub, Int.reduceNeg, Int.reduceBNe, Int.reduceBEq, h])) | ((refine vDrawQ (by kernel_rfl) (by kernel_rfl) ?_); (try simp only [go_sem, reduceIte, Nat.reduceEqDiff, reduceCtorEq, Nat.reduceLT, Nat.reduceAdd, Nat.reduceSub, Nat.reduceMul, Nat.reduceLeDiff, Int.reduceLT, Int.reduceLE, Int.reduceToNat, Int.reduceEq, Int.reduceAdd, Int.reduceSub, Int.reduceNeg, Int.reduceBNe, Int.reduceBEq])))
  all_goals simp_all [tlessB]
end Go.Proofs.Ytbojhapdidieoaa

set_option linter.unusedSimpArgs false
set_option linter.unusedVariables false
set_option linter.unusedSimpArgs false
set_option linter.unusedVariables false
namespace Go.Proofs.Ytbojhapdidieoaa
open Go.PL
structure Nd where
  e : Eg
  st : Int
  sch : List Fd
  dep : Int
  deriving DecidableEq, Inhabited
def nd (n : Nd) : PV := .agg [.int .i64 n.e.id.r, .int .i64 n.e.id.n, .int .i64 n.e.par.r, .int .i64 n.e.par.n, .int .i64 n.e.ln.kind, .int .i64 n.e.ln.at'.sc, .str n.e.ln.at'.gr, .str n.e.ln.at'.nm, .str n.e.ln.nm, .str n.e.ln.ot, .int .i64 n.e.ln.fac, .int .i64 n.e.ln.fd.at'.sc, .str n.e.ln.fd.at'.gr, .str n.e.ln.fd.at'.nm, .int .i64 n.e.ln.fd.kind, .str n.e.ln.fd.df, .sl .no (n.e.ln.fd.cases'.map .str), .int .i64 n.e.ln.fd.worth, .sl .no (n.e.ln.fo.map pr), .sl .no (n.e.ln.ba.map pr), .int .i64 n.st, .sl .no (n.sch.map fld), .int .i64 n.dep]
def kts (l : List Nd) : List PV := l.map fun n => tg n.e.id
def nds (l : List Nd) : List PV := l.map nd
def mc (l : List Nd) : MapC := ⟨kts l, nds l⟩
end Go.Proofs.Ytbojhapdidieoaa

set_option linter.unusedSimpArgs false
set_option linter.unusedVariables false
set_option linter.unusedSimpArgs false
set_option linter.unusedVariables false
namespace Go.Proofs.Ytbojhapdidieoaa
open Go.PL
def findE (m : List Eg) (id : Tg) : Option Eg := m.find? fun e => decide (id = e.id)
theorem findE_id {m : List Eg} {id : Tg} {e : Eg} (h : findE m id = some e) : id = e.id ∧ e ∈ m := by
  unfold findE at h
  exact ⟨by simpa using List.find?_some h, List.mem_of_find?_eq_some h⟩
/-- the edges from the root to a tag -/
inductive Way (m : List Eg) : Tg → List Eg → Prop
  | root : Way m default []
  | step {id : Tg} {e : Eg} {w : List Eg} (hn : id ≠ default) (he : findE m id = some e) (hw : Way m e.par w) : Way m id (w ++ [e])
theorem Way.fn {m : List Eg} {id : Tg} {w w' : List Eg} (h : Way m id w) (h' : Way m id w') : w = w' := by
  induction h generalizing w' with
  | root => cases h' with
    | root => rfl
    | step hn he hw => exact absurd rfl hn
  | step hn he hw ih =>
    cases h' with
    | root => exact absurd rfl hn
    | step hn' he' hw' =>
      rw [he] at he'
      cases he'
      rw [ih hw']
theorem Way.mem {m : List Eg} {id : Tg} {w : List Eg} (h : Way m id w) : ∀ e ∈ w, e ∈ m := by
  induction h with
  | root => intro e he; cases he
  | step hn he hw ih =>
    intro x hx
    rcases List.mem_append.1 hx with hx | hx
    · exact ih x hx
    · rw [List.mem_singleton.1 hx]; exact (findE_id he).2
/-- each part of a way is a way -/
theorem Way.take {m : List Eg} {id : Tg} {w : List Eg} (h : Way m id w) : ∀ k (hk : k < w.length), Way m (w[k]).id (w.take (k + 1)) := by
  induction h with
  | root => intro k hk; simp at hk
  | step hn he hw ih =>
    rename_i id e w
    intro k hk
    by_cases hlt : k < w.length
    · rw [List.getElem_append_left hlt, List.take_append_of_le_length (by omega)]
      exact ih k hlt
    · have hk' : k = w.length := by simp at hk; omega
      subst hk'
      have e1 : (w ++ [e])[w.length]'hk = e := by simp
      rw [e1, List.take_of_length_le (by simp)]
      have := (findE_id he).1
      rw [← this]
      exact .step hn he hw
theorem Way.nodup {m : List Eg} {id : Tg} {w : List Eg} (h : Way m id w) : w.Nodup := by
  rw [List.nodup_iff_pairwise_ne, List.pairwise_iff_getElem]
  intro i j hi hj hij e
  have h1 := h.take i hi
  have h2 := h.take j hj
  rw [e] at h1
  have := congrArg List.length (h1.fn h2)
  simp at this
  omega
theorem nodup_le {α : Type} [DecidableEq α] : ∀ {l m : List α}, l.Nodup → (∀ x ∈ l, x ∈ m) → l.length ≤ m.length
  | [], _, _, _ => Nat.zero_le _
  | a :: l, m, hn, hs => by
    rw [List.nodup_cons] at hn
    have ha : a ∈ m := hs a (by simp)
    have := nodup_le (l := l) (m := m.erase a) hn.2 (fun x hx => (List.mem_erase_of_ne (fun e : x = a => hn.1 (e ▸ hx))).2 (hs x (by simp [hx])))
    rw [List.length_erase_of_mem ha] at this
    have : 0 < m.length := List.length_pos_of_mem ha
    simp only [List.length_cons]
    omega
theorem Way.len {m : List Eg} {id : Tg} {w : List Eg} (h : Way m id w) : w.length ≤ m.length := nodup_le h.nodup h.mem
/-- unlike tags, none of them the root's -/
structure Apart (m : List Eg) : Prop where
  d : (m.map (·.id)).Nodup
  n : ∀ e ∈ m, e.id ≠ default
theorem Apart.find {m : List Eg} (h : Apart m) {e : Eg} (he : e ∈ m) : findE m e.id = some e := by
  obtain ⟨l1, l2, rfl⟩ := List.append_of_mem he
  have hd := h.d
  simp only [List.map_append, List.map_cons] at hd
  unfold findE
  rw [List.find?_append]
  have hno : l1.find? (fun x => decide (e.id = x.id)) = none := by
    rw [List.find?_eq_none]
    intro x hx hh
    have hx' : x.id ∈ l1.map (·.id) := List.mem_map.2 ⟨x, hx, rfl⟩
    have := (List.nodup_append.1 hd).2.2 _ hx' e.id (by simp)
    exact this (by simpa using Eq.symm (by simpa using hh))
  rw [hno]
  simp
end Go.Proofs.Ytbojhapdidieoaa

set_option linter.unusedSimpArgs false
set_option linter.unusedVariables false
set_option linter.unusedSimpArgs false
set_option linter.unusedVariables false
namespace Go.Proofs.Ytbojhapdidieoaa
open Go.PL
theorem okGoAll : ∀ (rs : List Rf) {l m : List Fd}, OkFs l → goAll rs l = some m → OkFs m
  | [], l, m, h, e => by cases e; exact h
  | r :: rs, l, m, h, e => by
    unfold goAll at e
    split at e
    · cases e
    · exact okGoAll rs (okWithout h r) e
theorem okComeAll : ∀ (fs : List Fd) {l m : List Fd}, (∀ f ∈ fs, f.cases'.length ≤ 1000000) → OkFs l → comeAll fs l = some m → OkFs m
  | [], l, m, _, h, e => by cases e; exact h
  | f :: fs, l, m, hc, h, e => by
    unfold comeAll at e
    split at e
    · cases e
    · exact okComeAll fs (fun g hg => hc g (by simp [hg])) (okWith h (hc f (by simp))) e
theorem okApply {l : List Fd} {x : Ln} (hl : OkFs l) (hx : OkLn x) : OkFs (applyM l x).1 := by
  have o0 : OkFs [] := ⟨Nat.zero_le _, fun f hf => by cases hf⟩
  unfold applyM
  split
  · exact o0
  split
  · exact o0
  · rename_i m hm
    unfold applyR at hm
    split at hm
    · cases hm
    · obtain ⟨k, h1, h2⟩ := Option.bind_eq_some_iff.1 hm
      exact okComeAll _ (okArr hl hx).c (okGoAll _ hl h1) h2
structure Seen (n : Nat) (p : Nat → Prop) where
  l : List Nat
  d : l.Nodup
  h : ∀ i ∈ l, i < n ∧ p i
def Seen.next {n : Nat} {p : Nat → Prop} (s : Seen n p) (i : Nat) (hi : i < n) (hp : p i) (hn : i ∉ s.l) : Seen n p :=
  ⟨s.l ++ [i], by rw [List.nodup_append]; exact ⟨s.d, by simp, fun a ha b hb => by simp at hb; subst hb; exact fun e => hn (e ▸ ha)⟩, fun j hj => by
    rcases List.mem_append.1 hj with hj | hj
    · exact s.h j hj
    · simp at hj; subst hj; exact ⟨hi, hp⟩⟩
theorem Seen.len {n : Nat} {p : Nat → Prop} (s : Seen n p) : s.l.length ≤ n := by
  have := nodup_le (m := List.range n) s.d (fun i hi => List.mem_range.2 (s.h i hi).1)
  simpa using this
end Go.Proofs.Ytbojhapdidieoaa

set_option linter.unusedSimpArgs false
set_option linter.unusedVariables false
set_option linter.unusedSimpArgs false
set_option linter.unusedVariables false
namespace Go.Proofs.Ytbojhapdidieoaa
open Go.PL
end Go.Proofs.Ytbojhapdidieoaa

set_option linter.unusedSimpArgs false
set_option linter.unusedVariables false
set_option linter.unusedSimpArgs false
set_option linter.unusedVariables false
namespace Go.Proofs.Ytbojhapdidieoaa
open Go.PL
def edgeB (e : Eg) : Bool := tagB e.id && ((decide (e.par = default) || (tagB e.par && !decide (e.par = e.id))) && (decide (1 ≤ e.ln.kind) && (decide (e.ln.kind ≤ 8) && rightLn e.ln)))
theorem tagB_default {t : Tg} (h : tagB t = true) : t ≠ default := fun e => by subst e; exact absurd h (by decide)
end Go.Proofs.Ytbojhapdidieoaa

set_option linter.unusedSimpArgs false
set_option linter.unusedVariables false
set_option linter.unusedSimpArgs false
set_option linter.unusedVariables false
namespace Go.Proofs.Ytbojhapdidieoaa
open Go.PL
def pairTop (p : Pr) : Bool := longB 200 p.fr' || longB 200 p.to'
def heavyP (l : List Pr) : Bool := decide (20 < (l.length : Int)) || l.any pairTop
set_option maxRecDepth 20000 in
set_option maxHeartbeats 8000000 in
theorem RHeavyP_pure (l : List Pr) (hl : l.length ≤ maxLen) : PL.Pure Try.prog 61 [prs l] (.bool (heavyP l)) := by
  by_cases h20 : (20 : Int) < (l.length : Int)
  · refine PL.Pure.of_v Try.func61 (by decide) rfl Try.ntmps61 Try.results61 (by simp) rfl ?_
    simp only [go_sem, reduceIte, Nat.reduceEqDiff, reduceCtorEq, Nat.reduceLT, Nat.reduceAdd, Nat.reduceSub, Nat.reduceMul, Nat.reduceLeDiff, Int.reduceLT, Int.reduceLE, Int.reduceToNat, Int.reduceEq, Int.reduceAdd, Int.reduceSub, Int.reduceNeg, Int.reduceBNe, Int.reduceBEq, prs, h20, heavyP, Bool.true_or]
  · have hx : heavyP l = l.any pairTop := by simp only [heavyP, h20, decide_false, Bool.false_or]
    rw [hx]
    refine PL.Pure.of_v Try.func61 (by decide) rfl Try.ntmps61 Try.results61 (by simp) rfl ?_
    simp only [go_sem, reduceIte, Nat.reduceEqDiff, reduceCtorEq, Nat.reduceLT, Nat.reduceAdd, Nat.reduceSub, Nat.reduceMul, Nat.reduceLeDiff, Int.reduceLT, Int.reduceLE, Int.reduceToNat, Int.reduceEq, Int.reduceAdd, Int.reduceSub, Int.reduceNeg, Int.reduceBNe, Int.reduceBEq, prs, h20]
    refine vLoopM (ι := { x : Nat // x ≤ (l).length ∧ (∀ j, j < x → pairTop (l.getD j default) = false) }) 29 (fun x => [(0, prs l), (3, .int .i64 (x.1 : Int))]) (fun x => []) (fun x => []) (fun x => (l).length - x.1) ⟨0, Nat.zero_le _, fun j hj => absurd hj (Nat.not_lt_zero j)⟩ ⟨rfl, (forall_cons rfl (forall_cons rfl forall_nil)), forall_nil, forall_nil⟩ (fun x => ⟨(forall_cons rfl (forall_cons rfl forall_nil)), forall_nil⟩) (fun x => ?_); obtain ⟨k, hk, hI⟩ := x; simp only at hk hI ⊢
    by_cases h : (k : Int) < (l.length : Int)
    · (have hka : k < (l).length := by omega); (have w1 := w64s hka (hl)); (have i1 : (0 : Int) ≤ (k : Int) := by omega)
      by_cases g1 : (200 : Int) < ((l.getD k default).fr'.length : Int)
      · have hz := any_true (p := pairTop) hka (d := default) (by simp only [pairTop, longB, Bool.or_eq_true, decide_eq_true_eq]; omega)
        simp only [go_sem, reduceIte, Nat.reduceEqDiff, reduceCtorEq, Nat.reduceLT, Nat.reduceAdd, Nat.reduceSub, Nat.reduceMul, Nat.reduceLeDiff, Int.reduceLT, Int.reduceLE, Int.reduceToNat, Int.reduceEq, Int.reduceAdd, Int.reduceSub, Int.reduceNeg, Int.reduceBNe, Int.reduceBEq, prs, h, getD_pr hka, pr, i1, g1, hz]
      · by_cases g2 : (200 : Int) < ((l.getD k default).to'.length : Int)
        · have hz := any_true (p := pairTop) hka (d := default) (by simp only [pairTop, longB, Bool.or_eq_true, decide_eq_true_eq]; omega)
          simp only [go_sem, reduceIte, Nat.reduceEqDiff, reduceCtorEq, Nat.reduceLT, Nat.reduceAdd, Nat.reduceSub, Nat.reduceMul, Nat.reduceLeDiff, Int.reduceLT, Int.reduceLE, Int.reduceToNat, Int.reduceEq, Int.reduceAdd, Int.reduceSub, Int.reduceNeg, Int.reduceBNe, Int.reduceBEq, prs, h, getD_pr hka, pr, i1, g1, g2, hz]
        · simp only [go_sem, reduceIte, Nat.reduceEqDiff, reduceCtorEq, Nat.reduceLT, Nat.reduceAdd, Nat.reduceSub, Nat.reduceMul, Nat.reduceLeDiff, Int.reduceLT, Int.reduceLE, Int.reduceToNat, Int.reduceEq, Int.reduceAdd, Int.reduceSub, Int.reduceNeg, Int.reduceBNe, Int.reduceBEq, prs, h, getD_pr hka, pr, i1, g1, g2, w1]
          exact ⟨⟨k + 1, by (try simp only); omega, below_succ hI (by simp only [pairTop, longB, Bool.or_eq_false_iff, decide_eq_false_iff_not]; omega)⟩, by show (l).length - (k + 1) < (l).length - k; omega, ⟨rfl, (forall_cons rfl (forall_cons rfl forall_nil)), forall_nil, forall_nil⟩⟩
    · have hz := any_false (p := pairTop) (d := default) (l := l) (fun j hj => hI j (by omega))
      simp only [go_sem, reduceIte, Nat.reduceEqDiff, reduceCtorEq, Nat.reduceLT, Nat.reduceAdd, Nat.reduceSub, Nat.reduceMul, Nat.reduceLeDiff, Int.reduceLT, Int.reduceLE, Int.reduceToNat, Int.reduceEq, Int.reduceAdd, Int.reduceSub, Int.reduceNeg, Int.reduceBNe, Int.reduceBEq, prs, h, hz]
theorem longI (s : Str) : longB 200 s = decide ((200 : Int) < (s.length : Int)) := rfl
def heavyLn (x : Ln) : Bool := longB 200 x.at'.gr || (longB 200 x.at'.nm || (longB 200 x.nm || (longB 200 x.ot || (heavyF x.fd || (heavyP x.fo || heavyP x.ba)))))
structure LenLn (x : Ln) : Prop where
  c : x.fd.cases'.length ≤ maxLen
  f : x.fo.length ≤ maxLen
  b : x.ba.length ≤ maxLen
set_option maxRecDepth 20000 in
set_option maxHeartbeats 8000000 in
theorem RHeavyLn_pure (x : Ln) (hx : LenLn x) : PL.Pure Try.prog 29 [lns x] (.bool (heavyLn x)) := by
  have hF := RHeavyF_pure x.fd hx.c
  have hP := RHeavyP_pure x.fo hx.f
  have hQ := RHeavyP_pure x.ba hx.b
  unfold heavyLn
  generalize heavyF x.fd = a1 at *
  generalize heavyP x.fo = a2 at *
  generalize heavyP x.ba = a3 at *
  refine PL.Pure.of_v Try.func29 (by decide) rfl Try.ntmps29 Try.results29 (by simp) rfl ?_
  simp only [go_sem, reduceIte, Nat.reduceEqDiff, reduceCtorEq, Nat.reduceLT, Nat.reduceAdd, Nat.reduceSub, Nat.reduceMul, Nat.reduceLeDiff, Int.reduceLT, Int.reduceLE, Int.reduceToNat, Int.reduceEq, Int.reduceAdd, Int.reduceSub, Int.reduceNeg, Int.reduceBNe, Int.reduceBEq, lns]
  repeat' (first | (refine vGuard_t (fun h => ?_) (fun h => ?_) <;> (try simp only [go_sem, reduceIte, Nat.reduceEqDiff, reduceCtorEq, Nat.reduceLT, Nat.reduceAdd, Nat.reduceSub, Nat.reduceMul, Nat.reduceLeDiff, Int.reduceLT, Int.reduceLE, Int.reduceToNat, Int.reduceEq, Int.reduceAdd, Int.reduceSub, Int.reduceNeg, Int.reduceBNe, Int.reduceBEq, h])) | (refine vGuard_f (fun h => ?_) (fun h => ?_) <;> (try simp only [go_sem, reduceIte, Nat.reduceEqDiff, reduceCtorEq, Nat.reduceLT, Nat.reduceAdd, Nat.reduceSub, Nat.reduceMul, Nat.reduceLeDiff, Int.reduceLT, Int.reduceLE, Int.reduceToNat, Int.reduceEq, Int.reduceAdd, Int.reduceSub, Int.reduceNeg, Int.reduceBNe, Int.reduceBEq, h])) | (refine vCond_b (fun h => ?_) (fun h => ?_) <;> (try simp only [go_sem, reduceIte, Nat.reduceEqDiff, reduceCtorEq, Nat.reduceLT, Nat.reduceAdd, Nat.reduceSub, Nat.reduceMul, Nat.reduceLeDiff, Int.reduceLT, Int.reduceLE, Int.reduceToNat, Int.reduceEq, Int.reduceAdd, Int.reduceSub, Int.reduceNeg, Int.reduceBNe, Int.reduceBEq, h])) | ((refine vCall_of (hF) ?_ ?_ ?_); (focus simp only [go_sem, reduceIte, Nat.reduceEqDiff, reduceCtorEq, Nat.reduceLT, Nat.reduceAdd, Nat.reduceSub, Nat.reduceMul, Nat.reduceLeDiff, Int.reduceLT, Int.reduceLE, Int.reduceToNat, Int.reduceEq, Int.reduceAdd, Int.reduceSub, Int.reduceNeg, Int.reduceBNe, Int.reduceBEq, fld, prs]); (focus exact rfl); (try simp only [go_sem, reduceIte, Nat.reduceEqDiff, reduceCtorEq, Nat.reduceLT, Nat.reduceAdd, Nat.reduceSub, Nat.reduceMul, Nat.reduceLeDiff, Int.reduceLT, Int.reduceLE, Int.reduceToNat, Int.reduceEq, Int.reduceAdd, Int.reduceSub, Int.reduceNeg, Int.reduceBNe, Int.reduceBEq])) | ((refine vCall_of (hP) ?_ ?_ ?_); (focus simp only [go_sem, reduceIte, Nat.reduceEqDiff, reduceCtorEq, Nat.reduceLT, Nat.reduceAdd, Nat.reduceSub, Nat.reduceMul, Nat.reduceLeDiff, Int.reduceLT, Int.reduceLE, Int.reduceToNat, Int.reduceEq, Int.reduceAdd, Int.reduceSub, Int.reduceNeg, Int.reduceBNe, Int.reduceBEq, fld, prs]); (focus exact rfl); (try simp only [go_sem, reduceIte, Nat.reduceEqDiff, reduceCtorEq, Nat.reduceLT, Nat.reduceAdd, Nat.reduceSub, Nat.reduceMul, Nat.reduceLeDiff, Int.reduceLT, Int.reduceLE, Int.reduceToNat, Int.reduceEq, Int.reduceAdd, Int.reduceSub, Int.reduceNeg, Int.reduceBNe, Int.reduceBEq])) | ((refine vCall_of (hQ) ?_ ?_ ?_); (focus simp only [go_sem, reduceIte, Nat.reduceEqDiff, reduceCtorEq, Nat.reduceLT, Nat.reduceAdd, Nat.reduceSub, Nat.reduceMul, Nat.reduceLeDiff, Int.reduceLT, Int.reduceLE, Int.reduceToNat, Int.reduceEq, Int.reduceAdd, Int.reduceSub, Int.reduceNeg, Int.reduceBNe, Int.reduceBEq, fld, prs]); (focus exact rfl); (try simp only [go_sem, reduceIte, Nat.reduceEqDiff, reduceCtorEq, Nat.reduceLT, Nat.reduceAdd, Nat.reduceSub, Nat.reduceMul, Nat.reduceLeDiff, Int.reduceLT, Int.reduceLE, Int.reduceToNat, Int.reduceEq, Int.reduceAdd, Int.reduceSub, Int.reduceNeg, Int.reduceBNe, Int.reduceBEq])) | ((refine vDrawQ (by kernel_rfl) (by kernel_rfl) ?_); (try simp only [go_sem, reduceIte, Nat.reduceEqDiff, reduceCtorEq, Nat.reduceLT, Nat.reduceAdd, Nat.reduceSub, Nat.reduceMul, Nat.reduceLeDiff, Int.reduceLT, Int.reduceLE, Int.reduceToNat, Int.reduceEq, Int.reduceAdd, Int.reduceSub, Int.reduceNeg, Int.reduceBNe, Int.reduceBEq])))
  all_goals (clear hF hP hQ hx; simp only [longI, *, Bool.true_or, Bool.or_true, Bool.false_or, Bool.or_false])
theorem okOfHeavy {x : Ln} (h : heavyLn x = false) : OkLn x := by
  simp only [heavyLn, heavyF, fldTop, heavyP, Bool.or_eq_false_iff, decide_eq_false_iff_not] at h
  obtain ⟨_, _, _, _, ⟨⟨_, _, _, h1⟩, _⟩, ⟨h2, _⟩, h3, _⟩ := h
  exact ⟨by omega, by omega, by omega⟩
end Go.Proofs.Ytbojhapdidieoaa

set_option linter.unusedSimpArgs false
set_option linter.unusedVariables false
set_option linter.unusedSimpArgs false
set_option linter.unusedVariables false
namespace Go.Proofs.Ytbojhapdidieoaa
open Go.PL
def putM (m : List Eg) (e : Eg) : List Eg × Int :=
  if edgeB e = false then (m, 5) else match findE m e.id with
    | some x => if x = e then (m, 7) else (m, 15)
    | none => if 40 ≤ m.length then (m, 9) else (m ++ [e], 0)
/-- a list of edges that a tree holds -/
structure OkM (m : List Eg) : Prop where
  a : Apart m
  l : ∀ e ∈ m, OkLn e.ln
  n : m.length ≤ 40
theorem okM_nil : OkM [] := ⟨⟨by simp, fun e h => (by cases h)⟩, fun e h => (by cases h), by simp⟩
theorem okPut {m : List Eg} (h : OkM m) {e : Eg} (he : OkLn e.ln) : OkM (putM m e).1 := by
  unfold putM
  split
  · exact h
  · rename_i hb
    split
    · split <;> exact h
    · rename_i hf
      split
      · exact h
      · rename_i hn
        refine ⟨⟨?_, fun x hx => ?_⟩, fun x hx => ?_, by simp; omega⟩
        · rw [List.map_append, List.nodup_append]
          refine ⟨h.a.d, by simp, fun a ha b hb' => ?_⟩
          simp only [List.map_cons, List.map_nil, List.mem_singleton] at hb'
          subst hb'
          obtain ⟨x, hx, rfl⟩ := List.mem_map.1 ha
          unfold findE at hf
          rw [List.find?_eq_none] at hf
          have := hf x hx
          simp only [decide_eq_true_eq] at this
          exact fun e1 => this e1.symm
        · rcases List.mem_append.1 hx with hx | hx
          · exact h.a.n x hx
          · rw [List.mem_singleton.1 hx]
            have hb : edgeB e = true := by simpa using hb
            simp only [edgeB, Bool.and_eq_true] at hb
            exact tagB_default hb.1
        · rcases List.mem_append.1 hx with hx | hx
          · exact h.l x hx
          · rw [List.mem_singleton.1 hx]; exact he
/-- with one more edge the settled ones are as they were -/
theorem findE_append {m : List Eg} {e x : Eg} {id : Tg} (h : findE m id = some x) : findE (m ++ [e]) id = some x := by
  unfold findE at *; rw [List.find?_append, h]; rfl
theorem Way.append {m : List Eg} {e : Eg} {id : Tg} {w : List Eg} (h : Way m id w) : Way (m ++ [e]) id w := by
  induction h with
  | root => exact .root
  | step hn he hw ih => exact .step hn (findE_append he) ih
end Go.Proofs.Ytbojhapdidieoaa

set_option linter.unusedSimpArgs false
set_option linter.unusedVariables false
set_option linter.unusedSimpArgs false
set_option linter.unusedVariables false
namespace Go.Proofs.Ytbojhapdidieoaa
open Go.PL
end Go.Proofs.Ytbojhapdidieoaa

set_option linter.unusedSimpArgs false
set_option linter.unusedVariables false
set_option linter.unusedSimpArgs false
set_option linter.unusedVariables false
namespace Go.Proofs.Ytbojhapdidieoaa
open Go.PL
/-- the way up of a tag, from the way down to it -/
def upL (w : List Eg) : List Tg := (w.reverse.map (·.id)) ++ [default]
structure UpS (m : List Eg) (w : List Eg) where
  id : Tg
  r : List Eg
  acc : List Tg
  hw : Way m id r
  hx : acc ++ (upL r).tail = upL w
end Go.Proofs.Ytbojhapdidieoaa

set_option linter.unusedSimpArgs false
set_option linter.unusedVariables false
set_option linter.unusedSimpArgs false
set_option linter.unusedVariables false
namespace Go.Proofs.Ytbojhapdidieoaa
open Go.PL
theorem Apart.inj {m : List Eg} (h : Apart m) {a b : Eg} (ha : a ∈ m) (hb : b ∈ m) (e : a.id = b.id) : a = b := by
  have h1 := h.find ha
  rw [e, h.find hb] at h1
  cases h1; rfl
structure WayT where
  up : List Tg
  down : List Tg
  i : Nat
  j : Nat
  c : Int
end Go.Proofs.Ytbojhapdidieoaa

set_option linter.unusedSimpArgs false
set_option linter.unusedVariables false
set_option linter.unusedSimpArgs false
set_option linter.unusedVariables false
namespace Go.Proofs.Ytbojhapdidieoaa
open Go.PL
end Go.Proofs.Ytbojhapdidieoaa

set_option linter.unusedSimpArgs false
set_option linter.unusedVariables false
set_option linter.unusedSimpArgs false
set_option linter.unusedVariables false
namespace Go.Proofs.Ytbojhapdidieoaa
open Go.PL
def roundP (fo ba : List Pr) (p : Pr) : Bool := (caseM fo p.fr').2 && ((caseM ba (caseM fo p.fr').1).2 && ((caseM ba (caseM fo p.fr').1).1 == p.fr'))
def roundM (fo ba : List Pr) : Bool := fo.all (roundP fo ba)
def keptM (x : Ln) (r : Rf) : Bool :=
  if rightLn x = false then false else if idx (fun a => decide (r = a)) (goesR x) < 0 then true
  else if x.kind = 1 ∨ x.kind = 4 ∨ x.kind = 5 ∨ x.kind = 6 ∨ x.kind = 7 ∨ x.kind = 10 then true
  else if x.kind = 9 then idx (fun a => decide (r = a)) (goesR x) == 0
  else if x.kind = 8 then roundM x.fo x.ba else false
theorem goesR_len (x : Ln) : (goesR x).length ≤ 2 := by
  unfold goesR
  split
  · simp
  split
  · simp
  split <;> simp
def traceM (x : Ln) (r : Rf) : Rf × Bool :=
  if rightLn x = false then (default, false) else if ((goesR x).any fun a => decide (r = a)) = false then (r, true)
  else if (comesR x).length = 0 then (default, false) else ((comesR x).getD 0 default, true)
end Go.Proofs.Ytbojhapdidieoaa

set_option linter.unusedSimpArgs false
set_option linter.unusedVariables false
set_option linter.unusedSimpArgs false
set_option linter.unusedVariables false
namespace Go.Proofs.Ytbojhapdidieoaa
open Go.PL
def awX : Ln := ⟨1, ⟨1, [], [110, 111, 116, 101]⟩, [109, 101, 109, 111], [], 0, default, [], []⟩
def awA : Eg := ⟨⟨1, 1⟩, default, awX⟩
theorem okAw : OkLn awX := ⟨by decide, by decide, by decide⟩
theorem putA : putM [] awA = ([awA], 0) := by decide +kernel
theorem okA : OkM [awA] := by have := okPut okM_nil (e := awA) okAw; rw [putA] at this; exact this
end Go.Proofs.Ytbojhapdidieoaa

set_option linter.unusedSimpArgs false
set_option linter.unusedVariables false
set_option linter.unusedSimpArgs false
set_option linter.unusedVariables false
namespace Go.Proofs.Ytbojhapdidieoaa
open Go.PL
theorem rightLn_kind {x : Ln} (h : rightLn x = true) : (x.kind = 1 ∨ x.kind = 2 ∨ x.kind = 3 ∨ x.kind = 4 ∨ x.kind = 5 ∨ x.kind = 6 ∨ x.kind = 7 ∨ x.kind = 8 ∨ x.kind = 9 ∨ x.kind = 10) ∧ (x.kind ≠ 8 → x.fo = [] ∧ x.ba = []) := by
  unfold rightLn at h
  split at h
  · rename_i hk
    simp only [Bool.and_eq_true, Bool.not_eq_true'] at h
    exact ⟨by omega, fun _ => tablesB_false.1 h.2.2.2.2.1⟩
  · simp only [Bool.and_eq_true] at h
    obtain ⟨_, h⟩ := h
    split at h
    · rename_i hk; exact ⟨by omega, fun hn => absurd hk hn⟩
    · simp only [Bool.and_eq_true, Bool.not_eq_true'] at h
      refine ⟨?_, fun _ => tablesB_false.1 h.1⟩
      have h := h.2
      split at h
      · omega
      · simp only [Bool.and_eq_true] at h
        have h := h.2
        split at h
        · omega
        · simp only [Bool.and_eq_true] at h
          have h := h.2
          split at h
          · omega
          · split at h
            · omega
            · simp only [Bool.and_eq_true, decide_eq_true_eq] at h
              omega
structure RightM (m : List Eg) : Prop where
  r : ∀ e ∈ m, edgeB e = true
end Go.Proofs.Ytbojhapdidieoaa

set_option linter.unusedSimpArgs false
set_option linter.unusedVariables false
set_option linter.unusedSimpArgs false
set_option linter.unusedVariables false
namespace Go.Proofs.Ytbojhapdidieoaa
open Go.PL
end Go.Proofs.Ytbojhapdidieoaa

set_option linter.unusedSimpArgs false
set_option linter.unusedVariables false
set_option linter.unusedSimpArgs false
set_option linter.unusedVariables false
namespace Go.Proofs.Ytbojhapdidieoaa
open Go.PL
end Go.Proofs.Ytbojhapdidieoaa

set_option linter.unusedSimpArgs false
set_option linter.unusedVariables false
set_option linter.unusedSimpArgs false
set_option linter.unusedVariables false
namespace Go.Proofs.Ytbojhapdidieoaa
open Go.PL
/-! the order of places -/
theorem bl_irrefl : ∀ (a : Str), bytesLt a a = false
  | [] => rfl
  | x :: a => by
    have := bl_irrefl a
    unfold bytesLt at *
    simp [Op.bytesLess, this]
theorem bl_trans : ∀ {a b c : Str}, bytesLt a b = true → bytesLt b c = true → bytesLt a c = true
  | [], [], _, h, _ => by simp [bytesLt, Op.bytesLess] at h
  | [], _ :: _, [], _, h => by simp [bytesLt, Op.bytesLess] at h
  | [], _ :: _, _ :: _, _, _ => by simp [bytesLt, Op.bytesLess]
  | _ :: _, [], _, h, _ => by simp [bytesLt, Op.bytesLess] at h
  | _ :: _, _ :: _, [], _, h => by simp [bytesLt, Op.bytesLess] at h
  | x :: a, y :: b, z :: c, h1, h2 => by
    have ih := bl_trans (a := a) (b := b) (c := c)
    unfold bytesLt at *
    simp only [Op.bytesLess, Bool.or_eq_true, decide_eq_true_eq, Bool.and_eq_true, beq_iff_eq] at *
    rcases h1 with h1 | ⟨rfl, h1⟩
    · rcases h2 with h2 | ⟨rfl, h2⟩
      · exact .inl (UInt8.lt_trans h1 h2)
      · exact .inl h1
    · rcases h2 with h2 | ⟨rfl, h2⟩
      · exact .inl h2
      · exact .inr ⟨rfl, ih h1 h2⟩
theorem bl_total : ∀ (a b : Str), bytesLt a b = true ∨ a = b ∨ bytesLt b a = true
  | [], [] => .inr (.inl rfl)
  | [], _ :: _ => .inl (by simp [bytesLt, Op.bytesLess])
  | _ :: _, [] => .inr (.inr (by simp [bytesLt, Op.bytesLess]))
  | x :: a, y :: b => by
    have ih := bl_total a b
    unfold bytesLt at *
    simp only [Op.bytesLess, Bool.or_eq_true, decide_eq_true_eq, Bool.and_eq_true, beq_iff_eq] at *
    rcases Nat.lt_trichotomy x.toNat y.toNat with h | h | h
    · exact .inl (.inl h)
    · have e : x = y := UInt8.toNat_inj.1 h
      subst e
      rcases ih with ih | rfl | ih
      · exact .inl (.inr ⟨rfl, ih⟩)
      · exact .inr (.inl rfl)
      · exact .inr (.inr (.inr ⟨rfl, ih⟩))
    · exact .inr (.inr (.inl h))
theorem lb_irrefl (a : Rf) : lessB a a = false := by simp [lessB, bl_irrefl]
theorem lb_total (a b : Rf) : lessB a b = true ∨ a = b ∨ lessB b a = true := by
  unfold lessB
  by_cases h1 : a.sc = b.sc
  · by_cases h2 : a.gr = b.gr
    · simp only [h1, h2, ne_eq, not_true_eq_false, if_false]
      rcases bl_total a.nm b.nm with h | h | h
      · exact .inl h
      · exact .inr (.inl (by cases a; cases b; simp_all))
      · exact .inr (.inr h)
    · have h2' : b.gr ≠ a.gr := fun e => h2 e.symm
      simp only [h1, h2, h2', ne_eq, not_true_eq_false, not_false_eq_true, if_false, if_true]
      rcases bl_total a.gr b.gr with h | h | h
      · exact .inl h
      · exact absurd h h2
      · exact .inr (.inr h)
  · have h1' : b.sc ≠ a.sc := fun e => h1 e.symm
    simp only [h1, h1', ne_eq, not_false_eq_true, if_true, decide_eq_true_eq]
    omega
theorem lb_trans {a b c : Rf} (h1 : lessB a b = true) (h2 : lessB b c = true) : lessB a c = true := by
  unfold lessB at *
  by_cases e1 : a.sc = b.sc
  · by_cases e2 : b.sc = c.sc
    · simp only [e1, e2, ne_eq, not_true_eq_false, if_false] at *
      by_cases g1 : a.gr = b.gr
      · by_cases g2 : b.gr = c.gr
        · simp only [g1, g2, not_true_eq_false, if_false] at *
          exact bl_trans h1 h2
        · simp only [g1, g2, not_true_eq_false, not_false_eq_true, if_false, if_true] at *
          exact h2
      · by_cases g2 : b.gr = c.gr
        · rw [← g2]
          simp only [g1, not_false_eq_true, if_true] at *
          exact h1
        · simp only [g1, g2, not_false_eq_true, if_true] at *
          have := bl_trans h1 h2
          have hn : ¬ a.gr = c.gr := fun e => by rw [e, bl_irrefl] at this; cases this
          simp only [hn, not_false_eq_true, if_true]
          exact this
    · simp only [e1, e2, ne_eq, not_false_eq_true, if_true] at *
      exact h2
  · by_cases e2 : b.sc = c.sc
    · rw [← e2]
      simp only [e1, ne_eq, not_false_eq_true, if_true] at *
      exact h1
    · simp only [e1, e2, ne_eq, not_false_eq_true, if_true, decide_eq_true_eq] at *
      have hn : ¬ a.sc = c.sc := by omega
      simp only [hn, not_false_eq_true, if_true, decide_eq_true_eq]
      omega
/-- rising by places -/
def Rise (l : List Fd) : Prop := l.Pairwise fun a b => lessB a.at' b.at' = true
theorem rise_of_steps : ∀ {l : List Fd}, (∀ i, i < l.length → i = 0 ∨ lessB (l.getD (i - 1) default).at' (l.getD i default).at' = true) → Rise l
  | [], _ => List.Pairwise.nil
  | [a], _ => List.pairwise_singleton _ _
  | a :: b :: l, h => by
    have ih : Rise (b :: l) := rise_of_steps fun i hi => by
      cases i with
      | zero => exact .inl rfl
      | succ i =>
        have := h (i + 2) (by simp at hi ⊢; omega)
        right
        simpa using this
    have hab : lessB a.at' b.at' = true := by simpa using h 1 (by simp)
    refine List.pairwise_cons.2 ⟨fun x hx => ?_, ih⟩
    rcases List.mem_cons.1 hx with rfl | hx
    · exact hab
    · exact lb_trans hab ((List.pairwise_cons.1 ih).1 x hx)
theorem steps_of_rise {l : List Fd} (h : Rise l) : ∀ i, i < l.length → i = 0 ∨ lessB (l.getD (i - 1) default).at' (l.getD i default).at' = true := fun i hi => by
  by_cases h0 : i = 0
  · exact .inl h0
  · right
    rw [getD_lt (by omega), getD_lt hi]
    exact List.pairwise_iff_getElem.1 h (i - 1) i (by omega) hi (by omega)
theorem right_iff {l : List Fd} : rightL l = true ↔ l.length ≤ 16 ∧ Rise l ∧ ∀ f ∈ l, rightF f = true := by
  unfold rightL
  simp only [Bool.and_eq_true, Bool.not_eq_true', decide_eq_false_iff_not, List.all_eq_true, List.mem_range, fldOk, Bool.or_eq_true, decide_eq_true_eq]
  constructor
  · rintro ⟨h1, h2⟩
    refine ⟨by omega, rise_of_steps fun i hi => (h2 i hi).2, fun f hf => ?_⟩
    obtain ⟨i, hi, rfl⟩ := List.getElem_of_mem hf
    have := (h2 i hi).1
    rwa [getD_lt hi] at this
  · rintro ⟨h1, h2, h3⟩
    exact ⟨by omega, fun i hi => ⟨h3 _ (getD_mem hi), steps_of_rise h2 i hi⟩⟩
theorem rise_at {l : List Fd} (h : Rise l) {f g : Fd} (hf : f ∈ l) (hg : g ∈ l) (e : f.at' = g.at') : f = g := by
  obtain ⟨i, hi, rfl⟩ := List.getElem_of_mem hf
  obtain ⟨j, hj, rfl⟩ := List.getElem_of_mem hg
  rcases Nat.lt_trichotomy i j with h1 | h1 | h1
  · have := List.pairwise_iff_getElem.1 h i j hi hj h1
    rw [e, lb_irrefl] at this; cases this
  · subst h1; rfl
  · have := List.pairwise_iff_getElem.1 h j i hj hi h1
    rw [e, lb_irrefl] at this; cases this
end Go.Proofs.Ytbojhapdidieoaa
