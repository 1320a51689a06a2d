/- Contracts of functions and laws of this seat, each for every input that it names: lemmas of the proof. -/
import Derived.Test.YtnadlkjmdimjkaaXAy
import Derived.Test.YtnadlkjmdimjkaaXBh
set_option linter.unusedSimpArgs false
set_option linter.unusedVariables false
set_option linter.unusedSimpArgs false
set_option linter.unusedVariables false
namespace Go.Proofs.Ytnadlkjmdimjkaa
open Go.PL
def roundP (fo ba : List Pr) (p : Pr) : Bool := (caseM fo p.fr').2 && ((caseM ba (caseM fo p.fr').1).2 && ((caseM ba (caseM fo p.fr').1).1 == p.fr'))
def roundM (fo ba : List Pr) : Bool := fo.all (roundP fo ba)
set_option maxHeartbeats 4000000 in
theorem round_pure (fo ba : List Pr) (hf : fo.length ≤ maxLen) (hb : ba.length ≤ maxLen) : PL.Pure Try.prog 74 [prs fo, prs ba] (.bool (roundM fo ba)) := by
  refine PL.Pure.of_v Try.func74 (by decide) rfl Try.ntmps74 Try.results74 (by simp) rfl ?_
  simp only [go_sem, prs]
  refine vLoopM (ι := { x : Nat // x ≤ (fo).length ∧ (∀ j, j < x → roundP fo ba (fo.getD j default) = true) }) 40 (fun x => [(0, prs fo), (1, prs ba), (10, prs fo), (11, .int .i64 (fo.length : Int)), (12, .int .i64 (x.1 : Int))]) (fun x => []) (fun x => []) (fun x => (fo).length - x.1) ⟨0, Nat.zero_le _, fun j hj => absurd hj (Nat.not_lt_zero j)⟩ ⟨rfl, (forall_cons rfl (forall_cons rfl (forall_cons rfl (forall_cons rfl (forall_cons rfl forall_nil))))), forall_nil, forall_nil⟩ (fun x => ⟨(forall_cons rfl (forall_cons rfl (forall_cons rfl (forall_cons rfl (forall_cons rfl forall_nil))))), forall_nil⟩) (fun x => ?_); obtain ⟨k, hk, hI⟩ := x; simp only at hk hI ⊢
  by_cases h : (k : Int) < (fo.length : Int)
  · (have hka : k < (fo).length := by omega); (have w1 := w64s hka (hf)); (have i1 : (0 : Int) ≤ (k : Int) := by omega)
    have h1 := Case_pure fo (fo.getD k default).fr' hf
    have h2 := Case_pure ba (caseM fo (fo.getD k default).fr').1 hb
    cases hr : roundP fo ba (fo.getD k default)
    · have hz := all_false (p := roundP fo ba) hka hr
      unfold roundP at hr
      generalize caseM fo (fo.getD k default).fr' = c at *
      generalize caseM ba c.1 = d at *
      obtain ⟨c1, c2⟩ := c
      obtain ⟨d1, d2⟩ := d
      simp only at hr h2
      simp only [go_sem, prs, h, i1, getD_pr hka, pr]
      refine vCall_of (h1) ?_ ?_ ?_; (focus simp only [go_sem, prs]); (focus simp only [go_sem, prs])
      simp only [go_sem, strb]
      cases c2
      · simp only [go_sem, roundM, hz]
      · simp only [go_sem, prs]
        refine vCall_of (h2) ?_ ?_ ?_; (focus simp only [go_sem, prs]); (focus simp only [go_sem, prs])
        simp only [go_sem, strb]
        cases d2
        · simp only [go_sem, roundM, hz]
        · simp only [Bool.true_and] at hr
          simp only [go_sem, hr, roundM, hz]
    · have hr0 := hr
      unfold roundP at hr
      generalize caseM fo (fo.getD k default).fr' = c at *
      generalize caseM ba c.1 = d at *
      obtain ⟨c1, c2⟩ := c
      obtain ⟨d1, d2⟩ := d
      simp only [Bool.and_eq_true] at hr h2
      obtain ⟨rfl, rfl, hr⟩ := hr
      simp only [go_sem, prs, h, i1, getD_pr hka, pr]
      refine vCall_of (h1) ?_ ?_ ?_; (focus simp only [go_sem, prs]); (focus simp only [go_sem, prs])
      simp only [go_sem, strb, prs]
      refine vCall_of (h2) ?_ ?_ ?_; (focus simp only [go_sem, prs]); (focus simp only [go_sem, prs])
      simp only [go_sem, strb, hr, w1]
      exact ⟨⟨k + 1, by (try simp only); omega, below_succ hI hr0⟩, by show (fo).length - (k + 1) < (fo).length - k; omega, ⟨rfl, (forall_cons rfl (forall_cons rfl (forall_cons rfl (forall_cons rfl (forall_cons rfl forall_nil))))), forall_nil, forall_nil⟩⟩
  · have hz := all_true (p := roundP fo ba) (d := default) (l := fo) (fun j hj => hI j (by omega))
    simp only [go_sem, prs, h, roundM, hz]
def keptM (x : Ln) (r : Rf) : Bool :=
  if rightLn x = false then false else if idx (fun a => decide (r = a)) (goesR x) < 0 then true
  else if x.kind = 1 ∨ x.kind = 4 ∨ x.kind = 5 ∨ x.kind = 6 ∨ x.kind = 7 ∨ x.kind = 10 then true
  else if x.kind = 9 then idx (fun a => decide (r = a)) (goesR x) == 0
  else if x.kind = 8 then roundM x.fo x.ba else false
theorem goesR_len (x : Ln) : (goesR x).length ≤ 2 := by
  unfold goesR
  split
  · simp
  split
  · simp
  split <;> simp
theorem comesR_len (x : Ln) : (comesR x).length ≤ 2 := by
  unfold comesR
  repeat' split
  all_goals simp
set_option maxRecDepth 20000 in
set_option maxHeartbeats 8000000 in
theorem Kept_pure (x : Ln) (r : Rf) (hx : OkLn x) : PL.Pure Try.prog 55 [lns x, ref r] (.bool (keptM x r)) := by
  have hR := LRight_pure x hx
  have hG := Goes_pure x hx
  unfold keptM
  cases hlr : rightLn x
  · rw [hlr] at hR
    refine PL.Pure.of_v Try.func55 (by decide) rfl Try.ntmps55 Try.results55 (by simp) rfl ?_
    simp only [go_sem, lns, ref]
    refine vCall_of (hR) ?_ ?_ ?_; (focus simp only [go_sem, lns]); (focus simp only [go_sem, lns])
    simp only [go_sem, if_true]
  rw [hlr] at hR
  have hg : goesM x = goesR x := by simp [goesM, hlr]
  rw [hg] at hG
  have hI := IdxRef_pure (goesR x) r (by have := goesR_len x; rw [maxLen_eq]; omega)
  have hO := round_pure x.fo x.ba (by have := hx.f; rw [maxLen_eq]; omega) (by have := hx.b; rw [maxLen_eq]; omega)
  generalize idx (fun a => decide (r = a)) (goesR x) = i at *
  refine PL.Pure.of_v Try.func55 (by decide) rfl Try.ntmps55 Try.results55 (by simp) rfl ?_
  simp only [go_sem, lns, ref]
  refine vCall_of (hR) ?_ ?_ ?_; (focus simp only [go_sem, lns]); (focus simp only [go_sem, lns])
  simp only [go_sem, lns]
  repeat' (first | (refine vGuard_t (fun h => ?_) (fun h => ?_) <;> (try simp only [go_sem, h, refs, ref])) | (refine vGuard_f (fun h => ?_) (fun h => ?_) <;> (try simp only [go_sem, h, refs, ref])) | (refine vCond_b (fun h => ?_) (fun h => ?_) <;> (try simp only [go_sem, h, refs, ref])) | ((refine vCall_of (hG) ?_ ?_ ?_); (focus simp only [go_sem, lns, refs, ref, prs]); (focus exact rfl); (try simp only [go_sem, refs, ref])) | ((refine vCall_of (hI) ?_ ?_ ?_); (focus simp only [go_sem, lns, refs, ref, prs]); (focus exact rfl); (try simp only [go_sem, refs, ref])) | ((refine vCall_of (hO) ?_ ?_ ?_); (focus simp only [go_sem, lns, refs, ref, prs]); (focus exact rfl); (try simp only [go_sem, refs, ref])) | ((refine vDrawQ (by kernel_rfl) (by kernel_rfl) ?_); (try simp only [go_sem, refs, ref])))
  all_goals (clear hR hG hI hO hx; simp_all <;> (intro; omega))
def traceM (x : Ln) (r : Rf) : Rf × Bool :=
  if rightLn x = false then (default, false) else if ((goesR x).any fun a => decide (r = a)) = false then (r, true)
  else if (comesR x).length = 0 then (default, false) else ((comesR x).getD 0 default, true)
def refb (x : Rf × Bool) : PV := .tup [ref x.1, .bool x.2]
theorem refb_dids (x : Rf × Bool) : (refb x).dids = [] := by simp only [refb, PV.dids, PV.didsL, ref_dids, List.append_nil]
theorem ref_default : ref default = .agg [.int .i64 0, .str [], .str []] := rfl
set_option maxRecDepth 20000 in
set_option maxHeartbeats 8000000 in
theorem Trace_pure (x : Ln) (r : Rf) (hx : OkLn x) : PL.Pure Try.prog 54 [lns x, ref r] (refb (traceM x r)) := by
  have hR := LRight_pure x hx
  have hG := Goes_pure x hx
  have hC := Comes_pure x hx
  unfold traceM
  cases hlr : rightLn x
  · rw [hlr] at hR
    refine PL.Pure.of_v Try.func54 (by decide) rfl Try.ntmps54 Try.results54 (by simp) (refb_dids _) ?_
    simp only [go_sem, lns, ref]
    refine vCall_of (hR) ?_ ?_ ?_; (focus simp only [go_sem, lns]); (focus simp only [go_sem, lns])
    simp only [go_sem, if_true, refb, ref_default]
  rw [hlr] at hR
  have hg : goesM x = goesR x := by simp [goesM, hlr]
  have hc : comesM x = comesR x := by simp [comesM, hlr]
  rw [hg] at hG
  rw [hc] at hC
  have hI := ConRef_pure (goesR x) r (by have := goesR_len x; rw [maxLen_eq]; omega)
  generalize (goesR x).any (fun a => decide (r = a)) = b at *
  generalize goesR x = goes at *
  generalize comesR x = comes at *
  cases b
  · refine PL.Pure.of_v Try.func54 (by decide) rfl Try.ntmps54 Try.results54 (by simp) (refb_dids _) ?_
    simp only [go_sem, lns, ref]
    refine vCall_of (hR) ?_ ?_ ?_; (focus simp only [go_sem, lns]); (focus simp only [go_sem, lns])
    simp only [go_sem, lns]
    refine vDrawQ (by kernel_rfl) (by kernel_rfl) ?_
    simp only [go_sem, lns]
    refine vCall_of (hG) ?_ ?_ ?_; (focus simp only [go_sem, lns]); (focus simp only [go_sem, lns])
    simp only [go_sem, refs]
    refine vCall_of (hI) ?_ ?_ ?_; (focus simp only [go_sem, refs, ref]); (focus simp only [go_sem, refs, ref])
    simp only [go_sem, refb, ref, Bool.true_eq_false, if_false, if_true]
  · cases comes with
    | nil =>
      refine PL.Pure.of_v Try.func54 (by decide) rfl Try.ntmps54 Try.results54 (by simp) (refb_dids _) ?_
      simp only [go_sem, lns, ref]
      refine vCall_of (hR) ?_ ?_ ?_; (focus simp only [go_sem, lns]); (focus simp only [go_sem, lns])
      simp only [go_sem, lns]
      refine vDrawQ (by kernel_rfl) (by kernel_rfl) ?_
      simp only [go_sem, lns]
      refine vCall_of (hG) ?_ ?_ ?_; (focus simp only [go_sem, lns]); (focus simp only [go_sem, lns])
      simp only [go_sem, refs]
      refine vCall_of (hI) ?_ ?_ ?_; (focus simp only [go_sem, refs, ref]); (focus simp only [go_sem, refs, ref])
      simp only [go_sem, lns]
      refine vCall_of (hC) ?_ ?_ ?_; (focus simp only [go_sem, lns]); (focus simp only [go_sem, lns])
      simp only [go_sem, refs, refb, ref_default, Bool.true_eq_false, if_false, if_true]
    | cons c cs =>
      have e0 : ((((cs.length + 1 : Nat) : Int)) == 0) = false := beq_eq_false_iff_ne.2 (by omega)
      have e1 : (0 : Int) < ((cs.length + 1 : Nat) : Int) := by omega
      have e2 : ¬ (cs.length + 1 = 0) := by omega
      refine PL.Pure.of_v Try.func54 (by decide) rfl Try.ntmps54 Try.results54 (by simp) (refb_dids _) ?_
      simp only [go_sem, lns, ref]
      refine vCall_of (hR) ?_ ?_ ?_; (focus simp only [go_sem, lns]); (focus simp only [go_sem, lns])
      simp only [go_sem, lns]
      refine vDrawQ (by kernel_rfl) (by kernel_rfl) ?_
      simp only [go_sem, lns]
      refine vCall_of (hG) ?_ ?_ ?_; (focus simp only [go_sem, lns]); (focus simp only [go_sem, lns])
      simp only [go_sem, refs]
      refine vCall_of (hI) ?_ ?_ ?_; (focus simp only [go_sem, refs, ref]); (focus simp only [go_sem, refs, ref])
      simp only [go_sem, lns]
      refine vCall_of (hC) ?_ ?_ ?_; (focus simp only [go_sem, lns]); (focus simp only [go_sem, lns])
      simp only [go_sem, refs, e0, e1, e2, refb, ref, Bool.true_eq_false, if_false, if_true]
def sureM (x : Ln) (r : Rf) : Bool :=
  if rightLn x = false then false else if ((comesR x).any fun a => decide (r = a)) = false then true
  else if x.kind = 1 ∨ x.kind = 4 ∨ x.kind = 5 ∨ x.kind = 9 ∨ x.kind = 10 then true else if x.kind = 8 then roundM x.ba x.fo else false
set_option maxRecDepth 20000 in
set_option maxHeartbeats 8000000 in
theorem Sure_pure (x : Ln) (r : Rf) (hx : OkLn x) : PL.Pure Try.prog 58 [lns x, ref r] (.bool (sureM x r)) := by
  have hR := LRight_pure x hx
  have hC := Comes_pure x hx
  unfold sureM
  cases hlr : rightLn x
  · rw [hlr] at hR
    refine PL.Pure.of_v Try.func58 (by decide) rfl Try.ntmps58 Try.results58 (by simp) rfl ?_
    simp only [go_sem, lns, ref]
    refine vCall_of (hR) ?_ ?_ ?_; (focus simp only [go_sem, lns]); (focus simp only [go_sem, lns])
    simp only [go_sem, if_true]
  rw [hlr] at hR
  have hc : comesM x = comesR x := by simp [comesM, hlr]
  rw [hc] at hC
  have hI := ConRef_pure (comesR x) r (by have := comesR_len x; rw [maxLen_eq]; omega)
  have hO := round_pure x.ba x.fo (by have := hx.b; rw [maxLen_eq]; omega) (by have := hx.f; rw [maxLen_eq]; omega)
  generalize (comesR x).any (fun a => decide (r = a)) = b at *
  refine PL.Pure.of_v Try.func58 (by decide) rfl Try.ntmps58 Try.results58 (by simp) rfl ?_
  simp only [go_sem, lns, ref]
  refine vCall_of (hR) ?_ ?_ ?_; (focus simp only [go_sem, lns]); (focus simp only [go_sem, lns])
  simp only [go_sem, lns]
  repeat' (first | (refine vGuard_t (fun h => ?_) (fun h => ?_) <;> (try simp only [go_sem, h, refs, ref])) | (refine vGuard_f (fun h => ?_) (fun h => ?_) <;> (try simp only [go_sem, h, refs, ref])) | (refine vCond_b (fun h => ?_) (fun h => ?_) <;> (try simp only [go_sem, h, refs, ref])) | ((refine vCall_of (hC) ?_ ?_ ?_); (focus simp only [go_sem, lns, refs, ref, prs]); (focus exact rfl); (try simp only [go_sem, refs, ref])) | ((refine vCall_of (hI) ?_ ?_ ?_); (focus simp only [go_sem, lns, refs, ref, prs]); (focus exact rfl); (try simp only [go_sem, refs, ref])) | ((refine vCall_of (hO) ?_ ?_ ?_); (focus simp only [go_sem, lns, refs, ref, prs]); (focus exact rfl); (try simp only [go_sem, refs, ref])) | ((refine vDrawQ (by kernel_rfl) (by kernel_rfl) ?_); (try simp only [go_sem, refs, ref])))
  all_goals (clear hR hC hI hO hx; simp_all)
def invR (x : Ln) : Ln :=
  if x.kind = 1 then ⟨1, ⟨x.at'.sc, x.at'.gr, x.nm⟩, x.at'.nm, x.ot, x.fac, x.fd, x.fo, x.ba⟩
  else if x.kind = 2 then ⟨3, x.at', x.nm, x.ot, x.fac, x.fd, x.fo, x.ba⟩
  else if x.kind = 3 then ⟨2, x.at', x.nm, x.ot, x.fac, x.fd, x.fo, x.ba⟩
  else if x.kind = 4 then ⟨5, ⟨x.at'.sc, [], x.at'.nm⟩, x.at'.gr, x.ot, x.fac, x.fd, x.fo, x.ba⟩
  else if x.kind = 5 then ⟨4, ⟨x.at'.sc, x.nm, x.at'.nm⟩, [], x.ot, x.fac, x.fd, x.fo, x.ba⟩
  else if x.kind = 6 then ⟨9, x.at', x.nm, x.ot, x.fac, x.fd, x.fo, x.ba⟩
  else if x.kind = 9 then ⟨6, x.at', x.nm, x.ot, x.fac, x.fd, x.fo, x.ba⟩
  else if x.kind = 7 then ⟨10, x.at', x.nm, x.ot, x.fac, x.fd, x.fo, x.ba⟩
  else if x.kind = 10 then ⟨7, x.at', x.nm, x.ot, x.fac, x.fd, x.fo, x.ba⟩
  else if x.kind = 8 then ⟨8, x.at', x.ot, x.nm, x.fac, x.fd, x.ba, x.fo⟩ else x
def lnc (x : Ln × Int) : PV := .tup [lns x.1, .int .i64 x.2]
theorem lnc_dids (x : Ln × Int) : (lnc x).dids = [] := by simp only [lnc, PV.dids, PV.didsL, lns_dids, List.append_nil]
def invM (x : Ln) : Ln × Int := if rightLn x = false then (default, 5) else (invR x, 0)
set_option maxRecDepth 20000 in
set_option maxHeartbeats 8000000 in
theorem Inverse_pure (x : Ln) (hx : OkLn x) : PL.Pure Try.prog 77 [lns x] (lnc (invM x)) := by
  have hR := LRight_pure x hx
  have hO := LOwn_pure x hx
  unfold invM
  cases hlr : rightLn x
  · rw [hlr] at hR
    refine PL.Pure.of_v Try.func77 (by decide) rfl Try.ntmps77 Try.results77 (by simp) (lnc_dids _) ?_
    simp only [go_sem, lns]
    refine vCall_of (hR) ?_ ?_ ?_; (focus simp only [go_sem, lns]); (focus simp only [go_sem, lns])
    simp only [go_sem, if_true, lnc, lns_default]
  rw [hlr] at hR
  refine PL.Pure.of_v Try.func77 (by decide) rfl Try.ntmps77 Try.results77 (by simp) (lnc_dids _) ?_
  simp only [go_sem, lns]
  refine vCall_of (hR) ?_ ?_ ?_; (focus simp only [go_sem, lns]); (focus simp only [go_sem, lns])
  simp only [go_sem, lns]
  refine vCall_of (hO) ?_ ?_ ?_; (focus simp only [go_sem, lns]); (focus simp only [go_sem, lns])
  simp only [go_sem, lns]
  repeat' (first | (refine vGuard_t (fun h => ?_) (fun h => ?_) <;> (try simp only [go_sem, h])) | (refine vGuard_f (fun h => ?_) (fun h => ?_) <;> (try simp only [go_sem, h])) | (refine vCond_b (fun h => ?_) (fun h => ?_) <;> (try simp only [go_sem, h])) | ((refine vDrawS [(1, 4)] (by kernel_rfl) (by kernel_rfl) (by exact rfl) ?_); (try simp only [go_sem])) | ((refine vDrawQ (by kernel_rfl) (by kernel_rfl) ?_); (try simp only [go_sem])))
  all_goals (simp only [beq_iff_eq, beq_eq_false_iff_ne, ne_eq] at *; clear hR hO hx; simp [invR, lnc, lns, *])
def placeI (l : List Rf) (r : Rf) : Int := idx (fun a => decide (r = a)) l
end Go.Proofs.Ytnadlkjmdimjkaa

set_option linter.unusedSimpArgs false
set_option linter.unusedVariables false
set_option linter.unusedSimpArgs false
set_option linter.unusedVariables false
namespace Go.Proofs.Ytnadlkjmdimjkaa
open Go.PL
def awX : Ln := ⟨1, ⟨1, [], [110, 111, 116, 101]⟩, [109, 101, 109, 111], [], 0, default, [], []⟩
def awA : Eg := ⟨⟨1, 1⟩, default, awX⟩
def awB : Eg := ⟨⟨2, 1⟩, default, awX⟩
theorem okAw : OkLn awX := ⟨by decide, by decide, by decide⟩
theorem putA : putM [] awA = ([awA], 0) := by decide +kernel
theorem putB : putM [awA] awB = ([awA, awB], 0) := by decide +kernel
theorem okA : OkM [awA] := by have := okPut okM_nil (e := awA) okAw; rw [putA] at this; exact this
theorem okB : OkM [awA, awB] := by have := okPut okA (e := awB) okAw; rw [putB] at this; exact this
theorem legs_len (m : List Eg) (a b : Tg) (hm : OkM m) : (pathM m a b).1.length ≤ 80 := by
  unfold pathM
  split
  · simp
  · rename_i h
    have h := pathC_zero.1 (by simpa using h)
    have w1 := (live_way h.1).1.len
    have w2 := (live_way h.2).1.len
    have := hm.n
    simp only [legsW, List.length_append, List.length_map, List.length_reverse, List.length_drop]
    omega
end Go.Proofs.Ytnadlkjmdimjkaa

set_option linter.unusedSimpArgs false
set_option linter.unusedVariables false
set_option linter.unusedSimpArgs false
set_option linter.unusedVariables false
namespace Go.Proofs.Ytnadlkjmdimjkaa
open Go.PL
def lensM (m : List Eg) (x : Lg) : Ln × Int := match findE m x.id with | none => (default, 6) | some e => if x.down = true then (e.ln, 0) else (invR e.ln, 0)
structure RightM (m : List Eg) : Prop where
  r : ∀ e ∈ m, edgeB e = true
theorem edge_right {e : Eg} (h : edgeB e = true) : rightLn e.ln = true := by
  simp only [edgeB, Bool.and_eq_true] at h; exact h.2.2.2.2
theorem rightPut {m : List Eg} (h : RightM m) (e : Eg) : RightM (putM m e).1 := by
  unfold putM
  split
  · exact h
  · rename_i hb
    split
    · split <;> exact h
    · split
      · exact h
      · refine ⟨fun x hx => ?_⟩
        rcases List.mem_append.1 hx with hx | hx
        · exact h.r x hx
        · rw [List.mem_singleton.1 hx]; simpa using hb
theorem rightGrown : ∀ (l : List Eg) {m : List Eg}, RightM m → RightM (l.foldl (fun m e => (putM m e).1) m)
  | [], m, h => h
  | e :: l, m, h => rightGrown l (rightPut h e)
theorem right_nil : RightM [] := ⟨fun e h => by cases h⟩
set_option maxRecDepth 20000 in
set_option maxHeartbeats 16000000 in
theorem TLens_pure (m : List Eg) (x : Lg) (hm : OkM m) (hr : RightM m) : PL.Pure Try.prog 57 [tr (treeOf m), lg x] (lnc (lensM m x)) := by
  have hF := TFind_pure m x.id hm
  unfold findTM at hF
  unfold lensM
  cases hf : findE m x.id with
  | none =>
    rw [hf] at hF
    simp only at hF ⊢
    refine PL.Pure.of_v Try.func57 (by decide) rfl Try.ntmps57 Try.results57 (by simp) (lnc_dids _) ?_
    simp only [go_sem, tr, lg]
    refine vCall_of (hF) ?_ ?_ ?_; (focus simp only [go_sem, tr, tg]); (focus simp only [go_sem, tr, tg])
    simp only [go_sem, edc, eg_default, lnc, lns_default]
  | some e =>
    rw [hf] at hF
    simp only at hF ⊢
    have hem := (findE_id hf).2
    have hO := LOwn_pure e.ln (hm.l e hem)
    have hI := Inverse_pure e.ln (hm.l e hem)
    have hi : invM e.ln = (invR e.ln, 0) := by unfold invM; rw [edge_right (hr.r e hem)]; rfl
    rw [hi] at hI
    obtain ⟨id, down⟩ := x
    cases down
    · refine PL.Pure.of_v Try.func57 (by decide) rfl Try.ntmps57 Try.results57 (by simp) (lnc_dids _) ?_
      simp only [go_sem, tr, lg]
      refine vCall_of (hF) ?_ ?_ ?_; (focus simp only [go_sem, tr, tg]); (focus simp only [go_sem, tr, tg])
      simp only [go_sem, edc, eg]
      refine vCall_of (hI) ?_ ?_ ?_; (focus simp only [go_sem, lns]); (focus simp only [go_sem, lns])
      simp only [go_sem, lnc, lns, Bool.false_eq_true, if_false]
    · refine PL.Pure.of_v Try.func57 (by decide) rfl Try.ntmps57 Try.results57 (by simp) (lnc_dids _) ?_
      simp only [go_sem, tr, lg]
      refine vCall_of (hF) ?_ ?_ ?_; (focus simp only [go_sem, tr, tg]); (focus simp only [go_sem, tr, tg])
      simp only [go_sem, edc, eg]
      refine vCall_of (hO) ?_ ?_ ?_; (focus simp only [go_sem, lns]); (focus simp only [go_sem, lns])
      simp only [go_sem, lnc, lns, if_true]
theorem okInv {x : Ln} (h : OkLn x) : OkLn (invR x) := by
  unfold invR
  repeat' split
  all_goals first | exact ⟨h.c, h.f, h.b⟩ | exact ⟨h.c, h.b, h.f⟩
theorem okLens {m : List Eg} (hm : OkM m) (x : Lg) : OkLn (lensM m x).1 := by
  unfold lensM
  split
  · exact ⟨by decide, by decide, by decide⟩
  · rename_i e he
    have := hm.l e (findE_id he).2
    split
    · exact this
    · exact okInv this
end Go.Proofs.Ytnadlkjmdimjkaa

set_option linter.unusedSimpArgs false
set_option linter.unusedVariables false
set_option linter.unusedSimpArgs false
set_option linter.unusedVariables false
namespace Go.Proofs.Ytnadlkjmdimjkaa
open Go.PL
end Go.Proofs.Ytnadlkjmdimjkaa

set_option linter.unusedSimpArgs false
set_option linter.unusedVariables false
set_option linter.unusedSimpArgs false
set_option linter.unusedVariables false
namespace Go.Proofs.Ytnadlkjmdimjkaa
open Go.PL
theorem legs_in {m : List Eg} {a b : Tg} (h : pathC m a b = 0) (ha : Apart m) : ∀ x ∈ legsW (wayD m a) (wayD m b), ∃ e, e ∈ m ∧ findE m x.id = some e ∧ x.id = e.id := by
  obtain ⟨h1, h2⟩ := pathC_zero.1 h
  obtain ⟨wa, _, _⟩ := live_way h1
  obtain ⟨wb, _, _⟩ := live_way h2
  intro x hx
  have key : ∀ e ∈ m, ∃ e', e' ∈ m ∧ findE m e.id = some e' ∧ e.id = e'.id := fun e he => ⟨e, he, ha.find he, rfl⟩
  unfold legsW at hx
  rcases List.mem_append.1 hx with hx | hx
  · obtain ⟨e, he, rfl⟩ := List.mem_map.1 hx
    exact key e (wa.mem e (List.mem_of_mem_drop (List.mem_reverse.1 he)))
  · obtain ⟨e, he, rfl⟩ := List.mem_map.1 hx
    exact key e (wb.mem e (List.mem_of_mem_drop he))
def lenses (m : List Eg) (l : List Lg) : List Ln := l.map fun x => (lensM m x).1
def rowM (m : List Eg) (a b : Tg) : List Ln × Int := if pathC m a b ≠ 0 then ([], pathC m a b) else (lenses m (legsW (wayD m a) (wayD m b)), 0)
def lnss (l : List Ln) : PV := .sl .no (l.map lns)
def lnsc (x : List Ln × Int) : PV := .tup [lnss x.1, .int .i64 x.2]
theorem lnss_dids (l : List Ln) : (lnss l).dids = [] := by
  unfold lnss
  simp only [PV.dids]
  induction l with
  | nil => rfl
  | cons e l ih => simp only [List.map_cons, PV.didsL, ih, lns_dids, List.append_nil]
theorem lnsc_dids (x : List Ln × Int) : (lnsc x).dids = [] := by simp only [lnsc, PV.dids, PV.didsL, lnss_dids, List.append_nil]
theorem sized_ln (l : List Ln) : Sized 16 (l.map lns) := fun e he => by
  obtain ⟨x, _, rfl⟩ := List.mem_map.1 he; rfl
theorem getD_ln {l : List Ln} {i : Nat} (h : i < l.length) : (l.map lns).getD i .any = lns (l.getD i default) := getD_map h
set_option maxRecDepth 20000 in
set_option maxHeartbeats 16000000 in
theorem Row_pure (m : List Eg) (a b : Tg) (hm : OkM m) (hr : RightM m) : PL.Pure Try.prog 35 [tr (treeOf m), tg a, tg b] (lnsc (rowM m a b)) := by
  have hP := Path_pure m a b hm
  have hll := legs_len m a b hm
  unfold rowM
  unfold pathM at hP hll
  by_cases hc : pathC m a b = 0
  · have hin := legs_in hc hm.a
    simp only [hc, ne_eq, not_true_eq_false, if_false] at hP hll ⊢
    generalize legsW (wayD m a) (wayD m b) = legs at *
    have hlm : legs.length ≤ maxLen := by rw [maxLen_eq]; omega
    refine PL.Pure.of_v Try.func35 (by decide) rfl Try.ntmps35 Try.results35 (by simp) (lnsc_dids _) ?_
    simp only [go_sem, tr, tg]
    refine vCall_of (hP) ?_ ?_ ?_; (focus simp only [go_sem, tr, tg]); (focus simp only [go_sem, tr, tg])
    simp only [go_sem, legsc, lgs, List.length_map]
    repeat ((with_reducible refine And.intro ?_ ?_); (focus ((repeat' (with_reducible apply And.intro)) <;> (first | omega | exact room_small (by omega) (by omega) | exact room_small (by simp; omega) (by omega) | exact sized_str _ | (simp; done) | (simp; omega)))))
    refine awp_moveRow 10 27 46 0 16 42 [] rfl rfl rfl ?_
    refine vLoopM (ι := { x : Nat // x ≤ (legs).length }) 49 (fun x => [(0, tr (treeOf m)), (10, .sl (.row 46) ((lenses m (legs.take x.1)).map lns)), (28, lgs legs), (29, .int .i64 (legs.length : Int)), (30, .int .i64 (x.1 : Int))]) (fun x => []) (fun x => [(46, .live (x.1) (16) (42))]) (fun x => (legs).length - x.1) ⟨0, Nat.zero_le _⟩ ⟨rfl, (forall_cons rfl (forall_cons rfl (forall_cons rfl (forall_cons rfl (forall_cons rfl forall_nil))))), forall_nil, (forall_cons rfl forall_nil)⟩ (fun x => ⟨(forall_cons rfl (forall_cons (by simp [PV.ids, refInM]) (forall_cons rfl (forall_cons rfl (forall_cons rfl forall_nil))))), forall_nil⟩) (fun x => ?_); obtain ⟨k, hk⟩ := x; simp only at hk ⊢
    by_cases h : (k : Int) < (legs.length : Int)
    · (have hka : k < (legs).length := by omega); (have w1 := w64s hka (hlm)); (have i1 : (0 : Int) ≤ (k : Int) := by omega)
      obtain ⟨e, he, hfe, _⟩ := hin _ (getD_mem (d := default) hka)
      have hL := TLens_pure m (legs.getD k default) hm hr
      have hz : (lensM m (legs.getD k default)).2 = 0 := by unfold lensM; rw [hfe]; simp only; split <;> rfl
      have hts : legs.take (k + 1) = legs.take k ++ [legs.getD k default] := by rw [List.take_add_one, getD_lt hka]; simp [hka]
      have hkl : (lenses m (legs.take k)).length = k := by simp [lenses]; omega
      have hrm := room1 (show k + 1 ≤ 1000000 by omega) (show 232 ≤ 1000 by omega)
      simp only [go_sem, tr, h, lgs, getD_lg hka, lg, i1]
      refine vCall_of (hL) ?_ ?_ ?_; (focus simp only [go_sem, tr, lg]); (focus simp only [go_sem, tr, lg])
      simp only [go_sem, lnc, hz, lns, sized_ln, List.length_map, hkl, hrm, w1]
      exact ⟨⟨k + 1, by (try simp only); omega⟩, by show (legs).length - (k + 1) < (legs).length - k; omega, ⟨rfl, (forall_cons rfl (forall_cons (by (show PV.sl _ _ = PV.sl _ _; simp [hts, lenses, lns])) (forall_cons rfl (forall_cons rfl (forall_cons rfl forall_nil))))), forall_nil, (forall_cons rfl forall_nil)⟩⟩
    · obtain rfl : k = legs.length := by omega
      have htk : legs.take legs.length = legs := List.take_length
      simp only [go_sem, h, htk, lnsc, lnss]
  · have hc' : (pathC m a b != 0) = true := by simpa using hc
    simp only [ne_eq, hc, not_false_eq_true, if_true] at hP ⊢
    refine PL.Pure.of_v Try.func35 (by decide) rfl Try.ntmps35 Try.results35 (by simp) (lnsc_dids _) ?_
    simp only [go_sem, tr, tg]
    refine vCall_of (hP) ?_ ?_ ?_; (focus simp only [go_sem, tr, tg]); (focus simp only [go_sem, tr, tg])
    simp only [go_sem, legsc, lgs, hc', lnsc, lnss, List.map_nil]
end Go.Proofs.Ytnadlkjmdimjkaa

set_option linter.unusedSimpArgs false
set_option linter.unusedVariables false
set_option linter.unusedSimpArgs false
set_option linter.unusedVariables false
namespace Go.Proofs.Ytnadlkjmdimjkaa
open Go.PL
/-! the order of places -/
theorem bl_irrefl : ∀ (a : Str), bytesLt a a = false
  | [] => rfl
  | x :: a => by
    have := bl_irrefl a
    unfold bytesLt at *
    simp [Op.bytesLess, this]
theorem bl_trans : ∀ {a b c : Str}, bytesLt a b = true → bytesLt b c = true → bytesLt a c = true
  | [], [], _, h, _ => by simp [bytesLt, Op.bytesLess] at h
  | [], _ :: _, [], _, h => by simp [bytesLt, Op.bytesLess] at h
  | [], _ :: _, _ :: _, _, _ => by simp [bytesLt, Op.bytesLess]
  | _ :: _, [], _, h, _ => by simp [bytesLt, Op.bytesLess] at h
  | _ :: _, _ :: _, [], _, h => by simp [bytesLt, Op.bytesLess] at h
  | x :: a, y :: b, z :: c, h1, h2 => by
    have ih := bl_trans (a := a) (b := b) (c := c)
    unfold bytesLt at *
    simp only [Op.bytesLess, Bool.or_eq_true, decide_eq_true_eq, Bool.and_eq_true, beq_iff_eq] at *
    rcases h1 with h1 | ⟨rfl, h1⟩
    · rcases h2 with h2 | ⟨rfl, h2⟩
      · exact .inl (UInt8.lt_trans h1 h2)
      · exact .inl h1
    · rcases h2 with h2 | ⟨rfl, h2⟩
      · exact .inl h2
      · exact .inr ⟨rfl, ih h1 h2⟩
theorem lb_irrefl (a : Rf) : lessB a a = false := by simp [lessB, bl_irrefl]
theorem lb_trans {a b c : Rf} (h1 : lessB a b = true) (h2 : lessB b c = true) : lessB a c = true := by
  unfold lessB at *
  by_cases e1 : a.sc = b.sc
  · by_cases e2 : b.sc = c.sc
    · simp only [e1, e2, ne_eq, not_true_eq_false, if_false] at *
      by_cases g1 : a.gr = b.gr
      · by_cases g2 : b.gr = c.gr
        · simp only [g1, g2, not_true_eq_false, if_false] at *
          exact bl_trans h1 h2
        · simp only [g1, g2, not_true_eq_false, not_false_eq_true, if_false, if_true] at *
          exact h2
      · by_cases g2 : b.gr = c.gr
        · rw [← g2]
          simp only [g1, not_false_eq_true, if_true] at *
          exact h1
        · simp only [g1, g2, not_false_eq_true, if_true] at *
          have := bl_trans h1 h2
          have hn : ¬ a.gr = c.gr := fun e => by rw [e, bl_irrefl] at this; cases this
          simp only [hn, not_false_eq_true, if_true]
          exact this
    · simp only [e1, e2, ne_eq, not_false_eq_true, if_true] at *
      exact h2
  · by_cases e2 : b.sc = c.sc
    · rw [← e2]
      simp only [e1, ne_eq, not_false_eq_true, if_true] at *
      exact h1
    · simp only [e1, e2, ne_eq, not_false_eq_true, if_true, decide_eq_true_eq] at *
      have hn : ¬ a.sc = c.sc := by omega
      simp only [hn, not_false_eq_true, if_true, decide_eq_true_eq]
      omega
/-- rising by places -/
def Rise (l : List Fd) : Prop := l.Pairwise fun a b => lessB a.at' b.at' = true
theorem rise_of_steps : ∀ {l : List Fd}, (∀ i, i < l.length → i = 0 ∨ lessB (l.getD (i - 1) default).at' (l.getD i default).at' = true) → Rise l
  | [], _ => List.Pairwise.nil
  | [a], _ => List.pairwise_singleton _ _
  | a :: b :: l, h => by
    have ih : Rise (b :: l) := rise_of_steps fun i hi => by
      cases i with
      | zero => exact .inl rfl
      | succ i =>
        have := h (i + 2) (by simp at hi ⊢; omega)
        right
        simpa using this
    have hab : lessB a.at' b.at' = true := by simpa using h 1 (by simp)
    refine List.pairwise_cons.2 ⟨fun x hx => ?_, ih⟩
    rcases List.mem_cons.1 hx with rfl | hx
    · exact hab
    · exact lb_trans hab ((List.pairwise_cons.1 ih).1 x hx)
theorem steps_of_rise {l : List Fd} (h : Rise l) : ∀ i, i < l.length → i = 0 ∨ lessB (l.getD (i - 1) default).at' (l.getD i default).at' = true := fun i hi => by
  by_cases h0 : i = 0
  · exact .inl h0
  · right
    rw [getD_lt (by omega), getD_lt hi]
    exact List.pairwise_iff_getElem.1 h (i - 1) i (by omega) hi (by omega)
theorem right_iff {l : List Fd} : rightL l = true ↔ l.length ≤ 16 ∧ Rise l ∧ ∀ f ∈ l, rightF f = true := by
  unfold rightL
  simp only [Bool.and_eq_true, Bool.not_eq_true', decide_eq_false_iff_not, List.all_eq_true, List.mem_range, fldOk, Bool.or_eq_true, decide_eq_true_eq]
  constructor
  · rintro ⟨h1, h2⟩
    refine ⟨by omega, rise_of_steps fun i hi => (h2 i hi).2, fun f hf => ?_⟩
    obtain ⟨i, hi, rfl⟩ := List.getElem_of_mem hf
    have := (h2 i hi).1
    rwa [getD_lt hi] at this
  · rintro ⟨h1, h2, h3⟩
    exact ⟨by omega, fun i hi => ⟨h3 _ (getD_mem hi), steps_of_rise h2 i hi⟩⟩
theorem rise_at {l : List Fd} (h : Rise l) {f g : Fd} (hf : f ∈ l) (hg : g ∈ l) (e : f.at' = g.at') : f = g := by
  obtain ⟨i, hi, rfl⟩ := List.getElem_of_mem hf
  obtain ⟨j, hj, rfl⟩ := List.getElem_of_mem hg
  rcases Nat.lt_trichotomy i j with h1 | h1 | h1
  · have := List.pairwise_iff_getElem.1 h i j hi hj h1
    rw [e, lb_irrefl] at this; cases this
  · subst h1; rfl
  · have := List.pairwise_iff_getElem.1 h j i hj hi h1
    rw [e, lb_irrefl] at this; cases this
end Go.Proofs.Ytnadlkjmdimjkaa

set_option linter.unusedSimpArgs false
set_option linter.unusedVariables false
set_option linter.unusedSimpArgs false
set_option linter.unusedVariables false
namespace Go.Proofs.Ytnadlkjmdimjkaa
open Go.PL
theorem atF_idx (l : List Fd) (r : Rf) : (idx (atF r) l = -1 ∧ ∀ g ∈ l, g.at' ≠ r) ∨ ∃ i : Nat, ∃ h : i < l.length, idx (atF r) l = (i : Int) ∧ (l[i]).at' = r := by
  unfold idx
  cases hf : l.findIdx? (atF r) with
  | none =>
    left
    refine ⟨rfl, fun g hg e => ?_⟩
    rw [List.findIdx?_eq_none_iff] at hf
    have := hf g hg
    simp [atF, e] at this
  | some i =>
    right
    rw [List.findIdx?_eq_some_iff_getElem] at hf
    obtain ⟨h1, h2, _⟩ := hf
    exact ⟨i, h1, rfl, by simpa [atF] using h2⟩
theorem wo_fwd {l : List Fd} {r : Rf} (h : (withoutM l r).2 = 0) : rightL l = true ∧ (∃ f ∈ l, f.at' = r) ∧ rightL (withoutM l r).1 = true ∧ (∀ g, g ∈ (withoutM l r).1 ↔ g ∈ l ∧ g.at' ≠ r) ∧ (withoutM l r).1.length + 1 = l.length := by
  unfold withoutM at *
  cases hr : rightL l with
  | false => rw [hr] at h; simp at h
  | true =>
    rcases atF_idx l r with ⟨h1, _⟩ | ⟨i, hi, h1, h2⟩
    · rw [hr, h1] at h; simp at h
    · simp only [h1, Bool.true_eq_false, if_false, show ¬ (i : Int) < 0 by omega, Int.toNat_natCast]
      obtain ⟨k1, k2, k3⟩ := right_iff.1 hr
      have hsub : (l.eraseIdx i).Sublist l := List.eraseIdx_sublist _ _
      have hlen : (l.eraseIdx i).length + 1 = l.length := by rw [List.length_eraseIdx_of_lt hi]; omega
      refine ⟨trivial, ⟨_, List.getElem_mem hi, h2⟩, right_iff.2 ⟨by omega, List.Pairwise.sublist hsub k2, fun f hf => k3 f (hsub.mem hf)⟩, fun g => ?_, hlen⟩
      rw [List.mem_eraseIdx_iff_getElem]
      constructor
      · rintro ⟨j, hj, hne, rfl⟩
        refine ⟨List.getElem_mem hj, fun e => ?_⟩
        have e2 := rise_at k2 (List.getElem_mem hj) (List.getElem_mem hi) (e.trans h2.symm)
        rcases Nat.lt_trichotomy j i with q | q | q
        · have := List.pairwise_iff_getElem.1 k2 j i hj hi q
          rw [e2, lb_irrefl] at this; cases this
        · exact hne q
        · have := List.pairwise_iff_getElem.1 k2 i j hi hj q
          rw [e2, lb_irrefl] at this; cases this
      · rintro ⟨hg, hne⟩
        obtain ⟨j, hj, rfl⟩ := List.getElem_of_mem hg
        exact ⟨j, hj, fun e => hne (by subst e; exact h2), rfl⟩
theorem go_fwd : ∀ {rs : List Rf} {l m : List Fd}, rightL l = true → goAll rs l = some m → rightL m = true ∧ (∀ g, g ∈ m ↔ g ∈ l ∧ g.at' ∉ rs) ∧ (∀ r ∈ rs, ∃ f ∈ l, f.at' = r) ∧ rs.Nodup ∧ m.length + rs.length = l.length
  | [], l, m, hr, h => by cases h; exact ⟨hr, by simp, by simp, by simp, by simp⟩
  | r :: rs, l, m, hr, h => by
    unfold goAll at h
    split at h
    · cases h
    · rename_i hz
      obtain ⟨a1, a2, a3, a4, a5⟩ := wo_fwd (by simpa using hz)
      obtain ⟨b1, b2, b3, b4, b5⟩ := go_fwd a3 h
      refine ⟨b1, fun g => ?_, fun q hq => ?_, List.nodup_cons.2 ⟨fun hin => ?_, b4⟩, by simp only [List.length_cons]; omega⟩
      · rw [b2, a4]
        simp only [List.mem_cons, not_or]
        exact ⟨fun h => ⟨h.1.1, h.1.2, h.2⟩, fun h => ⟨⟨h.1, h.2.1⟩, h.2.2⟩⟩
      · rcases List.mem_cons.1 hq with rfl | hq
        · exact a2
        · obtain ⟨f, hf, e⟩ := b3 q hq
          exact ⟨f, ((a4 f).1 hf).1, e⟩
      · obtain ⟨f, hf, e⟩ := b3 r hin
        exact ((a4 f).1 hf).2 e
theorem apply_fwd {l m : List Fd} {x : Ln} (h : applyM l x = (m, 0)) : rightL l = true ∧ rightLn x = true ∧ ∃ cs l1, arrM l x = (cs, true) ∧ goAll (goesR x) l = some l1 ∧ comeAll cs l1 = some m := by
  unfold applyM at h
  split at h
  · simp at h
  · rename_i hh
    simp only [not_or, Bool.not_eq_false] at hh
    refine ⟨hh.1, hh.2, ?_⟩
    split at h
    · simp at h
    · rename_i k hk
      simp only [Prod.mk.injEq, and_true] at h
      subst h
      unfold applyR at hk
      split at hk
      · cases hk
      · rename_i ha
        obtain ⟨l1, h1, h2⟩ := Option.bind_eq_some_iff.1 hk
        refine ⟨(arrM l x).1, l1, ?_, h1, h2⟩
        have : (arrM l x).2 = true := by simpa using ha
        rw [← this]
end Go.Proofs.Ytnadlkjmdimjkaa

set_option linter.unusedSimpArgs false
set_option linter.unusedVariables false
set_option linter.unusedSimpArgs false
set_option linter.unusedVariables false
namespace Go.Proofs.Ytnadlkjmdimjkaa
open Go.PL
end Go.Proofs.Ytnadlkjmdimjkaa

set_option linter.unusedSimpArgs false
set_option linter.unusedVariables false
set_option linter.unusedSimpArgs false
set_option linter.unusedVariables false
namespace Go.Proofs.Ytnadlkjmdimjkaa
open Go.PL
structure ChT where
  l : List Fd
  n : Nat
  c : Int
def chainA : List Fd → List Ln → Nat → ChT
  | fs, [], i => ⟨fs, i, 0⟩
  | fs, x :: xs, i => if (applyM fs x).2 ≠ 0 then ⟨[], i, (applyM fs x).2⟩ else chainA (applyM fs x).1 xs (i + 1)
structure ChS (l : List Fd) (row : List Ln) where
  k : Nat
  fs : List Fd
  hk : k ≤ row.length
  ok : OkFs fs
  h : chainA fs (row.drop k) k = chainA l row 0
theorem drop_ln {row : List Ln} {k : Nat} (hk : k < row.length) : row.drop k = row.getD k default :: row.drop (k + 1) := by
  rw [getD_lt hk, List.drop_eq_getElem_cons hk]
end Go.Proofs.Ytnadlkjmdimjkaa

set_option linter.unusedSimpArgs false
set_option linter.unusedVariables false
set_option linter.unusedSimpArgs false
set_option linter.unusedVariables false
namespace Go.Proofs.Ytnadlkjmdimjkaa
open Go.PL
end Go.Proofs.Ytnadlkjmdimjkaa

set_option linter.unusedSimpArgs false
set_option linter.unusedVariables false
set_option linter.unusedSimpArgs false
set_option linter.unusedVariables false
namespace Go.Proofs.Ytnadlkjmdimjkaa
open Go.PL
end Go.Proofs.Ytnadlkjmdimjkaa
