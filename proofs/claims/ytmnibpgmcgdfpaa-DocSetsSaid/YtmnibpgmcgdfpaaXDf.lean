/- Contracts of functions and laws of this seat, each for every input that it names: lemmas of the proof. -/
import Derived.Test.YtmnibpgmcgdfpaaPlL
import Derived.Test.YtmnibpgmcgdfpaaXAa
import Derived.Test.YtmnibpgmcgdfpaaXAc
import Derived.Test.YtmnibpgmcgdfpaaXAn
import Derived.Test.YtmnibpgmcgdfpaaXAu
import Derived.Test.YtmnibpgmcgdfpaaXBi
import Derived.Test.YtmnibpgmcgdfpaaXBq
import Derived.Test.YtmnibpgmcgdfpaaXBu
set_option linter.unusedSimpArgs false
set_option linter.unusedVariables false
set_option linter.unusedSimpArgs false
set_option linter.unusedVariables false
namespace Go.Proofs.Ytmnibpgmcgdfpaa
open Go.PL
structure OkDd (d : Dc) : Prop where
  h : d.head.length ≤ 100000
  r : d.rows.length ≤ 100000
  e : ∀ e ∈ d.head, e.l.length ≤ 1000000
  s : ∀ r ∈ d.rows, r.l.length ≤ 100000 ∧ ∀ e ∈ r.l, e.l.length ≤ 1000000
theorem OkDd.fine {d : Dc} (h : OkDd d) : Fine d := by
  have e := maxLen_eq
  refine ⟨by have := h.h; omega, by have := h.r; omega, fun x hx => by have := h.e x hx; omega, fun r hr => ⟨by have := (h.s r hr).1; omega, fun x hx => by have := (h.s r hr).2 x hx; omega⟩⟩
/-- how far the merging has come, and what has been told -/
structure DiX (p q : List Rw) (h0 : List Cg) where
  P : List Rw
  Q : List Rw
  acc : List Cg
  id : Nat
  hP : ∀ r ∈ P, r ∈ p
  hQ : ∀ r ∈ Q, r ∈ q
  hl : acc.length + 16 * (P.length + Q.length) ≤ 16 + 16 * (p.length + q.length)
  h : acc ++ diffR P Q = h0 ++ diffR p q
  hid : id = 25 ∨ id = 91 ∨ id = 121 ∨ id = 44
end Go.Proofs.Ytmnibpgmcgdfpaa
