/- Contracts of functions and laws of this seat, each for every input that it names: lemmas of the proof. -/
import Derived.Test.YtmnibpgmcgdfpaaPlL
import Derived.Test.YtmnibpgmcgdfpaaXAa
import Derived.Test.YtmnibpgmcgdfpaaXAc
import Derived.Test.YtmnibpgmcgdfpaaXAn
import Derived.Test.YtmnibpgmcgdfpaaXAu
import Derived.Test.YtmnibpgmcgdfpaaXBq
import Derived.Test.YtmnibpgmcgdfpaaXBu
import Derived.Test.YtmnibpgmcgdfpaaXDf
set_option linter.unusedSimpArgs false
set_option linter.unusedVariables false
set_option linter.unusedSimpArgs false
set_option linter.unusedVariables false
namespace Go.Proofs.Ytmnibpgmcgdfpaa
open Go.PL
/-- how far it has come: items, what is told, the number of its row -/
structure DrX (n : Nat) (f : Str → List Cg) (its : List Str) (h0 : List Cg) where
  k : Nat
  acc : List Cg
  id : Nat
  hk : k ≤ its.length
  hl : acc.length ≤ 16 + 16 * k
  h : acc = h0 ++ (its.take k).flatMap f
  hid : id = 29 ∨ id = 94 ∨ id = 110 ∨ id = 129
end Go.Proofs.Ytmnibpgmcgdfpaa
