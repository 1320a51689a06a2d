/- Contracts of functions and laws of this seat, each for every input that it names: lemmas of the proof. -/
import Derived.Test.YtmnibpgmcgdfpaaPlL
import Derived.Test.YtmnibpgmcgdfpaaXAa
import Derived.Test.YtmnibpgmcgdfpaaXAc
import Derived.Test.YtmnibpgmcgdfpaaXAn
import Derived.Test.YtmnibpgmcgdfpaaXBi
import Derived.Test.YtmnibpgmcgdfpaaXBq
import Derived.Test.YtmnibpgmcgdfpaaXBu
import Derived.Test.YtmnibpgmcgdfpaaXDf
set_option linter.unusedSimpArgs false
set_option linter.unusedVariables false
set_option linter.unusedSimpArgs false
set_option linter.unusedVariables false
namespace Go.Proofs.Ytmnibpgmcgdfpaa
open Go.PL
end Go.Proofs.Ytmnibpgmcgdfpaa
