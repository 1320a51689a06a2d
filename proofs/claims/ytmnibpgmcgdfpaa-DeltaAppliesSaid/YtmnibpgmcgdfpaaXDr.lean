/- Contracts of functions and laws of this seat, each for every input that it names: lemmas of the proof. -/
import Derived.Test.YtmnibpgmcgdfpaaPlM
import Derived.Test.YtmnibpgmcgdfpaaXAa
import Derived.Test.YtmnibpgmcgdfpaaXAc
import Derived.Test.YtmnibpgmcgdfpaaXAd
import Derived.Test.YtmnibpgmcgdfpaaXBl
import Derived.Test.YtmnibpgmcgdfpaaXCb
import Derived.Test.YtmnibpgmcgdfpaaXCy
import Derived.Test.YtmnibpgmcgdfpaaXDd
import Derived.Test.YtmnibpgmcgdfpaaXDf
namespace Go.Proofs.Ytmnibpgmcgdfpaa
set_option maxHeartbeats 64000000
set_option maxRecDepth 20000
set_option linter.unusedVariables false
set_option linter.unusedSimpArgs false
open Go.PL Go.RowKit
theorem Zbs:OkDd (default:Dc) where
 h:=by decide
 r:=by decide
 e:=fun e he=>by cases he
 s:=fun r hr=>by cases hr
end Go.Proofs.Ytmnibpgmcgdfpaa
