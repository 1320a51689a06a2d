/- Lemmas of the proof. -/
import Derived.Test.YtepchngegclagaaGreatPlH
import Derived.Test.YtepchngegclagaaGreatXAa
import Derived.Test.YtepchngegclagaaGreatXAh
import Derived.Test.YtepchngegclagaaGreatXAn
import Derived.Test.YtepchngegclagaaGreatXAz
namespace Go.Proofs.YtepchngegclagaaGreat
set_option maxHeartbeats 64000000
set_option maxRecDepth 20000
set_option linter.unusedVariables false
set_option linter.unusedSimpArgs false
open Go.PL
end Go.Proofs.YtepchngegclagaaGreat
