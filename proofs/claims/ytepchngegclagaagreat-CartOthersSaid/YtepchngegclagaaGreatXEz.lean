/- Lemmas of the proof. -/
import Derived.Test.YtepchngegclagaaGreatPlH
import Derived.Test.YtepchngegclagaaGreatXAa
import Derived.Test.YtepchngegclagaaGreatXAh
import Derived.Test.YtepchngegclagaaGreatXAn
import Derived.Test.YtepchngegclagaaGreatXAz
import Derived.Test.YtepchngegclagaaGreatXCc
import Derived.Test.YtepchngegclagaaGreatXEy
namespace Go.Proofs.YtepchngegclagaaGreat
set_option maxHeartbeats 64000000
set_option maxRecDepth 20000
set_option linter.unusedVariables false
set_option linter.unusedSimpArgs false
open Go.PL
structure WyS (m:List Eg) (id0:Tg) where
 k:Nat
 id:Tg
 way:List Eg
 hk:k<=m.length+1
 hl:way.length=k
 h:Zn0 m (m.length+1-k) id way=ZiC m id0
open Go.PL
open Go.PL
open Go.PL
end Go.Proofs.YtepchngegclagaaGreat
