/- Lemmas. -/
import Derived.Test.YtcmgfjaiegpddaaGreatB19
import Derived.Test.YtcmgfjaiegpddaaGreatB28
set_option linter.all false
set_option maxRecDepth 100000
set_option maxHeartbeats 4000000
noncomputable section
namespace Go.Proofs.Led
open Go Go.Proofs Go.Ab
end Go.Proofs.Led
