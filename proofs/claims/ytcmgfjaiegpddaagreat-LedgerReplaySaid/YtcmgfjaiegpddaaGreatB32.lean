/- Lemmas. -/
import Derived.Test.YtcmgfjaiegpddaaGreatB29
import Derived.Test.YtcmgfjaiegpddaaGreatB23
import Derived.Test.YtcmgfjaiegpddaaGreatB31
set_option linter.all false
set_option maxRecDepth 100000
set_option maxHeartbeats 8000000
noncomputable section
namespace Go.Proofs.Led
open Go Go.Proofs Go.Ab
end Go.Proofs.Led
