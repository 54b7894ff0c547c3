/- Lemmas. -/
import Derived.Test.YtcmgfjaiegpddaaGreatB28
import Derived.Test.YtcmgfjaiegpddaaGreatB30
set_option linter.all false
set_option maxRecDepth 100000
set_option maxHeartbeats 8000000
noncomputable section
namespace Go.Proofs.Led
open Go Go.Proofs Go.Ab
def hK(x:aN):ByteArray:=if x.isBar then x.bar.heat else x.sheet.heat
end Go.Proofs.Led
