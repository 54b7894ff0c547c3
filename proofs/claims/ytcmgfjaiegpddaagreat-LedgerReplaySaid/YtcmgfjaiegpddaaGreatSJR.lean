/- Lemmas. -/
import Derived.Test.YtcmgfjaiegpddaaGreatA0
import Derived.Test.YtcmgfjaiegpddaaGreatRows
import Derived.WalkKit
import Derived.ProofKit
import Derived.OpenShut
set_option linter.all false
namespace Go.Proofs.YtcmgfjaiegpddaaGreat
open Go.Ab
namespace Law4
def and2{a b:Bool}(h:a=true)(k:b=true):(a&&b)=true:=by rw[h,k];rfl
set_option maxHeartbeats 4000000 in
set_option maxRecDepth 100000 in
def closed:joinedFacts Tryz.pinned.checked.prog 4 Tryz.f4 Rows.ledgerReplaySpec Rows.ledgerReplayRow=true:=by
 unfold joinedFacts;repeat' (with_reducible refine and2 ?_ ?_)
 all_goals (as_aux_lemma=>kernel_rfl)
end Law4
end Go.Proofs.YtcmgfjaiegpddaaGreat
