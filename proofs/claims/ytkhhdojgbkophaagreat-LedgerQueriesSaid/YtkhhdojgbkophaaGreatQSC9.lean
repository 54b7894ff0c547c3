/-
  What the frame of the statement asks of the program, each part checked by itself.
-/
import Derived.Test.YtkhhdojgbkophaaGreatQA0
import Derived.Test.YtkhhdojgbkophaaGreatRows
import Derived.WalkKit
import Derived.ProofKit
import Derived.OpenShut
set_option linter.unusedVariables false
set_option linter.unusedSimpArgs false
namespace Go.Proofs.YtkhhdojgbkophaaGreat
open Go.Ab
namespace Law9
theorem and2{a b:Bool}(h:a=true)(k:b=true):(a&&b)=true:=by rw[h,k];rfl
set_option maxHeartbeats 4000000 in
set_option maxRecDepth 100000 in
theorem closed:joinedFacts Tryz.pinned.checked.prog 9 Tryz.f9 Rows.ledgerQueriesSpec Rows.ledgerQueriesRow=true:=by
 unfold joinedFacts
 repeat' (with_reducible refine and2 ?_ ?_)
 all_goals (as_aux_lemma=>kernel_rfl)
end Law9
end Go.Proofs.YtkhhdojgbkophaaGreat
