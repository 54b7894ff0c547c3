/-
  What the frame of the statement asks of the program, each part checked by itself.
-/
import Derived.Test.YtkhhdojgbkophaaGreatDoorBA0
import Derived.Test.YtkhhdojgbkophaaGreatDoorCards
import Derived.WalkKit
import Derived.ProofKit
import Derived.OpenShut
set_option linter.unusedVariables false
set_option linter.unusedSimpArgs false
namespace Go.Proofs.YtkhhdojgbkophaaGreatDoor
open Go.Ab
namespace Law4
theorem and2{a b:Bool}(h:a=true)(k:b=true):(a&&b)=true:=by rw[h,k];rfl
set_option maxHeartbeats 4000000 in
set_option maxRecDepth 100000 in
theorem closed:joinedFacts Tryz.pinned.checked.prog 4 Tryz.f4 Rows.costBooksSpec Rows.costBooksRow=true:=by
 unfold joinedFacts
 repeat' (with_reducible refine and2 ?_ ?_)
 all_goals (as_aux_lemma=>kernel_rfl)
end Law4
end Go.Proofs.YtkhhdojgbkophaaGreatDoor
