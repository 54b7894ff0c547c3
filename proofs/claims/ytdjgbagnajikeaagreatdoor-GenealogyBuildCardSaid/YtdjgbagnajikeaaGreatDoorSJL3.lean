/-
  What the frame of the statement asks of the program, each part checked by itself.
-/
import Derived.Test.YtdjgbagnajikeaaGreatDoorA1
import Derived.Test.YtdjgbagnajikeaaGreatDoorCards
import Derived.ProofKit
import Derived.OpenShut
set_option linter.unusedVariables false
set_option linter.unusedSimpArgs false
namespace Go.Proofs.YtdjgbagnajikeaaGreatDoor
open Go.ChangeShapes Go.WideShapes Go.ChangeAt Go.RowKit Go.Ab
namespace Law3
theorem and2{a b:Bool}(h:a=true)(k:b=true):(a&&b)=true:=by rw[h,k];rfl
set_option maxHeartbeats 4000000 in
set_option maxRecDepth 100000 in
theorem closed:joinedFacts Tryz.pinned.checked.prog 3 Tryz.f3 Rows.genealogyBuildSpec Rows.genealogyBuildRow=true:=by
 unfold joinedFacts
 repeat' (with_reducible refine and2 ?_ ?_)
 all_goals (as_aux_lemma=>kernel_rfl)
end Law3
end Go.Proofs.YtdjgbagnajikeaaGreatDoor
