/-
  What the frame asks of the variables that the text lays.
-/
import Derived.Test.YtdjgbagnajikeaaGreatDoorA0
import Derived.Test.YtdjgbagnajikeaaGreatDoorCards
import Derived.WalkKit
import Derived.ProofKit
import Derived.LaidMore
import Derived.OpenShut
import Derived.Stop.Joined
import Derived.SevenTiedAt
import Derived.Lib.LaidTab
import Derived.MakeChecks
set_option linter.unusedVariables false
set_option linter.unusedSimpArgs false
namespace Go.Proofs.YtdjgbagnajikeaaGreatDoor
open Go.ChangeShapes Go.WideShapes Go.ChangeAt Go.RowKit Go.Ab
namespace Law8
set_option maxRecDepth 100000 in
theorem door_met(os:Os)(args:Array Value):laidMetH Tryz.prog Rows.genealogyQueriesRow.laid ((World.doorLaid Tryz.prog 24 os).forCall (fun _ _=>0) ⟨#[],args,[]⟩).memory:=
 laidMetH_of_parts3 (fuel:=8) (laidMet_of_run' 8 Ac Ac) Ac Ac
set_option maxRecDepth 100000 in
theorem k_fn:Tryz.pinned.checked.prog.funcNamed Rows.genealogyQueriesRow.func=some 8:=by kernel_rfl
set_option maxRecDepth 100000 in
theorem k_looks:false=Tryz.pinned.checked.prog.looks [] :=by kernel_rfl
end Law8
end Go.Proofs.YtdjgbagnajikeaaGreatDoor
