/-
  Frame facts.
-/
import Derived.Test.YtdjgbagnajikeaaGreatDoorA1
import Derived.Test.YtdjgbagnajikeaaGreatDoorCards
import Derived.ProofKit
import Derived.LaidMore
import Derived.OpenShut
import Derived.Stop.Joined
import Derived.SevenTiedAt
import Derived.Lib.LaidTab
import Derived.MakeChecks
set_option linter.unusedVariables false
set_option linter.unusedSimpArgs false
namespace Go.Proofs.YtdjgbagnajikeaaGreatDoor
open Go.ChangeShapes Go.WideShapes Go.ChangeAt Go.RowKit Go.Ab
namespace Law3
set_option maxRecDepth 100000 in
theorem k_goes:false=Rows.genealogyBuildRow.goesBy Tryz.pinned.checked.prog:=Ac
end Law3
end Go.Proofs.YtdjgbagnajikeaaGreatDoor
