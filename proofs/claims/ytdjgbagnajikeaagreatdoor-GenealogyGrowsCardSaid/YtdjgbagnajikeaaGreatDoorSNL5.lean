/-
  What the frame asks of the functions that the row goes by.
-/
import Derived.Test.YtdjgbagnajikeaaGreatDoorA2
import Derived.Test.YtdjgbagnajikeaaGreatDoorCards
import Derived.ProofKit
import Derived.LaidMore
import Derived.OpenShut
import Derived.Stop.Joined
import Derived.SevenTiedAt
import Derived.Lib.LaidTab
import Derived.MakeChecks
set_option linter.unusedVariables false
set_option linter.unusedSimpArgs false
namespace Go.Proofs.YtdjgbagnajikeaaGreatDoor
open Go.ChangeShapes Go.WideShapes Go.ChangeAt Go.RowKit Go.Ab
namespace Law5
set_option maxRecDepth 100000 in
theorem k_goes:false=Rows.genealogyGrowsRow.goesBy Tryz.pinned.checked.prog:=Ac
end Law5
end Go.Proofs.YtdjgbagnajikeaaGreatDoor
