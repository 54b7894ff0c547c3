/- Lemmas. -/
import Derived.Test.YtecbpikbjfihmaaGreatDoorA1
import Derived.Test.YtecbpikbjfihmaaGreatDoorCards
import Derived.ProofKit
import Derived.LaidMore
import Derived.OpenShut
import Derived.Stop.Joined
import Derived.SevenTiedAt
import Derived.Lib.LaidTab
import Derived.MakeChecks
set_option linter.all false
set_option autoImplicit true
set_option relaxedAutoImplicit true
namespace Go.Proofs.YtecbpikbjfihmaaGreatDoor
open Go.ChangeShapes Go.WideShapes Go.ChangeAt Go.RowKit Go.Ab
namespace Law3
set_option maxRecDepth 100000 in
def k_goes:false=Rows.genealogyLedgerRow.goesBy Tryz.pinned.checked.prog:=Ac
end Law3
end Go.Proofs.YtecbpikbjfihmaaGreatDoor
