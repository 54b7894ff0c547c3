/- Lemmas. -/
import Derived.Test.YtecbpikbjfihmaaGreatDoorA1
import Derived.Test.YtecbpikbjfihmaaGreatDoorCards
import Derived.ProofKit
import Derived.LaidMore
import Derived.OpenShut
import Derived.Stop.Joined
import Derived.SevenTiedAt
import Derived.Lib.LaidTab
import Derived.MakeChecks
set_option linter.all false
set_option autoImplicit true
set_option relaxedAutoImplicit true
namespace Go.Proofs.YtecbpikbjfihmaaGreatDoor
open Go.ChangeShapes Go.WideShapes Go.ChangeAt Go.RowKit Go.Ab
namespace Law3
set_option maxRecDepth 100000 in
def door_met(os:Os)(args:Array Value):laidMetH Tryz.prog Rows.genealogyLedgerRow.laid ((World.doorLaid Tryz.prog 24 os).forCall (λ_ _=>0) ⟨#[],args,[]⟩).memory:=
 laidMetH_of_parts3 (fuel:=8) (laidMet_of_run' 8 Ac Ac) Ac Ac
set_option maxRecDepth 100000 in
def k_fn:Tryz.pinned.checked.prog.funcNamed Rows.genealogyLedgerRow.func=some 3:=Ac
set_option maxRecDepth 100000 in
def k_looks:false=Tryz.pinned.checked.prog.looks [] :=Ac
end Law3
end Go.Proofs.YtecbpikbjfihmaaGreatDoor
