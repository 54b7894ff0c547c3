/- Lemmas. -/
import Derived.Test.YtecbpikbjfihmaaGreatDoorA1
import Derived.Test.YtecbpikbjfihmaaGreatDoorCards
import Derived.ProofKit
import Derived.LaidMore
import Derived.OpenShut
import Derived.Stop.Joined
import Derived.SevenTiedAt
import Derived.Lib.LaidTab
import Derived.MakeChecks
set_option linter.all false
set_option autoImplicit true
set_option relaxedAutoImplicit true
namespace Go.Proofs.YtecbpikbjfihmaaGreatDoor
open Go.ChangeShapes Go.WideShapes Go.ChangeAt Go.RowKit Go.Ab
namespace Law3
set_option maxRecDepth 100000 in
def k_a(os:Os):World.variablesRefB Tryz.prog ((World.doorLaid Tryz.prog 24 os).forCall (λ_ _=>0) ⟨#[], #[.slice none 0 0],[]⟩)=true:=Ac
set_option maxRecDepth 100000 in
def k_b(os:Os):List.take ((begin Tryz.prog (λ_ _=>0) default).world.heap.size-Tryz.prog.globals.size) (List.drop Tryz.prog.globals.size ((World.doorLaid Tryz.prog 24 os).forCall (λ_ _=>0) ⟨#[], #[.slice none 0 0],[]⟩).heap.toList)=List.drop Tryz.prog.globals.size (begin Tryz.prog (λ_ _=>0) default).world.heap.toList:=Ac
end Law3
end Go.Proofs.YtecbpikbjfihmaaGreatDoor
