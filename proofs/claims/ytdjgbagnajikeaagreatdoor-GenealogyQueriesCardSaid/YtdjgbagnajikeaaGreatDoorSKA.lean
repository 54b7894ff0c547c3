/-
  What the frame asks of the world behind the door: its variables, its shape.
-/
import Derived.Test.YtdjgbagnajikeaaGreatDoorA0
import Derived.Test.YtdjgbagnajikeaaGreatDoorCards
import Derived.WalkKit
import Derived.ProofKit
import Derived.LaidMore
import Derived.OpenShut
import Derived.Stop.Joined
import Derived.SevenTiedAt
import Derived.Lib.LaidTab
import Derived.MakeChecks
set_option linter.unusedVariables false
set_option linter.unusedSimpArgs false
namespace Go.Proofs.YtdjgbagnajikeaaGreatDoor
open Go.ChangeShapes Go.WideShapes Go.ChangeAt Go.RowKit Go.Ab
namespace Law8
set_option maxRecDepth 100000 in
theorem k_a(os:Os):World.variablesRefB Tryz.prog ((World.doorLaid Tryz.prog 24 os).forCall (fun _ _=>0) ⟨#[],#[.slice none 0 0, .int .i64 0, .string ⟨#[]⟩],[]⟩)=true:=by kernel_rfl
set_option maxRecDepth 100000 in
theorem k_b(os:Os):List.take ((begin Tryz.prog (fun _ _=>0) default).world.heap.size-Tryz.prog.globals.size) (List.drop Tryz.prog.globals.size ((World.doorLaid Tryz.prog 24 os).forCall (fun _ _=>0) ⟨#[],#[.slice none 0 0, .int .i64 0, .string ⟨#[]⟩],[]⟩).heap.toList)=List.drop Tryz.prog.globals.size (begin Tryz.prog (fun _ _=>0) default).world.heap.toList:=by kernel_rfl
end Law8
end Go.Proofs.YtdjgbagnajikeaaGreatDoor
