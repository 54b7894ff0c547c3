/-
  DERIVED. GIVEN WITH THE SEED: THE CARDS: each row of YtckcanemolkncaaDoorRows.lean that lists a variable, with what it lists TIED to the program's text (the seventh form; the later family's looks); each row that meets fmt, with fmt's text TOLD by the authors' own Lean function (tested against real Go, not proved from fmt's source: count such statements apart). THE CARD IS WHAT COUNTS. Prove the row's statement (the work); the ties are given (YtckcanemolkncaaDoorTie.lean); close each card by the builder's one call (the guide's Derived/Test/ToyasCard.lean, 'card_holds'). Laid BY PROGRAM, IN A SANDBOX (cutbox-door.mjs). By AI agents, Wed Nov 11 2026. No macro, syntax, notation, axiom, sorry.
-/
import Derived.Test.YtckcanemolkncaaDoorRows
import GoSem.ClaimSeven
namespace Go.Proofs.YtckcanemolkncaaDoor
namespace Rows

/-- THE TIED CARD OF 'fretsawlaw58.CostShare'. -/
def costShareCard : Claim7 := { stood := { row := costShareRow, standIns := [], harness := (true, "d98766b648616a56a1c9eac6a35d31fb38d0c44922e51cb37dfbe33560cf1455"), looks := true }, kinds := [], alts := [], laidByText := true, laidKinds := [.data, .data, .data], laidTests := true, laidLooks := .later }
def CostShareCardSaid : Prop := Claim7.holds Tryd.pinned (.plain (OpenSpec.ofChange costShareSpec)) costShareCard

/-- THE TIED CARD OF 'fretsawlaw58.CostWork'. -/
def costWorkCard : Claim7 := { stood := { row := costWorkRow, standIns := [], harness := (true, "d98766b648616a56a1c9eac6a35d31fb38d0c44922e51cb37dfbe33560cf1455"), looks := true }, kinds := [], alts := [], laidByText := true, laidKinds := [.data, .data, .data], laidTests := true, laidLooks := .later }
def CostWorkCardSaid : Prop := Claim7.holds Tryd.pinned (.plain (OpenSpec.ofChange costWorkSpec)) costWorkCard

/-- THE TIED CARD OF 'fretsawlaw58.CostProgram'. -/
def costProgramCard : Claim7 := { stood := { row := costProgramRow, standIns := [], harness := (true, "d98766b648616a56a1c9eac6a35d31fb38d0c44922e51cb37dfbe33560cf1455"), looks := true }, kinds := [], alts := [], laidByText := true, laidKinds := [.data, .data, .data], laidTests := true, laidLooks := .later }
def CostProgramCardSaid : Prop := Claim7.holds Tryd.pinned (.plain (OpenSpec.ofChange costProgramSpec)) costProgramCard

/-- THE TIED CARD OF 'fretsawlaw58.CostJoin'. -/
def costJoinCard : Claim7 := { stood := { row := costJoinRow, standIns := [], harness := (true, "d98766b648616a56a1c9eac6a35d31fb38d0c44922e51cb37dfbe33560cf1455"), looks := true }, kinds := [], alts := [], laidByText := true, laidKinds := [.data, .data, .data], laidTests := true, laidLooks := .later }
def CostJoinCardSaid : Prop := Claim7.holds Tryd.pinned (.plain (OpenSpec.ofChange costJoinSpec)) costJoinCard

/-- THE TIED CARD OF 'fretsawlaw58.CostNames'. -/
def costNamesCard : Claim7 := { stood := { row := costNamesRow, standIns := [], harness := (true, "d98766b648616a56a1c9eac6a35d31fb38d0c44922e51cb37dfbe33560cf1455"), looks := true }, kinds := [], alts := [], laidByText := true, laidKinds := [.data, .data, .data], laidTests := true, laidLooks := .later }
def CostNamesCardSaid : Prop := Claim7.holds Tryd.pinned (.plain (OpenSpec.ofChange costNamesSpec)) costNamesCard

/-- THE TIED CARD OF 'fretsawlaw58.CostLabel'. -/
def costLabelCard : Claim7 := { stood := { row := costLabelRow, standIns := [], harness := (true, "d98766b648616a56a1c9eac6a35d31fb38d0c44922e51cb37dfbe33560cf1455"), looks := true }, kinds := [], alts := [], laidByText := true, laidKinds := [.data, .data, .data, .sentinel, .sentinel], laidTests := true, laidLooks := .later }
def CostLabelCardSaid : Prop := Claim7.holds Tryd.pinned (.plain (OpenSpec.ofChange costLabelSpec)) costLabelCard

/-- THE TIED CARD OF 'fretsawlaw58.CostRead'. -/
def costReadCard : Claim7 := { stood := { row := costReadRow, standIns := [], harness := (true, "d98766b648616a56a1c9eac6a35d31fb38d0c44922e51cb37dfbe33560cf1455"), looks := true }, kinds := [], alts := [], laidByText := true, laidKinds := [.data, .data, .data, .sentinel, .sentinel], laidTests := true, laidLooks := .later }
def CostReadCardSaid : Prop := Claim7.holds Tryd.pinned (.plain (OpenSpec.ofChange costReadSpec)) costReadCard

/-- THE SECOND FORM's CARD OF 'fretsawlaw58.CostShare'. -/
def costShareUptoCard : Claim7 := { stood := { row := costShareUptoRow, standIns := [], harness := (true, "d98766b648616a56a1c9eac6a35d31fb38d0c44922e51cb37dfbe33560cf1455"), looks := true }, kinds := [], alts := [], laidByText := true, laidKinds := [.data, .data, .data], laidTests := true, laidLooks := .later }
def CostShareUptoCardSaid : Prop := Claim7.holds Tryd.pinned (.plain (OpenSpec.upto costShareSpec)) costShareUptoCard

/-- THE SECOND FORM's CARD OF 'fretsawlaw58.CostWork'. -/
def costWorkUptoCard : Claim7 := { stood := { row := costWorkUptoRow, standIns := [], harness := (true, "d98766b648616a56a1c9eac6a35d31fb38d0c44922e51cb37dfbe33560cf1455"), looks := true }, kinds := [], alts := [], laidByText := true, laidKinds := [.data, .data, .data], laidTests := true, laidLooks := .later }
def CostWorkUptoCardSaid : Prop := Claim7.holds Tryd.pinned (.plain (OpenSpec.upto costWorkSpec)) costWorkUptoCard

/-- THE SECOND FORM's CARD OF 'fretsawlaw58.CostProgram'. -/
def costProgramUptoCard : Claim7 := { stood := { row := costProgramUptoRow, standIns := [], harness := (true, "d98766b648616a56a1c9eac6a35d31fb38d0c44922e51cb37dfbe33560cf1455"), looks := true }, kinds := [], alts := [], laidByText := true, laidKinds := [.data, .data, .data], laidTests := true, laidLooks := .later }
def CostProgramUptoCardSaid : Prop := Claim7.holds Tryd.pinned (.plain (OpenSpec.upto costProgramSpec)) costProgramUptoCard

/-- THE SECOND FORM's CARD OF 'fretsawlaw58.CostJoin'. -/
def costJoinUptoCard : Claim7 := { stood := { row := costJoinUptoRow, standIns := [], harness := (true, "d98766b648616a56a1c9eac6a35d31fb38d0c44922e51cb37dfbe33560cf1455"), looks := true }, kinds := [], alts := [], laidByText := true, laidKinds := [.data, .data, .data], laidTests := true, laidLooks := .later }
def CostJoinUptoCardSaid : Prop := Claim7.holds Tryd.pinned (.plain (OpenSpec.upto costJoinSpec)) costJoinUptoCard

/-- THE SECOND FORM's CARD OF 'fretsawlaw58.CostNames'. -/
def costNamesUptoCard : Claim7 := { stood := { row := costNamesUptoRow, standIns := [], harness := (true, "d98766b648616a56a1c9eac6a35d31fb38d0c44922e51cb37dfbe33560cf1455"), looks := true }, kinds := [], alts := [], laidByText := true, laidKinds := [.data, .data, .data], laidTests := true, laidLooks := .later }
def CostNamesUptoCardSaid : Prop := Claim7.holds Tryd.pinned (.plain (OpenSpec.upto costNamesSpec)) costNamesUptoCard

/-- THE SECOND FORM's CARD OF 'fretsawlaw58.CostLabel'. -/
def costLabelUptoCard : Claim7 := { stood := { row := costLabelUptoRow, standIns := [], harness := (true, "d98766b648616a56a1c9eac6a35d31fb38d0c44922e51cb37dfbe33560cf1455"), looks := true }, kinds := [], alts := [], laidByText := true, laidKinds := [.data, .data, .data, .sentinel, .sentinel], laidTests := true, laidLooks := .later }
def CostLabelUptoCardSaid : Prop := Claim7.holds Tryd.pinned (.plain (OpenSpec.upto costLabelSpec)) costLabelUptoCard

/-- THE SECOND FORM's CARD OF 'fretsawlaw58.CostRead'. -/
def costReadUptoCard : Claim7 := { stood := { row := costReadUptoRow, standIns := [], harness := (true, "d98766b648616a56a1c9eac6a35d31fb38d0c44922e51cb37dfbe33560cf1455"), looks := true }, kinds := [], alts := [], laidByText := true, laidKinds := [.data, .data, .data, .sentinel, .sentinel], laidTests := true, laidLooks := .later }
def CostReadUptoCardSaid : Prop := Claim7.holds Tryd.pinned (.plain (OpenSpec.upto costReadSpec)) costReadUptoCard
end Rows
end Go.Proofs.YtckcanemolkncaaDoor
