/-
  DERIVED. GIVEN WITH THE SEED: THE CARDS: each row of YtkhhdojgbkophaaGreatDoorRows.lean that lists a variable, with what it lists TIED to the program's text (the seventh form; the later family's looks); each row that meets fmt, with fmt's text TOLD by the authors' own Lean function (tested against real Go, not proved from fmt's source: count such statements apart). THE CARD IS WHAT COUNTS. Prove the row's statement (the work); the ties are given (YtkhhdojgbkophaaGreatDoorTie.lean); close each card by the builder's one call (the guide's Derived/Test/ToyasCard.lean, 'card_holds'). Laid BY PROGRAM, IN A SANDBOX (cutbox-door.mjs). By AI agents, Wed Nov 11 2026. No macro, syntax, notation, axiom, sorry.
-/
import Derived.Test.YtkhhdojgbkophaaGreatDoorRows
import GoSem.ClaimSeven
namespace Go.Proofs.YtkhhdojgbkophaaGreatDoor
namespace Rows

/-- THE TIED CARD OF 'fretsawlaw58.CostAccount'. -/
def costAccountCard : Claim7 := { stood := { row := costAccountRow, standIns := [], harness := (true, "e5de35b60a8dcafb865e02c4f2bb98e72af435aff50b479eb1e237ff965aa68b"), looks := false }, kinds := [], alts := [], laidByText := true, laidKinds := [.data, .data, .data], laidTests := true, laidLooks := .later }
def CostAccountCardSaid : Prop := Claim7.holds Tryz.pinned (.plain (OpenSpec.ofChange costAccountSpec)) costAccountCard

/-- THE TIED CARD OF 'fretsawlaw58.CostBooks'. -/
def costBooksCard : Claim7 := { stood := { row := costBooksRow, standIns := [], harness := (true, "e5de35b60a8dcafb865e02c4f2bb98e72af435aff50b479eb1e237ff965aa68b"), looks := false }, kinds := [], alts := [], laidByText := true, laidKinds := [.data, .data, .data], laidTests := true, laidLooks := .later }
def CostBooksCardSaid : Prop := Claim7.holds Tryz.pinned (.plain (OpenSpec.ofChange costBooksSpec)) costBooksCard

/-- THE SECOND FORM's CARD OF 'fretsawlaw58.CostAccount'. -/
def costAccountUptoCard : Claim7 := { stood := { row := costAccountUptoRow, standIns := [], harness := (true, "e5de35b60a8dcafb865e02c4f2bb98e72af435aff50b479eb1e237ff965aa68b"), looks := false }, kinds := [], alts := [], laidByText := true, laidKinds := [.data, .data, .data], laidTests := true, laidLooks := .later }
def CostAccountUptoCardSaid : Prop := Claim7.holds Tryz.pinned (.plain (OpenSpec.upto costAccountSpec)) costAccountUptoCard

/-- THE SECOND FORM's CARD OF 'fretsawlaw58.CostBooks'. -/
def costBooksUptoCard : Claim7 := { stood := { row := costBooksUptoRow, standIns := [], harness := (true, "e5de35b60a8dcafb865e02c4f2bb98e72af435aff50b479eb1e237ff965aa68b"), looks := false }, kinds := [], alts := [], laidByText := true, laidKinds := [.data, .data, .data], laidTests := true, laidLooks := .later }
def CostBooksUptoCardSaid : Prop := Claim7.holds Tryz.pinned (.plain (OpenSpec.upto costBooksSpec)) costBooksUptoCard
end Rows
end Go.Proofs.YtkhhdojgbkophaaGreatDoor
