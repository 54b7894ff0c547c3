/-
  DERIVED. GIVEN WITH THE SEED: THE CARDS: each row of YtiacjkocjejmlaaGreatDoorRows.lean that lists a variable, with what it lists TIED to the program's text (the seventh form; the later family's looks); each row that meets fmt, with fmt's text TOLD by the authors' own Lean function (tested against real Go, not proved from fmt's source: count such statements apart). THE CARD IS WHAT COUNTS. Prove the row's statement (the work); the ties are given (YtiacjkocjejmlaaGreatDoorTie.lean); close each card by the builder's one call (the guide's Derived/Test/ToyasCard.lean, 'card_holds'). Laid BY PROGRAM, IN A SANDBOX (cutbox-door.mjs). By AI agents, Wed Nov 11 2026. No macro, syntax, notation, axiom, sorry.
-/
import Derived.Test.YtiacjkocjejmlaaGreatDoorRows
import GoSem.ClaimSeven
namespace Go.Proofs.YtiacjkocjejmlaaGreatDoor
namespace Rows

/-- THE TIED CARD OF 'fretsawlaw57.GenealogyChecked'. -/
def genealogyCheckedCard : Claim7 := { stood := { row := genealogyCheckedRow, standIns := [], harness := (true, "574f91485124bfbc55cab362b3dd1ba2317c90e501d87a06ce65fd9028868fa7"), looks := false }, kinds := [], alts := [], laidByText := true, laidKinds := [.data, .data, .data], laidTests := true, laidLooks := .later }
def GenealogyCheckedCardSaid : Prop := Claim7.holds Tryz.pinned (.plain (OpenSpec.ofChange genealogyCheckedSpec)) genealogyCheckedCard

/-- THE SECOND FORM's CARD OF 'fretsawlaw57.GenealogyChecked'. -/
def genealogyCheckedUptoCard : Claim7 := { stood := { row := genealogyCheckedUptoRow, standIns := [], harness := (true, "574f91485124bfbc55cab362b3dd1ba2317c90e501d87a06ce65fd9028868fa7"), looks := false }, kinds := [], alts := [], laidByText := true, laidKinds := [.data, .data, .data], laidTests := true, laidLooks := .later }
def GenealogyCheckedUptoCardSaid : Prop := Claim7.holds Tryz.pinned (.plain (OpenSpec.upto genealogyCheckedSpec)) genealogyCheckedUptoCard
end Rows
end Go.Proofs.YtiacjkocjejmlaaGreatDoor
