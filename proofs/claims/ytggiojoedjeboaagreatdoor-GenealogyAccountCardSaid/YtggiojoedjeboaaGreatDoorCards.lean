/-
  DERIVED. GIVEN WITH THE SEED: THE CARDS: each row of YtggiojoedjeboaaGreatDoorRows.lean that lists a variable, with what it lists TIED to the program's text (the seventh form; the later family's looks); each row that meets fmt, with fmt's text TOLD by the authors' own Lean function (tested against real Go, not proved from fmt's source: count such statements apart). THE CARD IS WHAT COUNTS. Prove the row's statement (the work); the ties are given (YtggiojoedjeboaaGreatDoorTie.lean); close each card by the builder's one call (the guide's Derived/Test/ToyasCard.lean, 'card_holds'). Laid BY PROGRAM, IN A SANDBOX (cutbox-door.mjs). By AI agents, Wed Nov 11 2026. No macro, syntax, notation, axiom, sorry.
-/
import Derived.Test.YtggiojoedjeboaaGreatDoorRows
import GoSem.ClaimSeven
namespace Go.Proofs.YtggiojoedjeboaaGreatDoor
namespace Rows

/-- THE TIED CARD OF 'fretsawlaw57.GenealogyAccount'. -/
def genealogyAccountCard : Claim7 := { stood := { row := genealogyAccountRow, standIns := [], harness := (true, "3f8f9ff0ca04df67863ed150695c1c31298d3863b84f75c324d8886775f3e7b1"), looks := false }, kinds := [], alts := [], laidByText := true, laidKinds := [.data, .data, .data], laidTests := true, laidLooks := .later }
def GenealogyAccountCardSaid : Prop := Claim7.holds Tryz.pinned (.plain (OpenSpec.ofChange genealogyAccountSpec)) genealogyAccountCard

/-- THE SECOND FORM's CARD OF 'fretsawlaw57.GenealogyAccount'. -/
def genealogyAccountUptoCard : Claim7 := { stood := { row := genealogyAccountUptoRow, standIns := [], harness := (true, "3f8f9ff0ca04df67863ed150695c1c31298d3863b84f75c324d8886775f3e7b1"), looks := false }, kinds := [], alts := [], laidByText := true, laidKinds := [.data, .data, .data], laidTests := true, laidLooks := .later }
def GenealogyAccountUptoCardSaid : Prop := Claim7.holds Tryz.pinned (.plain (OpenSpec.upto genealogyAccountSpec)) genealogyAccountUptoCard
end Rows
end Go.Proofs.YtggiojoedjeboaaGreatDoor
