/-
  DERIVED. GIVEN WITH THE SEED: THE CARDS: each row of YtopbfdohgfhadaaGreatDoorRows.lean that lists a variable, with what it lists TIED to the program's text (the seventh form; the later family's looks); each row that meets fmt, with fmt's text TOLD by the authors' own Lean function (tested against real Go, not proved from fmt's source: count such statements apart). THE CARD IS WHAT COUNTS. Prove the row's statement (the work); the ties are given (YtopbfdohgfhadaaGreatDoorTie.lean); close each card by the builder's one call (the guide's Derived/Test/ToyasCard.lean, 'card_holds'). Laid BY PROGRAM, IN A SANDBOX (cutbox-door.mjs). By AI agents, Wed Nov 11 2026. No macro, syntax, notation, axiom, sorry.
-/
import Derived.Test.YtopbfdohgfhadaaGreatDoorRows
import GoSem.ClaimSeven
namespace Go.Proofs.YtopbfdohgfhadaaGreatDoor
namespace Rows

/-- THE TIED CARD OF 'fretsawlaw57.GenealogyRight'. -/
def genealogyRightCard : Claim7 := { stood := { row := genealogyRightRow, standIns := [], harness := (true, "7c5c42fc24a96477f54b2054f0d31a14af27c773f228b2c87ab02838f41f98ae"), looks := false }, kinds := [], alts := [], laidByText := true, laidKinds := [.data, .data, .data], laidTests := true, laidLooks := .later }
def GenealogyRightCardSaid : Prop := Claim7.holds Tryz.pinned (.plain (OpenSpec.ofChange genealogyRightSpec)) genealogyRightCard

/-- THE SECOND FORM's CARD OF 'fretsawlaw57.GenealogyRight'. -/
def genealogyRightUptoCard : Claim7 := { stood := { row := genealogyRightUptoRow, standIns := [], harness := (true, "7c5c42fc24a96477f54b2054f0d31a14af27c773f228b2c87ab02838f41f98ae"), looks := false }, kinds := [], alts := [], laidByText := true, laidKinds := [.data, .data, .data], laidTests := true, laidLooks := .later }
def GenealogyRightUptoCardSaid : Prop := Claim7.holds Tryz.pinned (.plain (OpenSpec.upto genealogyRightSpec)) genealogyRightUptoCard
end Rows
end Go.Proofs.YtopbfdohgfhadaaGreatDoor
