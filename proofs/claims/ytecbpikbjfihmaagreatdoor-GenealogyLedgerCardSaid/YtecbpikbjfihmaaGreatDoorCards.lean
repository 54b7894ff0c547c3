/-
  DERIVED. GIVEN WITH THE SEED: THE CARDS: each row of YtecbpikbjfihmaaGreatDoorRows.lean that lists a variable, with what it lists TIED to the program's text (the seventh form; the later family's looks); each row that meets fmt, with fmt's text TOLD by the authors' own Lean function (tested against real Go, not proved from fmt's source: count such statements apart). THE CARD IS WHAT COUNTS. Prove the row's statement (the work); the ties are given (YtecbpikbjfihmaaGreatDoorTie.lean); close each card by the builder's one call (the guide's Derived/Test/ToyasCard.lean, 'card_holds'). Laid BY PROGRAM, IN A SANDBOX (cutbox-door.mjs). By AI agents, Wed Nov 11 2026. No macro, syntax, notation, axiom, sorry.
-/
import Derived.Test.YtecbpikbjfihmaaGreatDoorRows
import GoSem.ClaimSeven
namespace Go.Proofs.YtecbpikbjfihmaaGreatDoor
namespace Rows

/-- THE TIED CARD OF 'fretsawlaw57.GenealogyLedger'. -/
def genealogyLedgerCard : Claim7 := { stood := { row := genealogyLedgerRow, standIns := [], harness := (true, "57f5657bf85f07b330428eb31ec02783529dcdfc50da02d925492282764dcd45"), looks := false }, kinds := [], alts := [], laidByText := true, laidKinds := [.data, .data, .data], laidTests := true, laidLooks := .later }
def GenealogyLedgerCardSaid : Prop := Claim7.holds Tryz.pinned (.plain (OpenSpec.ofChange genealogyLedgerSpec)) genealogyLedgerCard

/-- THE SECOND FORM's CARD OF 'fretsawlaw57.GenealogyLedger'. -/
def genealogyLedgerUptoCard : Claim7 := { stood := { row := genealogyLedgerUptoRow, standIns := [], harness := (true, "57f5657bf85f07b330428eb31ec02783529dcdfc50da02d925492282764dcd45"), looks := false }, kinds := [], alts := [], laidByText := true, laidKinds := [.data, .data, .data], laidTests := true, laidLooks := .later }
def GenealogyLedgerUptoCardSaid : Prop := Claim7.holds Tryz.pinned (.plain (OpenSpec.upto genealogyLedgerSpec)) genealogyLedgerUptoCard
end Rows
end Go.Proofs.YtecbpikbjfihmaaGreatDoor
