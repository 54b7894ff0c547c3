/-
  DERIVED. GIVEN WITH THE SEED: THE CARDS: each row of YtdjgbagnajikeaaGreatDoorRows.lean that lists a variable, with what it lists TIED to the program's text (the seventh form; the later family's looks); each row that meets fmt, with fmt's text TOLD by the authors' own Lean function (tested against real Go, not proved from fmt's source: count such statements apart). THE CARD IS WHAT COUNTS. Prove the row's statement (the work); the ties are given (YtdjgbagnajikeaaGreatDoorTie.lean); close each card by the builder's one call (the guide's Derived/Test/ToyasCard.lean, 'card_holds'). Laid BY PROGRAM, IN A SANDBOX (cutbox-door.mjs). By AI agents, Wed Nov 11 2026. No macro, syntax, notation, axiom, sorry.
-/
import Derived.Test.YtdjgbagnajikeaaGreatDoorRows
import GoSem.ClaimSeven
namespace Go.Proofs.YtdjgbagnajikeaaGreatDoor
namespace Rows

/-- THE TIED CARD OF 'fretsawlaw57.GenealogyBuild'. -/
def genealogyBuildCard : Claim7 := { stood := { row := genealogyBuildRow, standIns := [], harness := (true, "74c50c41aed3d18dc33e82e47b769a32120baf2dfbab54ae691b5673523c02cf"), looks := false }, kinds := [], alts := [], laidByText := true, laidKinds := [.data, .data, .data], laidTests := true, laidLooks := .later }
def GenealogyBuildCardSaid : Prop := Claim7.holds Tryz.pinned (.plain (OpenSpec.ofChange genealogyBuildSpec)) genealogyBuildCard

/-- THE TIED CARD OF 'fretsawlaw57.GenealogyAccount'. -/
def genealogyAccountCard : Claim7 := { stood := { row := genealogyAccountRow, standIns := [], harness := (true, "74c50c41aed3d18dc33e82e47b769a32120baf2dfbab54ae691b5673523c02cf"), looks := false }, kinds := [], alts := [], laidByText := true, laidKinds := [.data, .data, .data], laidTests := true, laidLooks := .later }
def GenealogyAccountCardSaid : Prop := Claim7.holds Tryz.pinned (.plain (OpenSpec.ofChange genealogyAccountSpec)) genealogyAccountCard

/-- THE TIED CARD OF 'fretsawlaw57.GenealogyGrows'. -/
def genealogyGrowsCard : Claim7 := { stood := { row := genealogyGrowsRow, standIns := [], harness := (true, "74c50c41aed3d18dc33e82e47b769a32120baf2dfbab54ae691b5673523c02cf"), looks := false }, kinds := [], alts := [], laidByText := true, laidKinds := [.data, .data, .data], laidTests := true, laidLooks := .later }
def GenealogyGrowsCardSaid : Prop := Claim7.holds Tryz.pinned (.plain (OpenSpec.ofChange genealogyGrowsSpec)) genealogyGrowsCard

/-- THE TIED CARD OF 'fretsawlaw57.GenealogyChecked'. -/
def genealogyCheckedCard : Claim7 := { stood := { row := genealogyCheckedRow, standIns := [], harness := (true, "74c50c41aed3d18dc33e82e47b769a32120baf2dfbab54ae691b5673523c02cf"), looks := false }, kinds := [], alts := [], laidByText := true, laidKinds := [.data, .data, .data], laidTests := true, laidLooks := .later }
def GenealogyCheckedCardSaid : Prop := Claim7.holds Tryz.pinned (.plain (OpenSpec.ofChange genealogyCheckedSpec)) genealogyCheckedCard

/-- THE TIED CARD OF 'fretsawlaw57.GenealogyRight'. -/
def genealogyRightCard : Claim7 := { stood := { row := genealogyRightRow, standIns := [], harness := (true, "74c50c41aed3d18dc33e82e47b769a32120baf2dfbab54ae691b5673523c02cf"), looks := false }, kinds := [], alts := [], laidByText := true, laidKinds := [.data, .data, .data], laidTests := true, laidLooks := .later }
def GenealogyRightCardSaid : Prop := Claim7.holds Tryz.pinned (.plain (OpenSpec.ofChange genealogyRightSpec)) genealogyRightCard

/-- THE TIED CARD OF 'fretsawlaw57.GenealogyQueries'. -/
def genealogyQueriesCard : Claim7 := { stood := { row := genealogyQueriesRow, standIns := [], harness := (true, "74c50c41aed3d18dc33e82e47b769a32120baf2dfbab54ae691b5673523c02cf"), looks := false }, kinds := [], alts := [], laidByText := true, laidKinds := [.data, .data, .data], laidTests := true, laidLooks := .later }
def GenealogyQueriesCardSaid : Prop := Claim7.holds Tryz.pinned (.plain (OpenSpec.ofChange genealogyQueriesSpec)) genealogyQueriesCard

/-- THE TIED CARD OF 'fretsawlaw57.GenealogyLedger'. -/
def genealogyLedgerCard : Claim7 := { stood := { row := genealogyLedgerRow, standIns := [], harness := (true, "74c50c41aed3d18dc33e82e47b769a32120baf2dfbab54ae691b5673523c02cf"), looks := false }, kinds := [], alts := [], laidByText := true, laidKinds := [.data, .data, .data], laidTests := true, laidLooks := .later }
def GenealogyLedgerCardSaid : Prop := Claim7.holds Tryz.pinned (.plain (OpenSpec.ofChange genealogyLedgerSpec)) genealogyLedgerCard

/-- THE SECOND FORM's CARD OF 'fretsawlaw57.GenealogyBuild'. -/
def genealogyBuildUptoCard : Claim7 := { stood := { row := genealogyBuildUptoRow, standIns := [], harness := (true, "74c50c41aed3d18dc33e82e47b769a32120baf2dfbab54ae691b5673523c02cf"), looks := false }, kinds := [], alts := [], laidByText := true, laidKinds := [.data, .data, .data], laidTests := true, laidLooks := .later }
def GenealogyBuildUptoCardSaid : Prop := Claim7.holds Tryz.pinned (.plain (OpenSpec.upto genealogyBuildSpec)) genealogyBuildUptoCard

/-- THE SECOND FORM's CARD OF 'fretsawlaw57.GenealogyAccount'. -/
def genealogyAccountUptoCard : Claim7 := { stood := { row := genealogyAccountUptoRow, standIns := [], harness := (true, "74c50c41aed3d18dc33e82e47b769a32120baf2dfbab54ae691b5673523c02cf"), looks := false }, kinds := [], alts := [], laidByText := true, laidKinds := [.data, .data, .data], laidTests := true, laidLooks := .later }
def GenealogyAccountUptoCardSaid : Prop := Claim7.holds Tryz.pinned (.plain (OpenSpec.upto genealogyAccountSpec)) genealogyAccountUptoCard

/-- THE SECOND FORM's CARD OF 'fretsawlaw57.GenealogyGrows'. -/
def genealogyGrowsUptoCard : Claim7 := { stood := { row := genealogyGrowsUptoRow, standIns := [], harness := (true, "74c50c41aed3d18dc33e82e47b769a32120baf2dfbab54ae691b5673523c02cf"), looks := false }, kinds := [], alts := [], laidByText := true, laidKinds := [.data, .data, .data], laidTests := true, laidLooks := .later }
def GenealogyGrowsUptoCardSaid : Prop := Claim7.holds Tryz.pinned (.plain (OpenSpec.upto genealogyGrowsSpec)) genealogyGrowsUptoCard

/-- THE SECOND FORM's CARD OF 'fretsawlaw57.GenealogyChecked'. -/
def genealogyCheckedUptoCard : Claim7 := { stood := { row := genealogyCheckedUptoRow, standIns := [], harness := (true, "74c50c41aed3d18dc33e82e47b769a32120baf2dfbab54ae691b5673523c02cf"), looks := false }, kinds := [], alts := [], laidByText := true, laidKinds := [.data, .data, .data], laidTests := true, laidLooks := .later }
def GenealogyCheckedUptoCardSaid : Prop := Claim7.holds Tryz.pinned (.plain (OpenSpec.upto genealogyCheckedSpec)) genealogyCheckedUptoCard

/-- THE SECOND FORM's CARD OF 'fretsawlaw57.GenealogyRight'. -/
def genealogyRightUptoCard : Claim7 := { stood := { row := genealogyRightUptoRow, standIns := [], harness := (true, "74c50c41aed3d18dc33e82e47b769a32120baf2dfbab54ae691b5673523c02cf"), looks := false }, kinds := [], alts := [], laidByText := true, laidKinds := [.data, .data, .data], laidTests := true, laidLooks := .later }
def GenealogyRightUptoCardSaid : Prop := Claim7.holds Tryz.pinned (.plain (OpenSpec.upto genealogyRightSpec)) genealogyRightUptoCard

/-- THE SECOND FORM's CARD OF 'fretsawlaw57.GenealogyQueries'. -/
def genealogyQueriesUptoCard : Claim7 := { stood := { row := genealogyQueriesUptoRow, standIns := [], harness := (true, "74c50c41aed3d18dc33e82e47b769a32120baf2dfbab54ae691b5673523c02cf"), looks := false }, kinds := [], alts := [], laidByText := true, laidKinds := [.data, .data, .data], laidTests := true, laidLooks := .later }
def GenealogyQueriesUptoCardSaid : Prop := Claim7.holds Tryz.pinned (.plain (OpenSpec.upto genealogyQueriesSpec)) genealogyQueriesUptoCard

/-- THE SECOND FORM's CARD OF 'fretsawlaw57.GenealogyLedger'. -/
def genealogyLedgerUptoCard : Claim7 := { stood := { row := genealogyLedgerUptoRow, standIns := [], harness := (true, "74c50c41aed3d18dc33e82e47b769a32120baf2dfbab54ae691b5673523c02cf"), looks := false }, kinds := [], alts := [], laidByText := true, laidKinds := [.data, .data, .data], laidTests := true, laidLooks := .later }
def GenealogyLedgerUptoCardSaid : Prop := Claim7.holds Tryz.pinned (.plain (OpenSpec.upto genealogyLedgerSpec)) genealogyLedgerUptoCard
end Rows
end Go.Proofs.YtdjgbagnajikeaaGreatDoor
