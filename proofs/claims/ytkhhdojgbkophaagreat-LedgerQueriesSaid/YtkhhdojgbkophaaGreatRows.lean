/-
  No cell of these rows narrows 'for every input' (looked for: loops, veiled, ifaces, maps, wideKeys, modest, calm, conditions, laid).
  DERIVED. THE GIVEN ROWS OF THIS SEAT. 9 by the template 'for every input the law returns true; each argument reads behind the call as it read before'; 0 by the template 'total and deterministic' (their statements: YtkhhdojgbkophaaGreatTotals.lean).
  GIVEN WITH THE SEED: the statements are not yours to turn. If you find one false, say at which input.
  Laid BY PROGRAM, IN A SANDBOX (cutbox-rows.mjs): the forced cells as the released guide's own fill.sh prints them over the translation c8e65a1b9a66eaaa… (all of the seat's roots in one cut). By AI agents, Wed Nov 11 2026. No macro, syntax, notation, axiom, sorry.
-/
import Derived.Test.YtkhhdojgbkophaaGreatChecked
import GoSem.Claim
import GoSem.ClaimJoined
import GoSem.ClaimMapViews
import Derived.JoinedTies
import Derived.KernelRfl
namespace Go.Proofs.YtkhhdojgbkophaaGreat
/- THE CELL 'sum', in the pinned program and in every row, IS THE sha256 OF THE DUMP (.gsa) THAT YtkhhdojgbkophaaGreatProg.lean LOADS. Nothing in Lean hashes anything: it is a label: what it is worth is what the hold of that sum in a sandbox is worth. -/
noncomputable def Tryz.pinned : Pinned := { name := "ytkhhdojgbkophaagreat", sum := "c8e65a1b9a66eaaa88b96150cc9bd8360d28e009db8e51f9dc057bff5c1851a4", checked := Tryz.checked }
namespace Rows
def none {H : Type} : Left H := { results := [], args := [] }

/-- 'fretsawlaw56.LedgerApply': WHATEVER THE INPUT: true; the input reads as it did. -/
def ledgerApplySpec : ChangeSpec := { name := "ledgerApply", fn := fun _ => fun
  | [d] => { results := [.lit (.bool true)], args := [d] }
  | _ => none }
def ledgerApplyRow : OpenClaim := { program := "ytkhhdojgbkophaagreat", sum := "c8e65a1b9a66eaaa88b96150cc9bd8360d28e009db8e51f9dc057bff5c1851a4", func := "fretsaw/fretsawlaw56.LedgerApply", spec := "ledgerApply", inPlace := ["slices.overlaps[int]", "slices.overlaps[fretsaw/ledger.Stock]", "slices.overlaps[fretsaw/ledger.Piece]"], unfollowed := true, recurses := true, apart := false }
def LedgerApplySaid : Prop := ledgerApplyRow.holds Tryz.pinned (OpenSpec.ofChange ledgerApplySpec)

/-- ITS FALSE NEIGHBOUR: 'it returns false'. Refute it at one input. -/
def ledgerApplyWrong : ChangeSpec := { name := "ledgerApply", fn := fun _ => fun
  | [d] => { results := [.lit (.bool false)], args := [d] }
  | _ => none }
def LedgerApplyWrongFalsely : Prop := ledgerApplyRow.holds Tryz.pinned (OpenSpec.ofChange ledgerApplyWrong)

/-- 'fretsawlaw56.LedgerBalance': WHATEVER THE INPUT: true; the input reads as it did. -/
def ledgerBalanceSpec : ChangeSpec := { name := "ledgerBalance", fn := fun _ => fun
  | [d] => { results := [.lit (.bool true)], args := [d] }
  | _ => none }
def ledgerBalanceRow : OpenClaim := { program := "ytkhhdojgbkophaagreat", sum := "c8e65a1b9a66eaaa88b96150cc9bd8360d28e009db8e51f9dc057bff5c1851a4", func := "fretsaw/fretsawlaw56.LedgerBalance", spec := "ledgerBalance", inPlace := ["slices.overlaps[int]", "slices.overlaps[fretsaw/ledger.Stock]", "slices.overlaps[fretsaw/ledger.Piece]"], unfollowed := true, recurses := true, apart := false }
def LedgerBalanceSaid : Prop := ledgerBalanceRow.holds Tryz.pinned (OpenSpec.ofChange ledgerBalanceSpec)

/-- ITS FALSE NEIGHBOUR: 'it returns false'. Refute it at one input. -/
def ledgerBalanceWrong : ChangeSpec := { name := "ledgerBalance", fn := fun _ => fun
  | [d] => { results := [.lit (.bool false)], args := [d] }
  | _ => none }
def LedgerBalanceWrongFalsely : Prop := ledgerBalanceRow.holds Tryz.pinned (OpenSpec.ofChange ledgerBalanceWrong)

/-- 'fretsawlaw56.LedgerRefused': WHATEVER THE INPUT: true; the input reads as it did. -/
def ledgerRefusedSpec : ChangeSpec := { name := "ledgerRefused", fn := fun _ => fun
  | [d1, d2] => { results := [.lit (.bool true)], args := [d1, d2] }
  | _ => none }
def ledgerRefusedRow : OpenClaim := { program := "ytkhhdojgbkophaagreat", sum := "c8e65a1b9a66eaaa88b96150cc9bd8360d28e009db8e51f9dc057bff5c1851a4", func := "fretsaw/fretsawlaw56.LedgerRefused", spec := "ledgerRefused", inPlace := ["slices.overlaps[int]", "slices.overlaps[fretsaw/ledger.Stock]", "slices.overlaps[fretsaw/ledger.Piece]"], unfollowed := true, recurses := true, apart := false }
def LedgerRefusedSaid : Prop := ledgerRefusedRow.holds Tryz.pinned (OpenSpec.ofChange ledgerRefusedSpec)

/-- ITS FALSE NEIGHBOUR: 'it returns false'. Refute it at one input. -/
def ledgerRefusedWrong : ChangeSpec := { name := "ledgerRefused", fn := fun _ => fun
  | [d1, d2] => { results := [.lit (.bool false)], args := [d1, d2] }
  | _ => none }
def LedgerRefusedWrongFalsely : Prop := ledgerRefusedRow.holds Tryz.pinned (OpenSpec.ofChange ledgerRefusedWrong)

/-- 'fretsawlaw56.LedgerCutBar': WHATEVER THE INPUT: true; the input reads as it did. -/
def ledgerCutBarSpec : ChangeSpec := { name := "ledgerCutBar", fn := fun _ => fun
  | [d1, d2, d3] => { results := [.lit (.bool true)], args := [d1, d2, d3] }
  | _ => none }
def ledgerCutBarRow : OpenClaim := { program := "ytkhhdojgbkophaagreat", sum := "c8e65a1b9a66eaaa88b96150cc9bd8360d28e009db8e51f9dc057bff5c1851a4", func := "fretsaw/fretsawlaw56.LedgerCutBar", spec := "ledgerCutBar", inPlace := ["slices.overlaps[int]", "slices.overlaps[fretsaw/ledger.Stock]", "slices.overlaps[fretsaw/ledger.Piece]"], unfollowed := true, recurses := true, apart := false }
def LedgerCutBarSaid : Prop := ledgerCutBarRow.holds Tryz.pinned (OpenSpec.ofChange ledgerCutBarSpec)

/-- ITS FALSE NEIGHBOUR: 'it returns false'. Refute it at one input. -/
def ledgerCutBarWrong : ChangeSpec := { name := "ledgerCutBar", fn := fun _ => fun
  | [d1, d2, d3] => { results := [.lit (.bool false)], args := [d1, d2, d3] }
  | _ => none }
def LedgerCutBarWrongFalsely : Prop := ledgerCutBarRow.holds Tryz.pinned (OpenSpec.ofChange ledgerCutBarWrong)

/-- 'fretsawlaw56.LedgerIdentities': WHATEVER THE INPUT: true; the input reads as it did. -/
def ledgerIdentitiesSpec : ChangeSpec := { name := "ledgerIdentities", fn := fun _ => fun
  | [d] => { results := [.lit (.bool true)], args := [d] }
  | _ => none }
def ledgerIdentitiesRow : OpenClaim := { program := "ytkhhdojgbkophaagreat", sum := "c8e65a1b9a66eaaa88b96150cc9bd8360d28e009db8e51f9dc057bff5c1851a4", func := "fretsaw/fretsawlaw56.LedgerIdentities", spec := "ledgerIdentities", inPlace := ["slices.overlaps[int]", "slices.overlaps[fretsaw/ledger.Stock]", "slices.overlaps[fretsaw/ledger.Piece]"], unfollowed := true, recurses := true, apart := false }
def LedgerIdentitiesSaid : Prop := ledgerIdentitiesRow.holds Tryz.pinned (OpenSpec.ofChange ledgerIdentitiesSpec)

/-- ITS FALSE NEIGHBOUR: 'it returns false'. Refute it at one input. -/
def ledgerIdentitiesWrong : ChangeSpec := { name := "ledgerIdentities", fn := fun _ => fun
  | [d] => { results := [.lit (.bool false)], args := [d] }
  | _ => none }
def LedgerIdentitiesWrongFalsely : Prop := ledgerIdentitiesRow.holds Tryz.pinned (OpenSpec.ofChange ledgerIdentitiesWrong)

/-- 'fretsawlaw56.LedgerDescent': WHATEVER THE INPUT: true; the input reads as it did. -/
def ledgerDescentSpec : ChangeSpec := { name := "ledgerDescent", fn := fun _ => fun
  | [d] => { results := [.lit (.bool true)], args := [d] }
  | _ => none }
def ledgerDescentRow : OpenClaim := { program := "ytkhhdojgbkophaagreat", sum := "c8e65a1b9a66eaaa88b96150cc9bd8360d28e009db8e51f9dc057bff5c1851a4", func := "fretsaw/fretsawlaw56.LedgerDescent", spec := "ledgerDescent", inPlace := ["slices.overlaps[int]", "slices.overlaps[fretsaw/ledger.Stock]", "slices.overlaps[fretsaw/ledger.Piece]"], unfollowed := true, recurses := true, apart := false }
def LedgerDescentSaid : Prop := ledgerDescentRow.holds Tryz.pinned (OpenSpec.ofChange ledgerDescentSpec)

/-- ITS FALSE NEIGHBOUR: 'it returns false'. Refute it at one input. -/
def ledgerDescentWrong : ChangeSpec := { name := "ledgerDescent", fn := fun _ => fun
  | [d] => { results := [.lit (.bool false)], args := [d] }
  | _ => none }
def LedgerDescentWrongFalsely : Prop := ledgerDescentRow.holds Tryz.pinned (OpenSpec.ofChange ledgerDescentWrong)

/-- 'fretsawlaw56.LedgerQueries': WHATEVER THE INPUT: true; the input reads as it did. -/
def ledgerQueriesSpec : ChangeSpec := { name := "ledgerQueries", fn := fun _ => fun
  | [d1, d2, d3] => { results := [.lit (.bool true)], args := [d1, d2, d3] }
  | _ => none }
def ledgerQueriesRow : OpenClaim := { program := "ytkhhdojgbkophaagreat", sum := "c8e65a1b9a66eaaa88b96150cc9bd8360d28e009db8e51f9dc057bff5c1851a4", func := "fretsaw/fretsawlaw56.LedgerQueries", spec := "ledgerQueries", inPlace := ["slices.overlaps[int]", "slices.overlaps[fretsaw/ledger.Stock]", "slices.overlaps[fretsaw/ledger.Piece]"], unfollowed := true, recurses := true, apart := false }
def LedgerQueriesSaid : Prop := ledgerQueriesRow.holds Tryz.pinned (OpenSpec.ofChange ledgerQueriesSpec)

/-- ITS FALSE NEIGHBOUR: 'it returns false'. Refute it at one input. -/
def ledgerQueriesWrong : ChangeSpec := { name := "ledgerQueries", fn := fun _ => fun
  | [d1, d2, d3] => { results := [.lit (.bool false)], args := [d1, d2, d3] }
  | _ => none }
def LedgerQueriesWrongFalsely : Prop := ledgerQueriesRow.holds Tryz.pinned (OpenSpec.ofChange ledgerQueriesWrong)

/-- 'fretsawlaw56.LedgerCode': WHATEVER THE INPUT: true; the input reads as it did. -/
def ledgerCodeSpec : ChangeSpec := { name := "ledgerCode", fn := fun _ => fun
  | [d1, d2] => { results := [.lit (.bool true)], args := [d1, d2] }
  | _ => none }
def ledgerCodeRow : OpenClaim := { program := "ytkhhdojgbkophaagreat", sum := "c8e65a1b9a66eaaa88b96150cc9bd8360d28e009db8e51f9dc057bff5c1851a4", func := "fretsaw/fretsawlaw56.LedgerCode", spec := "ledgerCode", inPlace := ["slices.overlaps[int]", "slices.overlaps[fretsaw/ledger.Stock]", "slices.overlaps[fretsaw/ledger.Piece]"], unfollowed := true, recurses := true, apart := false }
def LedgerCodeSaid : Prop := ledgerCodeRow.holds Tryz.pinned (OpenSpec.ofChange ledgerCodeSpec)

/-- ITS FALSE NEIGHBOUR: 'it returns false'. Refute it at one input. -/
def ledgerCodeWrong : ChangeSpec := { name := "ledgerCode", fn := fun _ => fun
  | [d1, d2] => { results := [.lit (.bool false)], args := [d1, d2] }
  | _ => none }
def LedgerCodeWrongFalsely : Prop := ledgerCodeRow.holds Tryz.pinned (OpenSpec.ofChange ledgerCodeWrong)

/-- 'fretsawlaw56.LedgerReplay': WHATEVER THE INPUT: true; the input reads as it did. -/
def ledgerReplaySpec : ChangeSpec := { name := "ledgerReplay", fn := fun _ => fun
  | [d1, d2] => { results := [.lit (.bool true)], args := [d1, d2] }
  | _ => none }
def ledgerReplayRow : OpenClaim := { program := "ytkhhdojgbkophaagreat", sum := "c8e65a1b9a66eaaa88b96150cc9bd8360d28e009db8e51f9dc057bff5c1851a4", func := "fretsaw/fretsawlaw56.LedgerReplay", spec := "ledgerReplay", inPlace := ["slices.overlaps[int]", "slices.overlaps[fretsaw/ledger.Stock]", "slices.overlaps[fretsaw/ledger.Piece]"], unfollowed := true, recurses := true, apart := false }
def LedgerReplaySaid : Prop := ledgerReplayRow.holds Tryz.pinned (OpenSpec.ofChange ledgerReplaySpec)

/-- ITS FALSE NEIGHBOUR: 'it returns false'. Refute it at one input. -/
def ledgerReplayWrong : ChangeSpec := { name := "ledgerReplay", fn := fun _ => fun
  | [d1, d2] => { results := [.lit (.bool false)], args := [d1, d2] }
  | _ => none }
def LedgerReplayWrongFalsely : Prop := ledgerReplayRow.holds Tryz.pinned (OpenSpec.ofChange ledgerReplayWrong)

/- THE SECOND FORM. 'bulk': how many values and letters a reading holds, each counted each time it is reached (what is shared counts as often as it is met; a slice's spare places count too). A statement '..UptoSaid' is the law's where the arguments, and the package variables that the reading takes, are together of bulk at most 1048576: NARROWER than '..Said'. Prove '..Said' where nothing that the law and all that it calls make is longer than what came in: it says more and counts as full. Else prove '..UptoSaid'. A law counts once. -/
mutual
def uptoBulk {H : Type} : DataW H → Nat
  | .lit (.string bytes) => bytes.length + 1
  | .lit _ => 1
  | .nil => 1
  | .ptr d => uptoBulk d + 1
  | .slice elems spare => uptoBulkAll elems + uptoBulkAll spare + 1
  | .agg parts => uptoBulkAll parts + 1
  | .iface _ d => uptoBulk d + 1
  | .map entries => uptoBulkEntries entries + 1
  | .held _ => 1
def uptoBulkAll {H : Type} : List (DataW H) → Nat
  | [] => 0
  | d :: r => uptoBulk d + uptoBulkAll r
def uptoBulkEntries {H : Type} : List (Lit × DataW H) → Nat
  | [] => 0
  | x :: r => uptoBulkEntry x + uptoBulkEntries r
def uptoBulkEntry {H : Type} : Lit × DataW H → Nat
  | (.string bytes, d) => bytes.length + uptoBulk d + 1
  | (_, d) => uptoBulk d + 1
 end
def uptoSmall : (H : Type) → List (DataW H) → Bool := fun _ ds => decide (uptoBulkAll ds ≤ 1048576)
def OpenSpec.upto (s : _root_.Go.ChangeSpec) : _root_.Go.OpenSpec := { _root_.Go.OpenSpec.ofChange s with cond := some uptoSmall }

/-- 'fretsawlaw56.LedgerApply', WHERE WHAT IT READS IS OF BULK AT MOST 1048576: true; the input reads as it did. -/
def ledgerApplyUptoRow : OpenClaim := { program := "ytkhhdojgbkophaagreat", sum := "c8e65a1b9a66eaaa88b96150cc9bd8360d28e009db8e51f9dc057bff5c1851a4", func := "fretsaw/fretsawlaw56.LedgerApply", spec := "ledgerApply", inPlace := ["slices.overlaps[int]", "slices.overlaps[fretsaw/ledger.Stock]", "slices.overlaps[fretsaw/ledger.Piece]"], unfollowed := true, recurses := true, apart := false, narrowed := true }
def LedgerApplyUptoSaid : Prop := ledgerApplyUptoRow.holds Tryz.pinned (OpenSpec.upto ledgerApplySpec)

/-- 'fretsawlaw56.LedgerBalance', WHERE WHAT IT READS IS OF BULK AT MOST 1048576: true; the input reads as it did. -/
def ledgerBalanceUptoRow : OpenClaim := { program := "ytkhhdojgbkophaagreat", sum := "c8e65a1b9a66eaaa88b96150cc9bd8360d28e009db8e51f9dc057bff5c1851a4", func := "fretsaw/fretsawlaw56.LedgerBalance", spec := "ledgerBalance", inPlace := ["slices.overlaps[int]", "slices.overlaps[fretsaw/ledger.Stock]", "slices.overlaps[fretsaw/ledger.Piece]"], unfollowed := true, recurses := true, apart := false, narrowed := true }
def LedgerBalanceUptoSaid : Prop := ledgerBalanceUptoRow.holds Tryz.pinned (OpenSpec.upto ledgerBalanceSpec)

/-- 'fretsawlaw56.LedgerRefused', WHERE WHAT IT READS IS OF BULK AT MOST 1048576: true; the input reads as it did. -/
def ledgerRefusedUptoRow : OpenClaim := { program := "ytkhhdojgbkophaagreat", sum := "c8e65a1b9a66eaaa88b96150cc9bd8360d28e009db8e51f9dc057bff5c1851a4", func := "fretsaw/fretsawlaw56.LedgerRefused", spec := "ledgerRefused", inPlace := ["slices.overlaps[int]", "slices.overlaps[fretsaw/ledger.Stock]", "slices.overlaps[fretsaw/ledger.Piece]"], unfollowed := true, recurses := true, apart := false, narrowed := true }
def LedgerRefusedUptoSaid : Prop := ledgerRefusedUptoRow.holds Tryz.pinned (OpenSpec.upto ledgerRefusedSpec)

/-- 'fretsawlaw56.LedgerCutBar', WHERE WHAT IT READS IS OF BULK AT MOST 1048576: true; the input reads as it did. -/
def ledgerCutBarUptoRow : OpenClaim := { program := "ytkhhdojgbkophaagreat", sum := "c8e65a1b9a66eaaa88b96150cc9bd8360d28e009db8e51f9dc057bff5c1851a4", func := "fretsaw/fretsawlaw56.LedgerCutBar", spec := "ledgerCutBar", inPlace := ["slices.overlaps[int]", "slices.overlaps[fretsaw/ledger.Stock]", "slices.overlaps[fretsaw/ledger.Piece]"], unfollowed := true, recurses := true, apart := false, narrowed := true }
def LedgerCutBarUptoSaid : Prop := ledgerCutBarUptoRow.holds Tryz.pinned (OpenSpec.upto ledgerCutBarSpec)

/-- 'fretsawlaw56.LedgerIdentities', WHERE WHAT IT READS IS OF BULK AT MOST 1048576: true; the input reads as it did. -/
def ledgerIdentitiesUptoRow : OpenClaim := { program := "ytkhhdojgbkophaagreat", sum := "c8e65a1b9a66eaaa88b96150cc9bd8360d28e009db8e51f9dc057bff5c1851a4", func := "fretsaw/fretsawlaw56.LedgerIdentities", spec := "ledgerIdentities", inPlace := ["slices.overlaps[int]", "slices.overlaps[fretsaw/ledger.Stock]", "slices.overlaps[fretsaw/ledger.Piece]"], unfollowed := true, recurses := true, apart := false, narrowed := true }
def LedgerIdentitiesUptoSaid : Prop := ledgerIdentitiesUptoRow.holds Tryz.pinned (OpenSpec.upto ledgerIdentitiesSpec)

/-- 'fretsawlaw56.LedgerDescent', WHERE WHAT IT READS IS OF BULK AT MOST 1048576: true; the input reads as it did. -/
def ledgerDescentUptoRow : OpenClaim := { program := "ytkhhdojgbkophaagreat", sum := "c8e65a1b9a66eaaa88b96150cc9bd8360d28e009db8e51f9dc057bff5c1851a4", func := "fretsaw/fretsawlaw56.LedgerDescent", spec := "ledgerDescent", inPlace := ["slices.overlaps[int]", "slices.overlaps[fretsaw/ledger.Stock]", "slices.overlaps[fretsaw/ledger.Piece]"], unfollowed := true, recurses := true, apart := false, narrowed := true }
def LedgerDescentUptoSaid : Prop := ledgerDescentUptoRow.holds Tryz.pinned (OpenSpec.upto ledgerDescentSpec)

/-- 'fretsawlaw56.LedgerQueries', WHERE WHAT IT READS IS OF BULK AT MOST 1048576: true; the input reads as it did. -/
def ledgerQueriesUptoRow : OpenClaim := { program := "ytkhhdojgbkophaagreat", sum := "c8e65a1b9a66eaaa88b96150cc9bd8360d28e009db8e51f9dc057bff5c1851a4", func := "fretsaw/fretsawlaw56.LedgerQueries", spec := "ledgerQueries", inPlace := ["slices.overlaps[int]", "slices.overlaps[fretsaw/ledger.Stock]", "slices.overlaps[fretsaw/ledger.Piece]"], unfollowed := true, recurses := true, apart := false, narrowed := true }
def LedgerQueriesUptoSaid : Prop := ledgerQueriesUptoRow.holds Tryz.pinned (OpenSpec.upto ledgerQueriesSpec)

/-- 'fretsawlaw56.LedgerCode', WHERE WHAT IT READS IS OF BULK AT MOST 1048576: true; the input reads as it did. -/
def ledgerCodeUptoRow : OpenClaim := { program := "ytkhhdojgbkophaagreat", sum := "c8e65a1b9a66eaaa88b96150cc9bd8360d28e009db8e51f9dc057bff5c1851a4", func := "fretsaw/fretsawlaw56.LedgerCode", spec := "ledgerCode", inPlace := ["slices.overlaps[int]", "slices.overlaps[fretsaw/ledger.Stock]", "slices.overlaps[fretsaw/ledger.Piece]"], unfollowed := true, recurses := true, apart := false, narrowed := true }
def LedgerCodeUptoSaid : Prop := ledgerCodeUptoRow.holds Tryz.pinned (OpenSpec.upto ledgerCodeSpec)

/-- 'fretsawlaw56.LedgerReplay', WHERE WHAT IT READS IS OF BULK AT MOST 1048576: true; the input reads as it did. -/
def ledgerReplayUptoRow : OpenClaim := { program := "ytkhhdojgbkophaagreat", sum := "c8e65a1b9a66eaaa88b96150cc9bd8360d28e009db8e51f9dc057bff5c1851a4", func := "fretsaw/fretsawlaw56.LedgerReplay", spec := "ledgerReplay", inPlace := ["slices.overlaps[int]", "slices.overlaps[fretsaw/ledger.Stock]", "slices.overlaps[fretsaw/ledger.Piece]"], unfollowed := true, recurses := true, apart := false, narrowed := true }
def LedgerReplayUptoSaid : Prop := ledgerReplayUptoRow.holds Tryz.pinned (OpenSpec.upto ledgerReplaySpec)

end Rows
end Go.Proofs.YtkhhdojgbkophaaGreat
