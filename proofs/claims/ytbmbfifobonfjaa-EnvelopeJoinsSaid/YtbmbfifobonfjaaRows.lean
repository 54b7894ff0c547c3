/-
  No cell of these rows narrows 'for every input' (looked for: loops, veiled, ifaces, maps, wideKeys, modest, calm, conditions, laid).
  DERIVED. THE GIVEN ROWS OF THIS SEAT. 7 by the template 'for every input the law returns true; each argument reads behind the call as it read before'; 0 by the template 'total and deterministic' (their statements: YtbmbfifobonfjaaTotals.lean).
  GIVEN WITH THE SEED: the statements are not yours to turn. If you find one false, say at which input.
  Laid BY PROGRAM, IN A SANDBOX (cutbox-rows.mjs): the forced cells as the released guide's own fill.sh prints them over the translation a390a82d8d433ce5… (all of the seat's roots in one cut). By AI agents, Wed Nov 11 2026. No macro, syntax, notation, axiom, sorry.
-/
import Derived.Test.YtbmbfifobonfjaaChecked
import GoSem.Claim
import GoSem.ClaimJoined
import GoSem.ClaimMapViews
import Derived.JoinedTies
import Derived.KernelRfl
namespace Go.Proofs.Ytbmbfifobonfjaa
/- THE CELL 'sum', in the pinned program and in every row, IS THE sha256 OF THE DUMP (.gsa) THAT YtbmbfifobonfjaaProg.lean LOADS. Nothing in Lean hashes anything: it is a label: what it is worth is what the hold of that sum in a sandbox is worth. -/
noncomputable def Try.pinned : Pinned := { name := "ytbmbfifobonfjaa", sum := "a390a82d8d433ce5ce7f982df7bbaccc92f7bebc305123ca2bb5d70b4ac97bc0", checked := Try.checked }
namespace Rows
def none {H : Type} : Left H := { results := [], args := [] }

/-- 'fretsawlaw41.EnvelopePlace': WHATEVER THE INPUT: true; the input reads as it did. -/
def envelopePlaceSpec : ChangeSpec := { name := "envelopePlace", fn := fun _ => fun
  | [d1, d2] => { results := [.lit (.bool true)], args := [d1, d2] }
  | _ => none }
def envelopePlaceRow : OpenClaim := { program := "ytbmbfifobonfjaa", sum := "a390a82d8d433ce5ce7f982df7bbaccc92f7bebc305123ca2bb5d70b4ac97bc0", func := "fretsaw/fretsawlaw41.EnvelopePlace", spec := "envelopePlace", apart := false }
def EnvelopePlaceSaid : Prop := envelopePlaceRow.holds Try.pinned (OpenSpec.ofChange envelopePlaceSpec)

/-- ITS FALSE NEIGHBOUR: 'it returns false'. Refute it at one input. -/
def envelopePlaceWrong : ChangeSpec := { name := "envelopePlace", fn := fun _ => fun
  | [d1, d2] => { results := [.lit (.bool false)], args := [d1, d2] }
  | _ => none }
def EnvelopePlaceWrongFalsely : Prop := envelopePlaceRow.holds Try.pinned (OpenSpec.ofChange envelopePlaceWrong)

/-- 'fretsawlaw41.EnvelopeLowest': WHATEVER THE INPUT: true; the input reads as it did. -/
def envelopeLowestSpec : ChangeSpec := { name := "envelopeLowest", fn := fun _ => fun
  | [d1, d2] => { results := [.lit (.bool true)], args := [d1, d2] }
  | _ => none }
def envelopeLowestRow : OpenClaim := { program := "ytbmbfifobonfjaa", sum := "a390a82d8d433ce5ce7f982df7bbaccc92f7bebc305123ca2bb5d70b4ac97bc0", func := "fretsaw/fretsawlaw41.EnvelopeLowest", spec := "envelopeLowest", apart := false }
def EnvelopeLowestSaid : Prop := envelopeLowestRow.holds Try.pinned (OpenSpec.ofChange envelopeLowestSpec)

/-- ITS FALSE NEIGHBOUR: 'it returns false'. Refute it at one input. -/
def envelopeLowestWrong : ChangeSpec := { name := "envelopeLowest", fn := fun _ => fun
  | [d1, d2] => { results := [.lit (.bool false)], args := [d1, d2] }
  | _ => none }
def EnvelopeLowestWrongFalsely : Prop := envelopeLowestRow.holds Try.pinned (OpenSpec.ofChange envelopeLowestWrong)

/-- 'fretsawlaw41.EnvelopeOps': WHATEVER THE INPUT: true; the input reads as it did. -/
def envelopeOpsSpec : ChangeSpec := { name := "envelopeOps", fn := fun _ => fun
  | [d1, d2] => { results := [.lit (.bool true)], args := [d1, d2] }
  | _ => none }
def envelopeOpsRow : OpenClaim := { program := "ytbmbfifobonfjaa", sum := "a390a82d8d433ce5ce7f982df7bbaccc92f7bebc305123ca2bb5d70b4ac97bc0", func := "fretsaw/fretsawlaw41.EnvelopeOps", spec := "envelopeOps", apart := false }
def EnvelopeOpsSaid : Prop := envelopeOpsRow.holds Try.pinned (OpenSpec.ofChange envelopeOpsSpec)

/-- ITS FALSE NEIGHBOUR: 'it returns false'. Refute it at one input. -/
def envelopeOpsWrong : ChangeSpec := { name := "envelopeOps", fn := fun _ => fun
  | [d1, d2] => { results := [.lit (.bool false)], args := [d1, d2] }
  | _ => none }
def EnvelopeOpsWrongFalsely : Prop := envelopeOpsRow.holds Try.pinned (OpenSpec.ofChange envelopeOpsWrong)

/-- 'fretsawlaw41.EnvelopeMax': WHATEVER THE INPUT: true; the input reads as it did. -/
def envelopeMaxSpec : ChangeSpec := { name := "envelopeMax", fn := fun _ => fun
  | [d1, d2, d3] => { results := [.lit (.bool true)], args := [d1, d2, d3] }
  | _ => none }
def envelopeMaxRow : OpenClaim := { program := "ytbmbfifobonfjaa", sum := "a390a82d8d433ce5ce7f982df7bbaccc92f7bebc305123ca2bb5d70b4ac97bc0", func := "fretsaw/fretsawlaw41.EnvelopeMax", spec := "envelopeMax", apart := false }
def EnvelopeMaxSaid : Prop := envelopeMaxRow.holds Try.pinned (OpenSpec.ofChange envelopeMaxSpec)

/-- ITS FALSE NEIGHBOUR: 'it returns false'. Refute it at one input. -/
def envelopeMaxWrong : ChangeSpec := { name := "envelopeMax", fn := fun _ => fun
  | [d1, d2, d3] => { results := [.lit (.bool false)], args := [d1, d2, d3] }
  | _ => none }
def EnvelopeMaxWrongFalsely : Prop := envelopeMaxRow.holds Try.pinned (OpenSpec.ofChange envelopeMaxWrong)

/-- 'fretsawlaw41.EnvelopePack': WHATEVER THE INPUT: true; the input reads as it did. -/
def envelopePackSpec : ChangeSpec := { name := "envelopePack", fn := fun _ => fun
  | [d1, d2, d3] => { results := [.lit (.bool true)], args := [d1, d2, d3] }
  | _ => none }
def envelopePackRow : OpenClaim := { program := "ytbmbfifobonfjaa", sum := "a390a82d8d433ce5ce7f982df7bbaccc92f7bebc305123ca2bb5d70b4ac97bc0", func := "fretsaw/fretsawlaw41.EnvelopePack", spec := "envelopePack", apart := false }
def EnvelopePackSaid : Prop := envelopePackRow.holds Try.pinned (OpenSpec.ofChange envelopePackSpec)

/-- ITS FALSE NEIGHBOUR: 'it returns false'. Refute it at one input. -/
def envelopePackWrong : ChangeSpec := { name := "envelopePack", fn := fun _ => fun
  | [d1, d2, d3] => { results := [.lit (.bool false)], args := [d1, d2, d3] }
  | _ => none }
def EnvelopePackWrongFalsely : Prop := envelopePackRow.holds Try.pinned (OpenSpec.ofChange envelopePackWrong)

/-- 'fretsawlaw41.EnvelopePacked': WHATEVER THE INPUT: true; the input reads as it did. -/
def envelopePackedSpec : ChangeSpec := { name := "envelopePacked", fn := fun _ => fun
  | [d1, d2] => { results := [.lit (.bool true)], args := [d1, d2] }
  | _ => none }
def envelopePackedRow : OpenClaim := { program := "ytbmbfifobonfjaa", sum := "a390a82d8d433ce5ce7f982df7bbaccc92f7bebc305123ca2bb5d70b4ac97bc0", func := "fretsaw/fretsawlaw41.EnvelopePacked", spec := "envelopePacked", apart := false }
def EnvelopePackedSaid : Prop := envelopePackedRow.holds Try.pinned (OpenSpec.ofChange envelopePackedSpec)

/-- ITS FALSE NEIGHBOUR: 'it returns false'. Refute it at one input. -/
def envelopePackedWrong : ChangeSpec := { name := "envelopePacked", fn := fun _ => fun
  | [d1, d2] => { results := [.lit (.bool false)], args := [d1, d2] }
  | _ => none }
def EnvelopePackedWrongFalsely : Prop := envelopePackedRow.holds Try.pinned (OpenSpec.ofChange envelopePackedWrong)

/-- 'fretsawlaw41.EnvelopeJoins': WHATEVER THE INPUT: true; the input reads as it did. -/
def envelopeJoinsSpec : ChangeSpec := { name := "envelopeJoins", fn := fun _ => fun
  | [d1, d2, d3] => { results := [.lit (.bool true)], args := [d1, d2, d3] }
  | _ => none }
def envelopeJoinsRow : OpenClaim := { program := "ytbmbfifobonfjaa", sum := "a390a82d8d433ce5ce7f982df7bbaccc92f7bebc305123ca2bb5d70b4ac97bc0", func := "fretsaw/fretsawlaw41.EnvelopeJoins", spec := "envelopeJoins", apart := false }
def EnvelopeJoinsSaid : Prop := envelopeJoinsRow.holds Try.pinned (OpenSpec.ofChange envelopeJoinsSpec)

/-- ITS FALSE NEIGHBOUR: 'it returns false'. Refute it at one input. -/
def envelopeJoinsWrong : ChangeSpec := { name := "envelopeJoins", fn := fun _ => fun
  | [d1, d2, d3] => { results := [.lit (.bool false)], args := [d1, d2, d3] }
  | _ => none }
def EnvelopeJoinsWrongFalsely : Prop := envelopeJoinsRow.holds Try.pinned (OpenSpec.ofChange envelopeJoinsWrong)

/- THE SECOND FORM. 'bulk': how many values and letters a reading holds, each counted each time it is reached (what is shared counts as often as it is met; a slice's spare places count too). A statement '..UptoSaid' is the law's where the arguments, and the package variables that the reading takes, are together of bulk at most 1048576: NARROWER than '..Said'. Prove '..Said' where nothing that the law and all that it calls make is longer than what came in: it says more and counts as full. Else prove '..UptoSaid'. A law counts once. -/
mutual
def uptoBulk {H : Type} : DataW H → Nat
  | .lit (.string bytes) => bytes.length + 1
  | .lit _ => 1
  | .nil => 1
  | .ptr d => uptoBulk d + 1
  | .slice elems spare => uptoBulkAll elems + uptoBulkAll spare + 1
  | .agg parts => uptoBulkAll parts + 1
  | .iface _ d => uptoBulk d + 1
  | .map entries => uptoBulkEntries entries + 1
  | .held _ => 1
def uptoBulkAll {H : Type} : List (DataW H) → Nat
  | [] => 0
  | d :: r => uptoBulk d + uptoBulkAll r
def uptoBulkEntries {H : Type} : List (Lit × DataW H) → Nat
  | [] => 0
  | x :: r => uptoBulkEntry x + uptoBulkEntries r
def uptoBulkEntry {H : Type} : Lit × DataW H → Nat
  | (.string bytes, d) => bytes.length + uptoBulk d + 1
  | (_, d) => uptoBulk d + 1
 end
def uptoSmall : (H : Type) → List (DataW H) → Bool := fun _ ds => decide (uptoBulkAll ds ≤ 1048576)
def OpenSpec.upto (s : _root_.Go.ChangeSpec) : _root_.Go.OpenSpec := { _root_.Go.OpenSpec.ofChange s with cond := some uptoSmall }

/-- 'fretsawlaw41.EnvelopePlace', WHERE WHAT IT READS IS OF BULK AT MOST 1048576: true; the input reads as it did. -/
def envelopePlaceUptoRow : OpenClaim := { program := "ytbmbfifobonfjaa", sum := "a390a82d8d433ce5ce7f982df7bbaccc92f7bebc305123ca2bb5d70b4ac97bc0", func := "fretsaw/fretsawlaw41.EnvelopePlace", spec := "envelopePlace", apart := false, narrowed := true }
def EnvelopePlaceUptoSaid : Prop := envelopePlaceUptoRow.holds Try.pinned (OpenSpec.upto envelopePlaceSpec)

/-- 'fretsawlaw41.EnvelopeLowest', WHERE WHAT IT READS IS OF BULK AT MOST 1048576: true; the input reads as it did. -/
def envelopeLowestUptoRow : OpenClaim := { program := "ytbmbfifobonfjaa", sum := "a390a82d8d433ce5ce7f982df7bbaccc92f7bebc305123ca2bb5d70b4ac97bc0", func := "fretsaw/fretsawlaw41.EnvelopeLowest", spec := "envelopeLowest", apart := false, narrowed := true }
def EnvelopeLowestUptoSaid : Prop := envelopeLowestUptoRow.holds Try.pinned (OpenSpec.upto envelopeLowestSpec)

/-- 'fretsawlaw41.EnvelopeOps', WHERE WHAT IT READS IS OF BULK AT MOST 1048576: true; the input reads as it did. -/
def envelopeOpsUptoRow : OpenClaim := { program := "ytbmbfifobonfjaa", sum := "a390a82d8d433ce5ce7f982df7bbaccc92f7bebc305123ca2bb5d70b4ac97bc0", func := "fretsaw/fretsawlaw41.EnvelopeOps", spec := "envelopeOps", apart := false, narrowed := true }
def EnvelopeOpsUptoSaid : Prop := envelopeOpsUptoRow.holds Try.pinned (OpenSpec.upto envelopeOpsSpec)

/-- 'fretsawlaw41.EnvelopeMax', WHERE WHAT IT READS IS OF BULK AT MOST 1048576: true; the input reads as it did. -/
def envelopeMaxUptoRow : OpenClaim := { program := "ytbmbfifobonfjaa", sum := "a390a82d8d433ce5ce7f982df7bbaccc92f7bebc305123ca2bb5d70b4ac97bc0", func := "fretsaw/fretsawlaw41.EnvelopeMax", spec := "envelopeMax", apart := false, narrowed := true }
def EnvelopeMaxUptoSaid : Prop := envelopeMaxUptoRow.holds Try.pinned (OpenSpec.upto envelopeMaxSpec)

/-- 'fretsawlaw41.EnvelopePack', WHERE WHAT IT READS IS OF BULK AT MOST 1048576: true; the input reads as it did. -/
def envelopePackUptoRow : OpenClaim := { program := "ytbmbfifobonfjaa", sum := "a390a82d8d433ce5ce7f982df7bbaccc92f7bebc305123ca2bb5d70b4ac97bc0", func := "fretsaw/fretsawlaw41.EnvelopePack", spec := "envelopePack", apart := false, narrowed := true }
def EnvelopePackUptoSaid : Prop := envelopePackUptoRow.holds Try.pinned (OpenSpec.upto envelopePackSpec)

/-- 'fretsawlaw41.EnvelopePacked', WHERE WHAT IT READS IS OF BULK AT MOST 1048576: true; the input reads as it did. -/
def envelopePackedUptoRow : OpenClaim := { program := "ytbmbfifobonfjaa", sum := "a390a82d8d433ce5ce7f982df7bbaccc92f7bebc305123ca2bb5d70b4ac97bc0", func := "fretsaw/fretsawlaw41.EnvelopePacked", spec := "envelopePacked", apart := false, narrowed := true }
def EnvelopePackedUptoSaid : Prop := envelopePackedUptoRow.holds Try.pinned (OpenSpec.upto envelopePackedSpec)

/-- 'fretsawlaw41.EnvelopeJoins', WHERE WHAT IT READS IS OF BULK AT MOST 1048576: true; the input reads as it did. -/
def envelopeJoinsUptoRow : OpenClaim := { program := "ytbmbfifobonfjaa", sum := "a390a82d8d433ce5ce7f982df7bbaccc92f7bebc305123ca2bb5d70b4ac97bc0", func := "fretsaw/fretsawlaw41.EnvelopeJoins", spec := "envelopeJoins", apart := false, narrowed := true }
def EnvelopeJoinsUptoSaid : Prop := envelopeJoinsUptoRow.holds Try.pinned (OpenSpec.upto envelopeJoinsSpec)

end Rows
end Go.Proofs.Ytbmbfifobonfjaa
