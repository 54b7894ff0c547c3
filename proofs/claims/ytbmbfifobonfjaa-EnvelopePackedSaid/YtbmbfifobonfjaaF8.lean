/-
  The given statement EnvelopePacked, proved for all arguments: the reading of its arguments, and the proof.
-/
import Derived.Test.YtbmbfifobonfjaaF7
import Derived.Test.YtbmbfifobonfjaaW17
set_option linter.unusedVariables false
set_option linter.unusedSimpArgs false
namespace Go.Proofs.Ytbmbfifobonfjaa
open Go.ChangeShapes Go.WideShapes Go.ChangeAt Go.RowKit Go.Ab Go.Proofs.Env41
namespace Law8
open Law7
theorem dArgs (W : World) : DecArgs Try.prog T W (frozenGh W) (fun ys => ∃ xs r, ys = argOf (aggB (Try.prog.underlying 3)) xs :: r ∧ QI xs ∧ ∃ xs r', r = argOf (aggB (Try.prog.underlying 62)) xs :: r' ∧ QRects xs ∧ r' = []) [3, 62] := decArgs_cons (dI W) (fun _ => ce3) (decArgs_cons (dRects W) (fun _ => ce62) decArgs_nil)
theorem sArgs (ys : List V) (h : ∃ xs r, ys = argOf (aggB (Try.prog.underlying 3)) xs :: r ∧ QI xs ∧ ∃ xs r', r = argOf (aggB (Try.prog.underlying 62)) xs :: r' ∧ QRects xs ∧ r' = []) : Go.Ab.Spec T Try.prog 8 ys (.lit (.bool true)) := by
  obtain ⟨xs, r, rfl, h1, xs1, r1, rfl, h2, rfl⟩ := h
  rw [ag3, ag62]
  obtain ⟨W, e⟩ := int_of h1
  obtain ⟨rs, e1⟩ := rects_of h2
  rw [e, e1]
  exact law_packed_spec
set_option maxRecDepth 100000 in
theorem lifted (os : Os) (started : os.Started) (H : Type) (enc : TypeId × Value → H) :
    ReturnsInHanded {} Try.checked os 8 .any (Rows.envelopePackedSpec.pre6 enc Try.prog Try.f8 Rows.envelopePackedRow.domain false) (Rows.envelopePackedSpec.post enc Try.prog Try.f8 false true false false) := by
  refine returnsInHanded_of_change (C := Try.checked) own started (by kernel_rfl) Try.func8
    (ChangeSpec.witness6 (enc := enc) (C := Try.checked) false ⟨#[], #[.int .i64 0, .slice none 0 0], []⟩ 8 (by kernel_rfl) (by kernel_rfl) (by kernel_rfl) (by kernel_rfl)) ?_
  intro W base args ds gs before hval hW _ _
  exact law_contract (T := T) (tb := 4) laidOut rfl (fun H ds hd => by
      match ds, hd with
      | [d1, d2], _ => rfl) (by kernel_rfl) (by kernel_rfl) (fun t ht => by
      rw [Try.params8] at ht
      simp at ht
      rcases ht with rfl | rfl <;> exact ⟨by kernel_rfl, of_decide_eq_true (by kernel_rfl)⟩) (fun W => by rw [Try.params8]; exact dArgs W) sArgs W base args ds gs before hval hW
theorem over : Rows.envelopePackedRow.holds Try.pinned (OpenSpec.ofChange Rows.envelopePackedSpec) :=
  OpenClaim.holds_of_wide 8 Try.f8 rfl rfl rfl rfl rfl rfl rfl ⟨rfl, rfl, rfl, rfl, rfl⟩ rfl rfl rfl rfl rfl (by kernel_rfl) Try.func8 (by kernel_rfl)
    (of_decide_eq_true (by kernel_rfl)) (by unfold Func.isWrapper; first | (rw [if_pos (by decide +kernel)]; kernel_rfl) | (rw [if_neg (by decide +kernel)]; exact ⟨rfl, rfl⟩))
    (fun os started H enc _ => lifted os started H enc)
end Law8
theorem envelopePacked_proved : Rows.EnvelopePackedSaid := Law8.over
#print axioms envelopePacked_proved
end Go.Proofs.Ytbmbfifobonfjaa
