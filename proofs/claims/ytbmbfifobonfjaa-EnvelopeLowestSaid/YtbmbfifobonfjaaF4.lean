/-
  The given statement EnvelopeLowest, proved for all arguments: the reading of its arguments, and the proof.
-/
import Derived.Test.YtbmbfifobonfjaaF3
import Derived.Test.YtbmbfifobonfjaaW11
set_option linter.unusedVariables false
set_option linter.unusedSimpArgs false
namespace Go.Proofs.Ytbmbfifobonfjaa
open Go.ChangeShapes Go.WideShapes Go.ChangeAt Go.RowKit Go.Ab Go.Proofs.Env41
namespace Law4
theorem dArgs (W : World) : DecArgs Try.prog T W (frozenGh W) (fun ys => ∃ xs r, ys = argOf (aggB (Try.prog.underlying 24)) xs :: r ∧ QEnv xs ∧ ∃ xs r', r = argOf (aggB (Try.prog.underlying 26)) xs :: r' ∧ QPair xs ∧ r' = []) [24, 26] := dPlace W
theorem sArgs (ys : List V) (h : ∃ xs r, ys = argOf (aggB (Try.prog.underlying 24)) xs :: r ∧ QEnv xs ∧ ∃ xs r', r = argOf (aggB (Try.prog.underlying 26)) xs :: r' ∧ QPair xs ∧ r' = []) : Go.Ab.Spec T Try.prog 4 ys (.lit (.bool true)) := by
  obtain ⟨xs, r, rfl, h1, xs', r', rfl, h2, rfl⟩ := h
  rw [ag24, ag26]
  obtain ⟨W, l, e⟩ := env_of h1
  obtain ⟨p, rfl⟩ := pair_of h2
  show Go.Ab.Spec T Try.prog 4 [.agg xs, .agg _] _
  rw [e]
  exact law_lowest_spec (W := W) (l := l) (r := p)
set_option maxRecDepth 100000 in
theorem lifted (os : Os) (started : os.Started) (H : Type) (enc : TypeId × Value → H) :
    ReturnsInHanded {} Try.checked os 4 .any (Rows.envelopeLowestSpec.pre6 enc Try.prog Try.f4 Rows.envelopeLowestRow.domain false) (Rows.envelopeLowestSpec.post enc Try.prog Try.f4 false true false false) := by
  refine returnsInHanded_of_change (C := Try.checked) own started (by kernel_rfl) Try.func4
    (ChangeSpec.witness6 (enc := enc) (C := Try.checked) false ⟨#[], #[.agg #[.int .i64 0, .slice none 0 0], .agg #[.int .i64 0, .int .i64 0]], []⟩ 8 (by kernel_rfl) (by kernel_rfl) (by kernel_rfl) (by kernel_rfl)) ?_
  intro W base args ds gs before hval hW _ _
  exact law_contract (T := T) (tb := 4) laidOut rfl (fun H ds hd => by
      match ds, hd with
      | [d1, d2], _ => rfl) (by kernel_rfl) (by kernel_rfl) (fun t ht => by
      rw [Try.params4] at ht
      simp at ht
      rcases ht with rfl | rfl <;> exact ⟨by kernel_rfl, of_decide_eq_true (by kernel_rfl)⟩) (fun W => by rw [Try.params4]; exact dArgs W) sArgs W base args ds gs before hval hW
theorem over : Rows.envelopeLowestRow.holds Try.pinned (OpenSpec.ofChange Rows.envelopeLowestSpec) :=
  OpenClaim.holds_of_wide 4 Try.f4 rfl rfl rfl rfl rfl rfl rfl ⟨rfl, rfl, rfl, rfl, rfl⟩ rfl rfl rfl rfl rfl (by kernel_rfl) Try.func4 (by kernel_rfl)
    (of_decide_eq_true (by kernel_rfl)) (by unfold Func.isWrapper; first | (rw [if_pos (by decide +kernel)]; kernel_rfl) | (rw [if_neg (by decide +kernel)]; exact ⟨rfl, rfl⟩))
    (fun os started H enc _ => lifted os started H enc)
end Law4
theorem envelopeLowest_proved : Rows.EnvelopeLowestSaid := Law4.over
#print axioms envelopeLowest_proved
end Go.Proofs.Ytbmbfifobonfjaa
