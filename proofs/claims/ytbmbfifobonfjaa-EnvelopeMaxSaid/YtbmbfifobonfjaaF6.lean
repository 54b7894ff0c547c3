/-
  The given statement EnvelopeMax, proved for all arguments: the reading of its arguments, and the proof.
-/
import Derived.Test.YtbmbfifobonfjaaF3
import Derived.Test.YtbmbfifobonfjaaW13
set_option linter.unusedVariables false
set_option linter.unusedSimpArgs false
namespace Go.Proofs.Ytbmbfifobonfjaa
open Go.ChangeShapes Go.WideShapes Go.ChangeAt Go.RowKit Go.Ab Go.Proofs.Env41
namespace Law6
theorem dArgs (W : World) : DecArgs Try.prog T W (frozenGh W) (fun ys => ∃ xs r, ys = argOf (aggB (Try.prog.underlying 24)) xs :: r ∧ QEnv xs ∧ ∃ xs r', r = argOf (aggB (Try.prog.underlying 24)) xs :: r' ∧ QEnv xs ∧ ∃ xs r2, r' = argOf (aggB (Try.prog.underlying 24)) xs :: r2 ∧ QEnv xs ∧ r2 = []) [24, 24, 24] := decArgs_cons (dEnv W) (fun h => by rw [ag24] at h; cases h) (decArgs_cons (dEnv W) (fun h => by rw [ag24] at h; cases h) (decArgs_cons (dEnv W) (fun h => by rw [ag24] at h; cases h) decArgs_nil))
theorem sArgs (ys : List V) (h : ∃ xs r, ys = argOf (aggB (Try.prog.underlying 24)) xs :: r ∧ QEnv xs ∧ ∃ xs r', r = argOf (aggB (Try.prog.underlying 24)) xs :: r' ∧ QEnv xs ∧ ∃ xs r2, r' = argOf (aggB (Try.prog.underlying 24)) xs :: r2 ∧ QEnv xs ∧ r2 = []) : Go.Ab.Spec T Try.prog 6 ys (.lit (.bool true)) := by
  obtain ⟨xs, r, rfl, h1, xs1, r1, rfl, h2, xs2, r2, rfl, h3, rfl⟩ := h
  rw [ag24]
  obtain ⟨W, l, e⟩ := env_of h1
  obtain ⟨W1, l1, e1⟩ := env_of h2
  obtain ⟨W2, l2, e2⟩ := env_of h3
  show Go.Ab.Spec T Try.prog 6 [.agg xs, .agg xs1, .agg xs2] _
  rw [e, e1, e2]
  exact law_max_spec
set_option maxRecDepth 100000 in
theorem lifted (os : Os) (started : os.Started) (H : Type) (enc : TypeId × Value → H) :
    ReturnsInHanded {} Try.checked os 6 .any (Rows.envelopeMaxSpec.pre6 enc Try.prog Try.f6 Rows.envelopeMaxRow.domain false) (Rows.envelopeMaxSpec.post enc Try.prog Try.f6 false true false false) := by
  refine returnsInHanded_of_change (C := Try.checked) own started (by kernel_rfl) Try.func6
    (ChangeSpec.witness6 (enc := enc) (C := Try.checked) false ⟨#[], #[.agg #[.int .i64 0, .slice none 0 0], .agg #[.int .i64 0, .slice none 0 0], .agg #[.int .i64 0, .slice none 0 0]], []⟩ 8 (by kernel_rfl) (by kernel_rfl) (by kernel_rfl) (by kernel_rfl)) ?_
  intro W base args ds gs before hval hW _ _
  exact law_contract (T := T) (tb := 4) laidOut rfl (fun H ds hd => by
      match ds, hd with
      | [d1, d2, d3], _ => rfl) (by kernel_rfl) (by kernel_rfl) (fun t ht => by
      rw [Try.params6] at ht
      simp at ht
      rcases ht with rfl <;> exact ⟨by kernel_rfl, of_decide_eq_true (by kernel_rfl)⟩) (fun W => by rw [Try.params6]; exact dArgs W) sArgs W base args ds gs before hval hW
theorem over : Rows.envelopeMaxRow.holds Try.pinned (OpenSpec.ofChange Rows.envelopeMaxSpec) :=
  OpenClaim.holds_of_wide 6 Try.f6 rfl rfl rfl rfl rfl rfl rfl ⟨rfl, rfl, rfl, rfl, rfl⟩ rfl rfl rfl rfl rfl (by kernel_rfl) Try.func6 (by kernel_rfl)
    (of_decide_eq_true (by kernel_rfl)) (by unfold Func.isWrapper; first | (rw [if_pos (by decide +kernel)]; kernel_rfl) | (rw [if_neg (by decide +kernel)]; exact ⟨rfl, rfl⟩))
    (fun os started H enc _ => lifted os started H enc)
end Law6
theorem envelopeMax_proved : Rows.EnvelopeMaxSaid := Law6.over
#print axioms envelopeMax_proved
end Go.Proofs.Ytbmbfifobonfjaa
