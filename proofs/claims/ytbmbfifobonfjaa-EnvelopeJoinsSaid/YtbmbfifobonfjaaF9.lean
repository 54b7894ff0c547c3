/-
  The given statement EnvelopeJoins, proved for all arguments: the reading of its arguments, and the proof.
-/
import Derived.Test.YtbmbfifobonfjaaF7
import Derived.Test.YtbmbfifobonfjaaW18
set_option linter.unusedVariables false
set_option linter.unusedSimpArgs false
namespace Go.Proofs.Ytbmbfifobonfjaa
open Go.ChangeShapes Go.WideShapes Go.ChangeAt Go.RowKit Go.Ab Go.Proofs.Env41
namespace Law9
open Law7
theorem dArgs (W : World) : DecArgs Try.prog T W (frozenGh W) (fun ys => ∃ xs r, ys = argOf (aggB (Try.prog.underlying 3)) xs :: r ∧ QI xs ∧ ∃ xs r', r = argOf (aggB (Try.prog.underlying 62)) xs :: r' ∧ QRects xs ∧ ∃ xs r2, r' = argOf (aggB (Try.prog.underlying 62)) xs :: r2 ∧ QRects xs ∧ r2 = []) [3, 62, 62] := decArgs_cons (dI W) (fun _ => ce3) (decArgs_cons (dRects W) (fun _ => ce62) (decArgs_cons (dRects W) (fun _ => ce62) decArgs_nil))
theorem sArgs (ys : List V) (h : ∃ xs r, ys = argOf (aggB (Try.prog.underlying 3)) xs :: r ∧ QI xs ∧ ∃ xs r', r = argOf (aggB (Try.prog.underlying 62)) xs :: r' ∧ QRects xs ∧ ∃ xs r2, r' = argOf (aggB (Try.prog.underlying 62)) xs :: r2 ∧ QRects xs ∧ r2 = []) : Go.Ab.Spec T Try.prog 9 ys (.lit (.bool true)) := by
  obtain ⟨xs, r, rfl, h1, xs1, r1, rfl, h2, xs2, r2, rfl, h3, rfl⟩ := h
  rw [ag3, ag62]
  obtain ⟨W, e⟩ := int_of h1
  obtain ⟨rs, e1⟩ := rects_of h2
  obtain ⟨qs, e2⟩ := rects_of h3
  rw [e, e1, e2]
  exact law_joins_spec
set_option maxRecDepth 100000 in
theorem lifted (os : Os) (started : os.Started) (H : Type) (enc : TypeId × Value → H) :
    ReturnsInHanded {} Try.checked os 9 .any (Rows.envelopeJoinsSpec.pre6 enc Try.prog Try.f9 Rows.envelopeJoinsRow.domain false) (Rows.envelopeJoinsSpec.post enc Try.prog Try.f9 false true false false) := by
  refine returnsInHanded_of_change (C := Try.checked) own started (by kernel_rfl) Try.func9
    (ChangeSpec.witness6 (enc := enc) (C := Try.checked) false ⟨#[], #[.int .i64 0, .slice none 0 0, .slice none 0 0], []⟩ 8 (by kernel_rfl) (by kernel_rfl) (by kernel_rfl) (by kernel_rfl)) ?_
  intro W base args ds gs before hval hW _ _
  exact law_contract (T := T) (tb := 4) laidOut rfl (fun H ds hd => by
      match ds, hd with
      | [d1, d2, d3], _ => rfl) (by kernel_rfl) (by kernel_rfl) (fun t ht => by
      rw [Try.params9] at ht
      simp at ht
      rcases ht with rfl | rfl <;> exact ⟨by kernel_rfl, of_decide_eq_true (by kernel_rfl)⟩) (fun W => by rw [Try.params9]; exact dArgs W) sArgs W base args ds gs before hval hW
theorem over : Rows.envelopeJoinsRow.holds Try.pinned (OpenSpec.ofChange Rows.envelopeJoinsSpec) :=
  OpenClaim.holds_of_wide 9 Try.f9 rfl rfl rfl rfl rfl rfl rfl ⟨rfl, rfl, rfl, rfl, rfl⟩ rfl rfl rfl rfl rfl (by kernel_rfl) Try.func9 (by kernel_rfl)
    (of_decide_eq_true (by kernel_rfl)) (by unfold Func.isWrapper; first | (rw [if_pos (by decide +kernel)]; kernel_rfl) | (rw [if_neg (by decide +kernel)]; exact ⟨rfl, rfl⟩))
    (fun os started H enc _ => lifted os started H enc)
end Law9
theorem envelopeJoins_proved : Rows.EnvelopeJoinsSaid := Law9.over
#print axioms envelopeJoins_proved
end Go.Proofs.Ytbmbfifobonfjaa
