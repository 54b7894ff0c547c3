/-
  The given statement EnvelopeOps, proved for all arguments: the reading of its arguments, and the proof.
-/
import Derived.Test.YtbmbfifobonfjaaF3
import Derived.Test.YtbmbfifobonfjaaW11
set_option linter.unusedVariables false
set_option linter.unusedSimpArgs false
namespace Go.Proofs.Ytbmbfifobonfjaa
open Go.ChangeShapes Go.WideShapes Go.ChangeAt Go.RowKit Go.Ab Go.Proofs.Env41
namespace Law5
theorem ag48 : aggB (Try.prog.underlying 48) = true := by kernel_rfl
abbrev QThree : List V → Prop := QAll [QI, QI, QI]
theorem dThree (W : World) : Dec Try.prog W (frozenGh W) 48 QThree := dec_array (m := 3) (e := 3) (by kernel_rfl) (parts_cons (by kernel_rfl) (dI W) (parts_cons (by kernel_rfl) (dI W) (parts_cons (by kernel_rfl) (dI W) (parts_nil (by kernel_rfl)))))
theorem three_of {xs : List V} (h : QThree xs) : ∃ a b c : Int, xs = [I a, I b, I c] := by
  obtain ⟨a, b, rfl, ⟨n, rfl, _⟩, c, d, rfl, ⟨m, rfl, _⟩, e, f, rfl, ⟨k, rfl, _⟩, rfl⟩ := h
  exact ⟨n, m, k, rfl⟩
theorem dArgs (W : World) : DecArgs Try.prog T W (frozenGh W) (fun ys => ∃ xs r, ys = argOf (aggB (Try.prog.underlying 24)) xs :: r ∧ QEnv xs ∧ ∃ xs r', r = argOf (aggB (Try.prog.underlying 48)) xs :: r' ∧ QThree xs ∧ r' = []) [24, 48] := decArgs_cons (dEnv W) (fun h => by rw [ag24] at h; cases h) (decArgs_cons (dThree W) (fun h => by rw [ag48] at h; cases h) decArgs_nil)
theorem sArgs (ys : List V) (h : ∃ xs r, ys = argOf (aggB (Try.prog.underlying 24)) xs :: r ∧ QEnv xs ∧ ∃ xs r', r = argOf (aggB (Try.prog.underlying 48)) xs :: r' ∧ QThree xs ∧ r' = []) : Go.Ab.Spec T Try.prog 5 ys (.lit (.bool true)) := by
  obtain ⟨xs, r, rfl, h1, xs', r', rfl, h2, rfl⟩ := h
  rw [ag24, ag48]
  obtain ⟨W, l, e⟩ := env_of h1
  obtain ⟨a, b, c, rfl⟩ := three_of h2
  show Go.Ab.Spec T Try.prog 5 [.agg xs, .agg _] _
  rw [e]
  exact law_ops_spec (W := W) (l := l) (x := a) (y := b) (z := c)
set_option maxRecDepth 100000 in
theorem lifted (os : Os) (started : os.Started) (H : Type) (enc : TypeId × Value → H) :
    ReturnsInHanded {} Try.checked os 5 .any (Rows.envelopeOpsSpec.pre6 enc Try.prog Try.f5 Rows.envelopeOpsRow.domain false) (Rows.envelopeOpsSpec.post enc Try.prog Try.f5 false true false false) := by
  refine returnsInHanded_of_change (C := Try.checked) own started (by kernel_rfl) Try.func5
    (ChangeSpec.witness6 (enc := enc) (C := Try.checked) false ⟨#[], #[.agg #[.int .i64 0, .slice none 0 0], .agg #[.int .i64 0, .int .i64 0, .int .i64 0]], []⟩ 8 (by kernel_rfl) (by kernel_rfl) (by kernel_rfl) (by kernel_rfl)) ?_
  intro W base args ds gs before hval hW _ _
  exact law_contract (T := T) (tb := 4) laidOut rfl (fun H ds hd => by
      match ds, hd with
      | [d1, d2], _ => rfl) (by kernel_rfl) (by kernel_rfl) (fun t ht => by
      rw [Try.params5] at ht
      simp at ht
      rcases ht with rfl | rfl <;> exact ⟨by kernel_rfl, of_decide_eq_true (by kernel_rfl)⟩) (fun W => by rw [Try.params5]; exact dArgs W) sArgs W base args ds gs before hval hW
theorem over : Rows.envelopeOpsRow.holds Try.pinned (OpenSpec.ofChange Rows.envelopeOpsSpec) :=
  OpenClaim.holds_of_wide 5 Try.f5 rfl rfl rfl rfl rfl rfl rfl ⟨rfl, rfl, rfl, rfl, rfl⟩ rfl rfl rfl rfl rfl (by kernel_rfl) Try.func5 (by kernel_rfl)
    (of_decide_eq_true (by kernel_rfl)) (by unfold Func.isWrapper; first | (rw [if_pos (by decide +kernel)]; kernel_rfl) | (rw [if_neg (by decide +kernel)]; exact ⟨rfl, rfl⟩))
    (fun os started H enc _ => lifted os started H enc)
end Law5
theorem envelopeOps_proved : Rows.EnvelopeOpsSaid := Law5.over
#print axioms envelopeOps_proved
end Go.Proofs.Ytbmbfifobonfjaa
