/-
  The given statement about places: the reading of its arguments, and the proof.
-/
import Derived.Test.YtbmbfifobonfjaaW10
import Derived.Test.YtbmbfifobonfjaaAbEntry
import Derived.Test.YtbmbfifobonfjaaRows
import Derived.WalkKit
import Derived.ProofKit
import Derived.OpenShut
set_option linter.unusedVariables false
set_option linter.unusedSimpArgs false
namespace Go.Proofs.Ytbmbfifobonfjaa
open Go.ChangeShapes Go.WideShapes Go.ChangeAt Go.RowKit Go.Ab Go.Proofs.Env41

theorem own : ownKnob Try.prog.godebug = none := by kernel_rfl
theorem laidOut : laidOutB Try.prog = true := by kernel_rfl
abbrev QI : List V → Prop := QInt .i64 (-9284372036854775808) 9284372036854775807
section
variable (W : World)
theorem dI : Dec Try.prog W (frozenGh W) 3 QI := dec_int (k := .i64) (by kernel_rfl) (by kernel_rfl) (fun n h => by
  simp [Lit.wf, IntKind.min, IntKind.max, IntKind.signed, IntKind.bits] at h; omega)
abbrev QPair : List V → Prop := QAll [QI, QI]
theorem dStep : Dec Try.prog W (frozenGh W) 84 QPair := dec_struct Try.underlying84 (parts_cons rfl (dI W) (parts_cons (by kernel_rfl) (dI W) (parts_nil (by kernel_rfl))))
theorem dSteps : Dec Try.prog W (frozenGh W) 22 (QSlice true QPair) := dec_slice true (by kernel_rfl) (by kernel_rfl) (dStep W) (by decide +kernel) (fun h => by cases h) (frozenGh_fz W)
abbrev QEnv : List V → Prop := QAll [QI, QSlice true QPair]
theorem dEnv : Dec Try.prog W (frozenGh W) 24 QEnv := dec_struct Try.underlying24 (parts_cons rfl (dI W) (parts_cons (by kernel_rfl) (dSteps W) (parts_nil (by kernel_rfl))))
theorem dRect : Dec Try.prog W (frozenGh W) 26 QPair := dec_struct Try.underlying26 (parts_cons rfl (dI W) (parts_cons (by kernel_rfl) (dI W) (parts_nil (by kernel_rfl))))
end
theorem ag24 : aggB (Try.prog.underlying 24) = true := by kernel_rfl
theorem ag26 : aggB (Try.prog.underlying 26) = true := by kernel_rfl
theorem ag3 : aggB (Try.prog.underlying 3) = false := by kernel_rfl

theorem pair_of {xs : List V} (h : QPair xs) : ∃ p : Int × Int, xs = [.lit (.int .i64 p.1), .lit (.int .i64 p.2)] := by
  obtain ⟨a, b, rfl, ⟨n, rfl, _⟩, c, d, rfl, ⟨m, rfl, _⟩, rfl⟩ := h
  exact ⟨(n, m), rfl⟩
theorem pairs_of : ∀ {l : List V}, (∀ x ∈ l, QPair x.cells ∧ (true = true → ∃ ys, x = .agg ys)) → ∃ l' : List (Int × Int), l = l'.map stepV
  | [], _ => ⟨[], rfl⟩
  | x :: l, h => by
    obtain ⟨h1, h2⟩ := h x (by simp)
    obtain ⟨ys, rfl⟩ := h2 rfl
    obtain ⟨p, hp⟩ := pair_of h1
    obtain ⟨l', rfl⟩ := pairs_of (l := l) (fun y hy => h y (by simp [hy]))
    have hp' : ys = [.lit (.int .i64 p.1), .lit (.int .i64 p.2)] := hp
    exact ⟨p :: l', by rw [hp']; rfl⟩
theorem env_of {xs : List V} (h : QEnv xs) : ∃ W l, V.agg xs = envV W l := by
  obtain ⟨a, b, rfl, ⟨n, rfl, _⟩, c, d, rfl, ⟨l, rfl, _, hl⟩, rfl⟩ := h
  obtain ⟨l', rfl⟩ := pairs_of hl
  exact ⟨n, l', rfl⟩

theorem dPlace (W : World) : DecArgs Try.prog T W (frozenGh W) (fun ys => ∃ xs r, ys = argOf (aggB (Try.prog.underlying 24)) xs :: r ∧ QEnv xs ∧ ∃ xs r', r = argOf (aggB (Try.prog.underlying 26)) xs :: r' ∧ QPair xs ∧ r' = []) [24, 26] := decArgs_cons (dEnv W) (fun h => by rw [ag24] at h; cases h) (decArgs_cons (dRect W) (fun h => by rw [ag26] at h; cases h) decArgs_nil)
theorem sPlace (ys : List V) (h : ∃ xs r, ys = argOf (aggB (Try.prog.underlying 24)) xs :: r ∧ QEnv xs ∧ ∃ xs r', r = argOf (aggB (Try.prog.underlying 26)) xs :: r' ∧ QPair xs ∧ r' = []) : Go.Ab.Spec T Try.prog 3 ys (.lit (.bool true)) := by
  obtain ⟨xs, r, rfl, h1, xs', r', rfl, h2, rfl⟩ := h
  rw [ag24, ag26]
  obtain ⟨W, l, e⟩ := env_of h1
  obtain ⟨p, rfl⟩ := pair_of h2
  show Go.Ab.Spec T Try.prog 3 [.agg xs, .agg _] _
  rw [e]
  exact law_place_spec (W := W) (l := l) (r := p)
set_option maxRecDepth 100000 in
theorem lifted (os : Os) (started : os.Started) (H : Type) (enc : TypeId × Value → H) :
    ReturnsInHanded {} Try.checked os 3 .any (Rows.envelopePlaceSpec.pre6 enc Try.prog Try.f3 Rows.envelopePlaceRow.domain false) (Rows.envelopePlaceSpec.post enc Try.prog Try.f3 false true false false) := by
  refine returnsInHanded_of_change (C := Try.checked) own started (by kernel_rfl) Try.func3
    (ChangeSpec.witness6 (enc := enc) (C := Try.checked) false ⟨#[], #[.agg #[.int .i64 0, .slice none 0 0], .agg #[.int .i64 0, .int .i64 0]], []⟩ 8 (by kernel_rfl) (by kernel_rfl) (by kernel_rfl) (by kernel_rfl)) ?_
  intro W base args ds gs before hval hW _ _
  exact law_contract (T := T) (tb := 4) laidOut rfl (fun H ds hd => by
      match ds, hd with
      | [d1, d2], _ => rfl) (by kernel_rfl) (by kernel_rfl) (fun t ht => by
      rw [Try.params3] at ht
      simp at ht
      rcases ht with rfl | rfl <;> exact ⟨by kernel_rfl, of_decide_eq_true (by kernel_rfl)⟩) (fun W => by rw [Try.params3]; exact dPlace W) sPlace W base args ds gs before hval hW
theorem over : Rows.envelopePlaceRow.holds Try.pinned (OpenSpec.ofChange Rows.envelopePlaceSpec) :=
  OpenClaim.holds_of_wide 3 Try.f3 rfl rfl rfl rfl rfl rfl rfl ⟨rfl, rfl, rfl, rfl, rfl⟩ rfl rfl rfl rfl rfl (by kernel_rfl) Try.func3 (by kernel_rfl)
    (of_decide_eq_true (by kernel_rfl)) (by unfold Func.isWrapper; first | (rw [if_pos (by decide +kernel)]; kernel_rfl) | (rw [if_neg (by decide +kernel)]; exact ⟨rfl, rfl⟩))
    (fun os started H enc _ => lifted os started H enc)
theorem envelopePlace_proved : Rows.EnvelopePlaceSaid := over
#print axioms envelopePlace_proved
end Go.Proofs.Ytbmbfifobonfjaa
