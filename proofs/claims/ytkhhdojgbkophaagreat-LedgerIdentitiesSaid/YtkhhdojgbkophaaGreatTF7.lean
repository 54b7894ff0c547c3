/-
  The given statement LedgerIdentities, proved for all arguments: the reading of its arguments, and the proof
-/
import Derived.Test.YtkhhdojgbkophaaGreatH51
import Derived.Test.YtkhhdojgbkophaaGreatH53
set_option linter.unusedVariables false
set_option linter.unusedSimpArgs false
namespace Go.Proofs.YtkhhdojgbkophaaGreat
open Go.ChangeShapes Go.WideShapes Go.ChangeAt Go.RowKit Go.Ab Go.Proofs.Led
namespace Law7
theorem ag22 : aggB (Tryz.prog.underlying 22) = false := by kernel_rfl
theorem ce22 : Tryz.prog.cellsOf 22 = 1 := by kernel_rfl
abbrev QArgs : List V -> Prop := fun ys => ∃ xs0 r0, ys = argOf (aggB (Tryz.prog.underlying 22)) xs0 :: r0 /\ Q22 xs0 /\ r0 = []
theorem dArgs (W : World) : DecArgs Tryz.prog T W (frozenGh W) QArgs [22] := (decArgs_cons (d22 W) (fun _ => ce22) decArgs_nil)
theorem sArgs (ys : List V) (h : QArgs ys) : Go.Ab.Spec T Tryz.prog 7 ys (.lit (.bool true)) := by
  obtain ⟨xs0, r0, rfl, h0, rfl⟩ := h
  rw [ag22]
  obtain ⟨l, rfl, hl, hq⟩ := h0
  obtain ⟨l', rfl, hb⟩ := evs_of hq
  exact lawIds_spec l' (by simpa using max6 hl) hb
set_option maxRecDepth 100000 in
theorem lifted (os : Os) (started : os.Started) (H : Type) (enc : TypeId × Value -> H) :
    ReturnsInHanded {} Tryz.checked os 7 .any (Rows.ledgerIdentitiesSpec.pre6 enc Tryz.prog Tryz.f7 Rows.ledgerIdentitiesRow.domain false) (Rows.ledgerIdentitiesSpec.post enc Tryz.prog Tryz.f7 false true false false) := by
  refine returnsInHanded_of_change (C := Tryz.checked) own started (by kernel_rfl) Tryz.func7
    (ChangeSpec.witness6 (enc := enc) (C := Tryz.checked) false ⟨#[], #[.slice none 0 0], []⟩ 8 (by kernel_rfl) (by kernel_rfl) (by kernel_rfl) (by kernel_rfl)) ?_
  intro W base args ds gs before hval hW _ _
  exact law_contract (T := T) (tb := 4) laidOut rfl (fun H ds hd => by
      match ds, hd with
      | [d1], _ => rfl) (by kernel_rfl) (by kernel_rfl) (fun t ht => by
      rw [Tryz.params7] at ht
      simp at ht
      rcases ht with rfl <;> exact ⟨by kernel_rfl, of_decide_eq_true (by kernel_rfl)⟩) (fun W => by rw [Tryz.params7]; exact dArgs W) sArgs W base args ds gs before hval hW trivial
theorem and2 {a b : Bool} (h : a = true) (k : b = true) : (a && b) = true := by rw [h, k]; rfl
set_option maxHeartbeats 4000000 in
set_option maxRecDepth 100000 in
theorem closed : joinedFacts Tryz.pinned.checked.prog 7 Tryz.f7 Rows.ledgerIdentitiesSpec Rows.ledgerIdentitiesRow = true := by
  unfold joinedFacts
  repeat' (with_reducible refine and2 ?_ ?_)
  all_goals (as_aux_lemma => kernel_rfl)
theorem over : Rows.ledgerIdentitiesRow.holds Tryz.pinned (OpenSpec.ofChange Rows.ledgerIdentitiesSpec) :=
  OpenClaim.holds_of_wide 7 Tryz.f7 rfl rfl rfl rfl rfl rfl rfl ⟨rfl, rfl, rfl, rfl, rfl⟩ rfl rfl rfl rfl rfl (by kernel_rfl) Tryz.func7 closed
    (of_decide_eq_true (by kernel_rfl)) (by unfold Func.isWrapper; first | (rw [if_pos (by decide +kernel)]; kernel_rfl) | (rw [if_neg (by decide +kernel)]; exact ⟨rfl, rfl⟩))
    (fun os started H enc _ => lifted os started H enc)
end Law7
theorem ledgerIdentities_proved : Rows.LedgerIdentitiesSaid := Law7.over
#print axioms ledgerIdentities_proved
end Go.Proofs.YtkhhdojgbkophaaGreat
