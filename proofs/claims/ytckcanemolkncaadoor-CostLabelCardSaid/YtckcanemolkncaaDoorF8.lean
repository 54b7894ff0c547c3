/-
  The given statement CostLabel, with the library's variables as the program's text lays them, proved for all arguments: the reading of its arguments, and the proof. No conditions.
-/
import Derived.Test.YtckcanemolkncaaDoorE2
import Derived.Test.YtckcanemolkncaaDoorA6
set_option linter.unusedVariables false
set_option linter.unusedSimpArgs false
namespace Go.Proofs.YtckcanemolkncaaDoor
open Go.ChangeShapes Go.WideShapes Go.ChangeAt Go.RowKit Go.Ab Go.Proofs.Cost58
namespace Law8
abbrev QI : List V → Prop := QInt .i64 (-9223372036854775808) 9223372036854775807
theorem dI (W : World) : Dec Tryd.prog W (frozenGh W) 3 QI := dec_int (k := .i64) (by kernel_rfl) (by kernel_rfl) (fun n h => by
  simp [Lit.wf, IntKind.min, IntKind.max, IntKind.signed, IntKind.bits] at h; omega)
theorem dS (W : World) : Dec Tryd.prog W (frozenGh W) 9 QStr := dec_str (by kernel_rfl) (by kernel_rfl)
theorem dB (W : World) : Dec Tryd.prog W (frozenGh W) 4 QBool := dec_bool (by kernel_rfl) (by kernel_rfl)
abbrev QPc : List V → Prop := QAll [QI, QI, QStr, QStr, QStr, QI, QBool, QI, QStr]
theorem dU (W : World) : Dec Tryd.prog W (frozenGh W) 3 QI := dec_int (k := .i64) (by kernel_rfl) (by kernel_rfl) (fun n h => by
  simp [Lit.wf, IntKind.min, IntKind.max, IntKind.signed, IntKind.bits] at h; omega)
theorem dPc (W : World) : Dec Tryd.prog W (frozenGh W) 79 QPc := dec_struct Tryd.underlying79 (parts_cons rfl (dI W) (parts_cons (by kernel_rfl) (dI W) (parts_cons (by kernel_rfl) (dS W) (parts_cons (by kernel_rfl) (dS W) (parts_cons (by kernel_rfl) (dS W) (parts_cons (by kernel_rfl) (dI W) (parts_cons (by kernel_rfl) (dB W) (parts_cons (by kernel_rfl) (dU W) (parts_cons (by kernel_rfl) (dS W) (parts_nil (by kernel_rfl)))))))))))
theorem ag79 : aggB (Tryd.prog.underlying 79) = true := by kernel_rfl
theorem pc_of {xs : List V} (h : QPc xs) : ∃ p : Pc, V.agg xs = pcV p := by
  obtain ⟨_, _, rfl, ⟨a, rfl, _⟩, _, _, rfl, ⟨b, rfl, _⟩, _, _, rfl, ⟨c, rfl, _⟩, _, _, rfl, ⟨d, rfl, _⟩, _, _, rfl, ⟨e, rfl, _⟩, _, _, rfl, ⟨f, rfl, _⟩, _, _, rfl, ⟨g, rfl⟩, _, _, rfl, ⟨i, rfl, _⟩, _, _, rfl, ⟨j, rfl, _⟩, rfl⟩ := h
  exact ⟨⟨a, b, c, d, e, f, g, i, j⟩, rfl⟩
theorem dArgs (W : World) : DecArgs Tryd.prog T2 W (frozenGh W) (fun ys => ∃ xs r, ys = argOf (aggB (Tryd.prog.underlying 79)) xs :: r ∧ QPc xs ∧ r = []) [79] := decArgs_cons (dPc W) (fun h => by rw [ag79] at h; cases h) decArgs_nil
theorem sArgs (ys : List V) (h : ∃ xs r, ys = argOf (aggB (Tryd.prog.underlying 79)) xs :: r ∧ QPc xs ∧ r = []) : Go.Ab.Spec T2 Tryd.prog 8 ys (.lit (.bool true)) := by
  obtain ⟨xs, r, rfl, h1, rfl⟩ := h
  rw [ag79]
  obtain ⟨p, hp⟩ := pc_of h1
  show Go.Ab.Spec T2 Tryd.prog 8 [.agg xs] _
  rw [hp]
  exact law_label_spec p

theorem door_met (os : Os) (args : Array Value) : laidMetH Tryd.prog Rows.costLabelRow.laid ((World.doorLaid Tryd.prog 62 os).forCall (fun _ _ => 0) ⟨#[], args, []⟩).memory :=
  laidMetH_of_parts3 (fuel := 8) (laidMet_of_run' 8 (by kernel_rfl) (by kernel_rfl)) (by kernel_rfl) (by kernel_rfl)
set_option maxRecDepth 100000 in
theorem lifted (os : Os) (started : os.Started) (H : Type) (enc : TypeId × Value → H) :
    ReturnsInHanded {} Tryd.checked os 8 .any (fun w args => (Rows.costLabelSpec.pre enc Tryd.prog Tryd.f8 [] false w args ∧ laidMetH Tryd.prog Rows.costLabelRow.laid w) ∧ sizedMet enc Tryd.prog Tryd.f8 (OpenSpec.ofChange Rows.costLabelSpec) false w args)
      (Rows.costLabelSpec.post enc Tryd.prog Tryd.f8 false true false false) := by
  refine returnsIn_shaped (C := Tryd.checked) (X := fun w _ => laidMetH Tryd.prog Rows.costLabelRow.laid w) (fun _ _ _ hh h => h.of_heap hh) own started (by kernel_rfl) Tryd.func8
    (ChangeSpec.witness_shaped (enc := enc) (C := Tryd.checked) (os := os) (X := fun w _ => laidMetH Tryd.prog Rows.costLabelRow.laid w) false (World.doorLaid Tryd.prog 62 os) #[.agg #[.int .i64 0, .int .i64 0, .string ⟨#[]⟩, .string ⟨#[]⟩, .string ⟨#[]⟩, .int .i64 0, .bool false, .int .i64 0, .string ⟨#[]⟩]] 8 rfl (World.shaped_of_RefB (by kernel_rfl) (by kernel_rfl)) (by kernel_rfl) (by kernel_rfl) (by kernel_rfl) (door_met os _)) ?_
  intro W base args ds gs before hval hW hL hSh
  exact law_contract (T := T2) (tb := 4) laidOut rfl (fun H ds hd => by
      match ds, hd with
      | [d1], _ => rfl) (by kernel_rfl) (by kernel_rfl) (fun t ht => by
      rw [Tryd.params8] at ht
      simp at ht
      rcases ht with rfl <;> exact ⟨by kernel_rfl, of_decide_eq_true (by kernel_rfl)⟩) (fun W => by rw [Tryd.params8]; exact dArgs W) sArgs W base args ds gs before hval hW (lay2_of hL hSh)
theorem over : Rows.CostLabelSaid :=
  OpenClaim.holds_of_wide 8 Tryd.f8 rfl rfl rfl rfl rfl rfl rfl ⟨rfl, rfl, rfl, rfl, rfl⟩ rfl rfl rfl rfl rfl (by kernel_rfl) Tryd.func8 (by kernel_rfl)
    (of_decide_eq_true (by kernel_rfl)) (by unfold Func.isWrapper; first | (rw [if_pos (by decide +kernel)]; kernel_rfl) | (rw [if_neg (by decide +kernel)]; exact ⟨rfl, rfl⟩))
    (fun os started H enc _ => lifted os started H enc)
end Law8
theorem costLabel_proved : Rows.CostLabelCardSaid :=
  Claim7.holds_tied_plain_at .later [] [.data, .data, .data, .sentinel, .sentinel] true Rows.costLabelCard.stood.harness true
    Law8.over (fun _ h => by cases h) (by kernel_rfl) (fun _ h => by cases h) costLabel_row_tie rfl ⟨rfl, rfl⟩ (by kernel_rfl) rfl
    (fun f fn hf hfn => by
      obtain rfl : f = 8 := Option.some.inj ((show Tryd.prog.funcNamed Rows.costLabelRow.func = some 8 by kernel_rfl).symm.trans hf) |>.symm
      obtain rfl : fn = Tryd.f8 := (Option.some.inj (Tryd.func8.symm.trans hfn)).symm
      exact ⟨by kernel_rfl, fun j t ht => by
        rw [Tryd.params8] at ht
        have hm : t ∈ [79] := by simpa using Array.mem_of_getElem? ht
        have hall : ([79].all fun u => !Tryd.prog.wantsStandIn u) = true := by kernel_rfl
        exact (show Tryd.prog.wantsStandIn t = false by simpa using List.all_eq_true.1 hall t hm)⟩)
    (by kernel_rfl)
#print axioms costLabel_proved
end Go.Proofs.YtckcanemolkncaaDoor
