/-
  The given statement CostRead, with the library's variables as the program's text lays them, proved for all arguments: the reading of its arguments, and the proof. No conditions.
-/
import Derived.Test.YtckcanemolkncaaDoorE2
import Derived.Test.YtckcanemolkncaaDoorA6
set_option linter.unusedVariables false
set_option linter.unusedSimpArgs false
namespace Go.Proofs.YtckcanemolkncaaDoor
open Go.ChangeShapes Go.WideShapes Go.ChangeAt Go.RowKit Go.Ab Go.Proofs.Cost58
namespace Law9
theorem dS (W : World) : Dec Tryd.prog W (frozenGh W) 9 QStr := dec_str (by kernel_rfl) (by kernel_rfl)
theorem ag9 : aggB (Tryd.prog.underlying 9) = false := by kernel_rfl
theorem ce9 : Tryd.prog.cellsOf 9 = 1 := by kernel_rfl
theorem dArgs (W : World) : DecArgs Tryd.prog T2 W (frozenGh W) (fun ys => ∃ xs r, ys = argOf (aggB (Tryd.prog.underlying 9)) xs :: r ∧ QStr xs ∧ r = []) [9] := decArgs_cons (dS W) (fun _ => ce9) decArgs_nil
theorem sArgs (ys : List V) (h : ∃ xs r, ys = argOf (aggB (Tryd.prog.underlying 9)) xs :: r ∧ QStr xs ∧ r = []) : Go.Ab.Spec T2 Tryd.prog 9 ys (.lit (.bool true)) := by
  obtain ⟨xs, r, rfl, h1, rfl⟩ := h
  rw [ag9]
  obtain ⟨s, rfl, _⟩ := h1
  exact law_read_spec s

theorem door_met (os : Os) (args : Array Value) : laidMetH Tryd.prog Rows.costReadRow.laid ((World.doorLaid Tryd.prog 62 os).forCall (fun _ _ => 0) ⟨#[], args, []⟩).memory :=
  laidMetH_of_parts3 (fuel := 8) (laidMet_of_run' 8 (by kernel_rfl) (by kernel_rfl)) (by kernel_rfl) (by kernel_rfl)
set_option maxRecDepth 100000 in
theorem lifted (os : Os) (started : os.Started) (H : Type) (enc : TypeId × Value → H) :
    ReturnsInHanded {} Tryd.checked os 9 .any (fun w args => (Rows.costReadSpec.pre enc Tryd.prog Tryd.f9 [] false w args ∧ laidMetH Tryd.prog Rows.costReadRow.laid w) ∧ sizedMet enc Tryd.prog Tryd.f9 (OpenSpec.ofChange Rows.costReadSpec) false w args)
      (Rows.costReadSpec.post enc Tryd.prog Tryd.f9 false true false false) := by
  refine returnsIn_shaped (C := Tryd.checked) (X := fun w _ => laidMetH Tryd.prog Rows.costReadRow.laid w) (fun _ _ _ hh h => h.of_heap hh) own started (by kernel_rfl) Tryd.func9
    (ChangeSpec.witness_shaped (enc := enc) (C := Tryd.checked) (os := os) (X := fun w _ => laidMetH Tryd.prog Rows.costReadRow.laid w) false (World.doorLaid Tryd.prog 62 os) #[.string ⟨#[]⟩] 8 rfl (World.shaped_of_RefB (by kernel_rfl) (by kernel_rfl)) (by kernel_rfl) (by kernel_rfl) (by kernel_rfl) (door_met os _)) ?_
  intro W base args ds gs before hval hW hL hSh
  exact law_contract (T := T2) (tb := 4) laidOut rfl (fun H ds hd => by
      match ds, hd with
      | [d1], _ => rfl) (by kernel_rfl) (by kernel_rfl) (fun t ht => by
      rw [Tryd.params9] at ht
      simp at ht
      rcases ht with rfl <;> exact ⟨by kernel_rfl, of_decide_eq_true (by kernel_rfl)⟩) (fun W => by rw [Tryd.params9]; exact dArgs W) sArgs W base args ds gs before hval hW (lay2_of hL hSh)
theorem over : Rows.CostReadSaid :=
  OpenClaim.holds_of_wide 9 Tryd.f9 rfl rfl rfl rfl rfl rfl rfl ⟨rfl, rfl, rfl, rfl, rfl⟩ rfl rfl rfl rfl rfl (by kernel_rfl) Tryd.func9 (by kernel_rfl)
    (of_decide_eq_true (by kernel_rfl)) (by unfold Func.isWrapper; first | (rw [if_pos (by decide +kernel)]; kernel_rfl) | (rw [if_neg (by decide +kernel)]; exact ⟨rfl, rfl⟩))
    (fun os started H enc _ => lifted os started H enc)
end Law9
theorem costRead_proved : Rows.CostReadCardSaid :=
  Claim7.holds_tied_plain_at .later [] [.data, .data, .data, .sentinel, .sentinel] true Rows.costReadCard.stood.harness true
    Law9.over (fun _ h => by cases h) (by kernel_rfl) (fun _ h => by cases h) costRead_row_tie rfl ⟨rfl, rfl⟩ (by kernel_rfl) rfl
    (fun f fn hf hfn => by
      obtain rfl : f = 9 := Option.some.inj ((show Tryd.prog.funcNamed Rows.costReadRow.func = some 9 by kernel_rfl).symm.trans hf) |>.symm
      obtain rfl : fn = Tryd.f9 := (Option.some.inj (Tryd.func9.symm.trans hfn)).symm
      exact ⟨by kernel_rfl, fun j t ht => by
        rw [Tryd.params9] at ht
        have hm : t ∈ [9] := by simpa using Array.mem_of_getElem? ht
        have hall : ([9].all fun u => !Tryd.prog.wantsStandIn u) = true := by kernel_rfl
        exact (show Tryd.prog.wantsStandIn t = false by simpa using List.all_eq_true.1 hall t hm)⟩)
    (by kernel_rfl)
#print axioms costRead_proved
end Go.Proofs.YtckcanemolkncaaDoor
