/-
  The given statement CostShare, with the library's variables as the program's text lays them, proved for all arguments: the reading of its arguments, and the proof. No conditions.
-/
import Derived.Test.YtckcanemolkncaaDoorE1
import Derived.Test.YtckcanemolkncaaDoorN5
set_option linter.unusedVariables false
set_option linter.unusedSimpArgs false
namespace Go.Proofs.YtckcanemolkncaaDoor
open Go.ChangeShapes Go.WideShapes Go.ChangeAt Go.RowKit Go.Ab Go.Proofs.Cost58
namespace Law3
abbrev QI : List V → Prop := QInt .i64 (-9223372036854775808) 9223372036854775807
theorem dI (W : World) : Dec Tryd.prog W (frozenGh W) 3 QI := dec_int (k := .i64) (by kernel_rfl) (by kernel_rfl) (fun n h => by
  simp [Lit.wf, IntKind.min, IntKind.max, IntKind.signed, IntKind.bits] at h; omega)
theorem dInts (W : World) : Dec Tryd.prog W (frozenGh W) 22 (QSlice false QI) := dec_slice false (by kernel_rfl) (by kernel_rfl) (dI W) (by decide +kernel) (fun _ => by kernel_rfl) (frozenGh_fz W)
theorem ag3 : aggB (Tryd.prog.underlying 3) = false := by kernel_rfl
theorem ag22 : aggB (Tryd.prog.underlying 22) = false := by kernel_rfl
theorem ce3 : Tryd.prog.cellsOf 3 = 1 := by kernel_rfl
theorem ce22 : Tryd.prog.cellsOf 22 = 1 := by kernel_rfl
theorem int_of {xs : List V} (h : QI xs) : ∃ n : Int, xs = [I n] := by
  obtain ⟨n, rfl, _⟩ := h
  exact ⟨n, rfl⟩
theorem ints_of : ∀ {l : List V}, (∀ x ∈ l, QI x.cells ∧ (false = true → ∃ ys, x = .agg ys) ∧ (false = false → ∀ ys, x ≠ .agg ys)) → ∃ l' : List Int, l = l'.map I
  | [], _ => ⟨[], rfl⟩
  | x :: l, h => by
    obtain ⟨n, hn⟩ := int_of (h x (by simp)).1
    obtain ⟨l', rfl⟩ := ints_of (l := l) (fun y hy => h y (by simp [hy]))
    refine ⟨n :: l', ?_⟩
    have hx := (h x (by simp)).2.2 rfl
    cases x with
    | agg ys => exact (hx ys rfl).elim
    | _ => simp only [V.cells, List.cons.injEq, and_true] at hn; rw [hn]; rfl
theorem dArgs (W : World) : DecArgs Tryd.prog T W (frozenGh W) (fun ys => ∃ xs r, ys = argOf (aggB (Tryd.prog.underlying 3)) xs :: r ∧ QI xs ∧ ∃ xs r', r = argOf (aggB (Tryd.prog.underlying 22)) xs :: r' ∧ QSlice false QI xs ∧ r' = []) [3, 22] := decArgs_cons (dI W) (fun _ => ce3) (decArgs_cons (dInts W) (fun _ => ce22) decArgs_nil)
theorem sArgs (ys : List V) (h : ∃ xs r, ys = argOf (aggB (Tryd.prog.underlying 3)) xs :: r ∧ QI xs ∧ ∃ xs r', r = argOf (aggB (Tryd.prog.underlying 22)) xs :: r' ∧ QSlice false QI xs ∧ r' = []) : Go.Ab.Spec T Tryd.prog 3 ys (.lit (.bool true)) := by
  obtain ⟨xs, r, rfl, h1, xs', r', rfl, h2, rfl⟩ := h
  rw [ag3, ag22]
  obtain ⟨n, rfl⟩ := int_of h1
  obtain ⟨l, rfl, _, hl⟩ := h2
  obtain ⟨l', rfl⟩ := ints_of hl
  exact law_share_spec n l'

theorem door_met (os : Os) (args : Array Value) : laidMetH Tryd.prog Rows.costShareRow.laid ((World.doorLaid Tryd.prog 62 os).forCall (fun _ _ => 0) ⟨#[], args, []⟩).memory :=
  laidMetH_of_parts3 (fuel := 8) (laidMet_of_run' 8 (by kernel_rfl) (by kernel_rfl)) (by kernel_rfl) (by kernel_rfl)
set_option maxRecDepth 100000 in
theorem lifted (os : Os) (started : os.Started) (H : Type) (enc : TypeId × Value → H) :
    ReturnsInHanded {} Tryd.checked os 3 .any (fun w args => (Rows.costShareSpec.pre enc Tryd.prog Tryd.f3 [] false w args ∧ laidMetH Tryd.prog Rows.costShareRow.laid w) ∧ sizedMet enc Tryd.prog Tryd.f3 (OpenSpec.ofChange Rows.costShareSpec) false w args)
      (Rows.costShareSpec.post enc Tryd.prog Tryd.f3 false true false false) := by
  refine returnsInHanded_of_change_and (C := Tryd.checked) (X := fun w _ => laidMetH Tryd.prog Rows.costShareRow.laid w) (fun _ _ _ hh h => h.of_heap hh) own started (by kernel_rfl) Tryd.func3
    (ChangeSpec.witness_shaped (enc := enc) (C := Tryd.checked) (os := os) (X := fun w _ => laidMetH Tryd.prog Rows.costShareRow.laid w) false (World.doorLaid Tryd.prog 62 os) #[.int .i64 0, .slice none 0 0] 8 rfl (World.shaped_of_RefB (by kernel_rfl) (by kernel_rfl)) (by kernel_rfl) (by kernel_rfl) (by kernel_rfl) (door_met os _)) ?_
  intro W base args ds gs before hval hW _ _ hL _
  exact law_contract (T := T) (tb := 4) laidOut rfl (fun H ds hd => by
      match ds, hd with
      | [d1, d2], _ => rfl) (by kernel_rfl) (by kernel_rfl) (fun t ht => by
      rw [Tryd.params3] at ht
      simp at ht
      rcases ht with rfl | rfl <;> exact ⟨by kernel_rfl, of_decide_eq_true (by kernel_rfl)⟩) (fun W => by rw [Tryd.params3]; exact dArgs W) sArgs W base args ds gs before hval hW (lay_of hL)
theorem over : Rows.CostShareSaid :=
  OpenClaim.holds_of_wide 3 Tryd.f3 rfl rfl rfl rfl rfl rfl rfl ⟨rfl, rfl, rfl, rfl, rfl⟩ rfl rfl rfl rfl rfl (by kernel_rfl) Tryd.func3 (by kernel_rfl)
    (of_decide_eq_true (by kernel_rfl)) (by unfold Func.isWrapper; first | (rw [if_pos (by decide +kernel)]; kernel_rfl) | (rw [if_neg (by decide +kernel)]; exact ⟨rfl, rfl⟩))
    (fun os started H enc _ => lifted os started H enc)
end Law3
theorem costShare_proved : Rows.CostShareCardSaid :=
  Claim7.holds_tied_plain_at .later [] [.data, .data, .data] true Rows.costShareCard.stood.harness true
    Law3.over (fun _ h => by cases h) (by kernel_rfl) (fun _ h => by cases h) costShare_row_tie rfl ⟨rfl, rfl⟩ (by kernel_rfl) rfl
    (fun f fn hf hfn => by
      obtain rfl : f = 3 := Option.some.inj ((show Tryd.prog.funcNamed Rows.costShareRow.func = some 3 by kernel_rfl).symm.trans hf) |>.symm
      obtain rfl : fn = Tryd.f3 := (Option.some.inj (Tryd.func3.symm.trans hfn)).symm
      exact ⟨by kernel_rfl, fun j t ht => by
        rw [Tryd.params3] at ht
        have hm : t ∈ [3, 22] := by simpa using Array.mem_of_getElem? ht
        have hall : ([3, 22].all fun u => !Tryd.prog.wantsStandIn u) = true := by kernel_rfl
        exact (show Tryd.prog.wantsStandIn t = false by simpa using List.all_eq_true.1 hall t hm)⟩)
    (by kernel_rfl)
#print axioms costShare_proved
end Go.Proofs.YtckcanemolkncaaDoor
