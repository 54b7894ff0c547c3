/-
  The given statement CostJoin, with the library's variables as the program's text lays them, proved for all arguments: the reading of its arguments, and the proof. No conditions.
-/
import Derived.Test.YtckcanemolkncaaDoorE1
import Derived.Test.YtckcanemolkncaaDoorJ2
set_option linter.unusedVariables false
set_option linter.unusedSimpArgs false
namespace Go.Proofs.YtckcanemolkncaaDoor
open Go.ChangeShapes Go.WideShapes Go.ChangeAt Go.RowKit Go.Ab Go.Proofs.Cost58
namespace Law6
abbrev QI : List V → Prop := QInt .i64 (-9223372036854775808) 9223372036854775807
theorem dI (W : World) : Dec Tryd.prog W (frozenGh W) 3 QI := dec_int (k := .i64) (by kernel_rfl) (by kernel_rfl) (fun n h => by
  simp [Lit.wf, IntKind.min, IntKind.max, IntKind.signed, IntKind.bits] at h; omega)
abbrev QVc : List V → Prop := QAll [QI, QI]
abbrev QMv : List V → Prop := QAll [QI, QVc]
abbrev QRt : List V → Prop := QAll [QI, QI, QI, QI, QI, QI, QI]
theorem dVc (W : World) : Dec Tryd.prog W (frozenGh W) 64 QVc := dec_struct Tryd.underlying64 (parts_cons rfl (dI W) (parts_cons (by kernel_rfl) (dI W) (parts_nil (by kernel_rfl))))
theorem dMv (W : World) : Dec Tryd.prog W (frozenGh W) 66 QMv := dec_struct Tryd.underlying66 (parts_cons rfl (dI W) (parts_cons (by kernel_rfl) (dVc W) (parts_nil (by kernel_rfl))))
theorem dMvs (W : World) : Dec Tryd.prog W (frozenGh W) 51 (QSlice true QMv) := dec_slice true (by kernel_rfl) (by kernel_rfl) (dMv W) (by decide +kernel) (fun h => by cases h) (frozenGh_fz W)
theorem dRt (W : World) : Dec Tryd.prog W (frozenGh W) 50 QRt := dec_struct Tryd.underlying50 (parts_cons rfl (dI W) (parts_cons (by kernel_rfl) (dI W) (parts_cons (by kernel_rfl) (dI W) (parts_cons (by kernel_rfl) (dI W) (parts_cons (by kernel_rfl) (dI W) (parts_cons (by kernel_rfl) (dI W) (parts_cons (by kernel_rfl) (dI W) (parts_nil (by kernel_rfl)))))))))
theorem ag50 : aggB (Tryd.prog.underlying 50) = true := by kernel_rfl
theorem ag51 : aggB (Tryd.prog.underlying 51) = false := by kernel_rfl
theorem ce51 : Tryd.prog.cellsOf 51 = 1 := by kernel_rfl
theorem rt_of {xs : List V} (h : QRt xs) : ∃ r : Rt, V.agg xs = rtV r := by
  obtain ⟨_, _, rfl, ⟨a, rfl, _⟩, _, _, rfl, ⟨b, rfl, _⟩, _, _, rfl, ⟨c, rfl, _⟩, _, _, rfl, ⟨d, rfl, _⟩, _, _, rfl, ⟨e, rfl, _⟩, _, _, rfl, ⟨f, rfl, _⟩, _, _, rfl, ⟨g, rfl, _⟩, rfl⟩ := h
  exact ⟨⟨a, b, c, d, e, f, g⟩, rfl⟩
theorem mv_of {xs : List V} (h : QMv xs) : ∃ m : Mv, V.agg xs = mvV m := by
  obtain ⟨_, _, rfl, ⟨k, rfl, _⟩, _, _, rfl, ⟨_, _, rfl, ⟨x, rfl, _⟩, _, _, rfl, ⟨y, rfl, _⟩, rfl⟩, rfl⟩ := h
  exact ⟨(k, (x, y)), rfl⟩
theorem mvs_of : ∀ {l : List V}, (∀ x ∈ l, QMv x.cells ∧ (true = true → ∃ ys, x = .agg ys) ∧ (true = false → ∀ ys, x ≠ .agg ys)) → ∃ l' : List Mv, l = l'.map mvV
  | [], _ => ⟨[], rfl⟩
  | x :: l, h => by
    obtain ⟨h1, h2, _⟩ := h x (by simp)
    obtain ⟨ys, rfl⟩ := h2 rfl
    obtain ⟨m, hm⟩ := mv_of h1
    obtain ⟨l', rfl⟩ := mvs_of (l := l) (fun y hy => h y (by simp [hy]))
    exact ⟨m :: l', by rw [List.map_cons, ← hm]; rfl⟩
theorem dArgs (W : World) : DecArgs Tryd.prog T W (frozenGh W) (fun ys => ∃ xs r, ys = argOf (aggB (Tryd.prog.underlying 50)) xs :: r ∧ QRt xs ∧ ∃ xs r', r = argOf (aggB (Tryd.prog.underlying 51)) xs :: r' ∧ QSlice true QMv xs ∧ ∃ xs r2, r' = argOf (aggB (Tryd.prog.underlying 51)) xs :: r2 ∧ QSlice true QMv xs ∧ r2 = []) [50, 51, 51] := decArgs_cons (dRt W) (fun h => by rw [ag50] at h; cases h) (decArgs_cons (dMvs W) (fun _ => ce51) (decArgs_cons (dMvs W) (fun _ => ce51) decArgs_nil))
theorem sArgs (ys : List V) (h : ∃ xs r, ys = argOf (aggB (Tryd.prog.underlying 50)) xs :: r ∧ QRt xs ∧ ∃ xs r', r = argOf (aggB (Tryd.prog.underlying 51)) xs :: r' ∧ QSlice true QMv xs ∧ ∃ xs r2, r' = argOf (aggB (Tryd.prog.underlying 51)) xs :: r2 ∧ QSlice true QMv xs ∧ r2 = []) : Go.Ab.Spec T Tryd.prog 6 ys (.lit (.bool true)) := by
  obtain ⟨xs, r, rfl, h1, xs', r', rfl, h2, xs2, r2, rfl, h3, rfl⟩ := h
  rw [ag50, ag51]
  obtain ⟨r, hr⟩ := rt_of h1
  obtain ⟨l, rfl, _, hl⟩ := h2
  obtain ⟨l', rfl⟩ := mvs_of hl
  obtain ⟨k, rfl, _, hk⟩ := h3
  obtain ⟨k', rfl⟩ := mvs_of hk
  show Go.Ab.Spec T Tryd.prog 6 [.agg xs, .sl _, .sl _] _
  rw [hr]
  exact law_join_spec r l' k'

theorem door_met (os : Os) (args : Array Value) : laidMetH Tryd.prog Rows.costJoinRow.laid ((World.doorLaid Tryd.prog 62 os).forCall (fun _ _ => 0) ⟨#[], args, []⟩).memory :=
  laidMetH_of_parts3 (fuel := 8) (laidMet_of_run' 8 (by kernel_rfl) (by kernel_rfl)) (by kernel_rfl) (by kernel_rfl)
set_option maxRecDepth 100000 in
theorem lifted (os : Os) (started : os.Started) (H : Type) (enc : TypeId × Value → H) :
    ReturnsInHanded {} Tryd.checked os 6 .any (fun w args => (Rows.costJoinSpec.pre enc Tryd.prog Tryd.f6 [] false w args ∧ laidMetH Tryd.prog Rows.costJoinRow.laid w) ∧ sizedMet enc Tryd.prog Tryd.f6 (OpenSpec.ofChange Rows.costJoinSpec) false w args)
      (Rows.costJoinSpec.post enc Tryd.prog Tryd.f6 false true false false) := by
  refine returnsInHanded_of_change_and (C := Tryd.checked) (X := fun w _ => laidMetH Tryd.prog Rows.costJoinRow.laid w) (fun _ _ _ hh h => h.of_heap hh) own started (by kernel_rfl) Tryd.func6
    (ChangeSpec.witness_shaped (enc := enc) (C := Tryd.checked) (os := os) (X := fun w _ => laidMetH Tryd.prog Rows.costJoinRow.laid w) false (World.doorLaid Tryd.prog 62 os) #[.agg #[.int .i64 0, .int .i64 0, .int .i64 0, .int .i64 0, .int .i64 0, .int .i64 0, .int .i64 0], .slice none 0 0, .slice none 0 0] 8 rfl (World.shaped_of_RefB (by kernel_rfl) (by kernel_rfl)) (by kernel_rfl) (by kernel_rfl) (by kernel_rfl) (door_met os _)) ?_
  intro W base args ds gs before hval hW _ _ hL _
  exact law_contract (T := T) (tb := 4) laidOut rfl (fun H ds hd => by
      match ds, hd with
      | [d1, d2, d3], _ => rfl) (by kernel_rfl) (by kernel_rfl) (fun t ht => by
      rw [Tryd.params6] at ht
      simp at ht
      rcases ht with rfl | rfl <;> exact ⟨by kernel_rfl, of_decide_eq_true (by kernel_rfl)⟩) (fun W => by rw [Tryd.params6]; exact dArgs W) sArgs W base args ds gs before hval hW (lay_of hL)
theorem over : Rows.CostJoinSaid :=
  OpenClaim.holds_of_wide 6 Tryd.f6 rfl rfl rfl rfl rfl rfl rfl ⟨rfl, rfl, rfl, rfl, rfl⟩ rfl rfl rfl rfl rfl (by kernel_rfl) Tryd.func6 (by kernel_rfl)
    (of_decide_eq_true (by kernel_rfl)) (by unfold Func.isWrapper; first | (rw [if_pos (by decide +kernel)]; kernel_rfl) | (rw [if_neg (by decide +kernel)]; exact ⟨rfl, rfl⟩))
    (fun os started H enc _ => lifted os started H enc)
end Law6
theorem costJoin_proved : Rows.CostJoinCardSaid :=
  Claim7.holds_tied_plain_at .later [] [.data, .data, .data] true Rows.costJoinCard.stood.harness true
    Law6.over (fun _ h => by cases h) (by kernel_rfl) (fun _ h => by cases h) costJoin_row_tie rfl ⟨rfl, rfl⟩ (by kernel_rfl) rfl
    (fun f fn hf hfn => by
      obtain rfl : f = 6 := Option.some.inj ((show Tryd.prog.funcNamed Rows.costJoinRow.func = some 6 by kernel_rfl).symm.trans hf) |>.symm
      obtain rfl : fn = Tryd.f6 := (Option.some.inj (Tryd.func6.symm.trans hfn)).symm
      exact ⟨by kernel_rfl, fun j t ht => by
        rw [Tryd.params6] at ht
        have hm : t ∈ [50, 51] := by simpa using Array.mem_of_getElem? ht
        have hall : ([50, 51].all fun u => !Tryd.prog.wantsStandIn u) = true := by kernel_rfl
        exact (show Tryd.prog.wantsStandIn t = false by simpa using List.all_eq_true.1 hall t hm)⟩)
    (by kernel_rfl)
#print axioms costJoin_proved
end Go.Proofs.YtckcanemolkncaaDoor
