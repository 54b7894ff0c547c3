/-
  The given statement CostWork, with the library's variables as the program's text lays them, proved for all arguments: the reading of its arguments, and the proof. No conditions.
-/
import Derived.Test.YtckcanemolkncaaDoorE1
import Derived.Test.YtckcanemolkncaaDoorK6
set_option linter.unusedVariables false
set_option linter.unusedSimpArgs false
namespace Go.Proofs.YtckcanemolkncaaDoor
open Go.ChangeShapes Go.WideShapes Go.ChangeAt Go.RowKit Go.Ab Go.Proofs.Cost58
namespace Law4
abbrev QI : List V → Prop := QInt .i64 (-9223372036854775808) 9223372036854775807
theorem dI (W : World) : Dec Tryd.prog W (frozenGh W) 3 QI := dec_int (k := .i64) (by kernel_rfl) (by kernel_rfl) (fun n h => by
  simp [Lit.wf, IntKind.min, IntKind.max, IntKind.signed, IntKind.bits] at h; omega)
abbrev QVc : List V → Prop := QAll [QI, QI]
abbrev QPl : List V → Prop := QAll [QI, QI, QVc]
abbrev QSh : List V → Prop := QAll [QSlice true QVc, QSlice false (QSlice true QVc)]
abbrev QPt : List V → Prop := QAll [QStr, QStr, QI, QSlice false QI, QSh]
theorem dS (W : World) : Dec Tryd.prog W (frozenGh W) 9 QStr := dec_str (by kernel_rfl) (by kernel_rfl)
theorem dInts (W : World) : Dec Tryd.prog W (frozenGh W) 22 (QSlice false QI) := dec_slice false (by kernel_rfl) (by kernel_rfl) (dI W) (by decide +kernel) (fun _ => by kernel_rfl) (frozenGh_fz W)
theorem dVc (W : World) : Dec Tryd.prog W (frozenGh W) 64 QVc := dec_struct Tryd.underlying64 (parts_cons rfl (dI W) (parts_cons (by kernel_rfl) (dI W) (parts_nil (by kernel_rfl))))
theorem dPl (W : World) : Dec Tryd.prog W (frozenGh W) 102 QPl := dec_struct Tryd.underlying102 (parts_cons rfl (dI W) (parts_cons (by kernel_rfl) (dI W) (parts_cons (by kernel_rfl) (dVc W) (parts_nil (by kernel_rfl)))))
theorem dPls (W : World) : Dec Tryd.prog W (frozenGh W) 30 (QSlice true QPl) := dec_slice true (by kernel_rfl) (by kernel_rfl) (dPl W) (by decide +kernel) (fun h => by cases h) (frozenGh_fz W)
theorem dLay (W : World) : Dec Tryd.prog W (frozenGh W) 32 (QAll [QSlice true QPl]) := dec_struct Tryd.underlying32 (parts_cons rfl (dPls W) (parts_nil (by kernel_rfl)))
theorem dRing (W : World) : Dec Tryd.prog W (frozenGh W) 34 (QSlice true QVc) := dec_slice true (by kernel_rfl) (by kernel_rfl) (dVc W) (by decide +kernel) (fun h => by cases h) (frozenGh_fz W)
theorem dRings (W : World) : Dec Tryd.prog W (frozenGh W) 35 (QSlice false (QSlice true QVc)) := dec_slice false (by kernel_rfl) (by kernel_rfl) (dRing W) (by decide +kernel) (fun _ => by kernel_rfl) (frozenGh_fz W)
theorem dSh (W : World) : Dec Tryd.prog W (frozenGh W) 37 QSh := dec_struct Tryd.underlying37 (parts_cons rfl (dRing W) (parts_cons (by kernel_rfl) (dRings W) (parts_nil (by kernel_rfl))))
theorem dPt (W : World) : Dec Tryd.prog W (frozenGh W) 39 QPt := dec_struct Tryd.underlying39 (parts_cons rfl (dS W) (parts_cons (by kernel_rfl) (dS W) (parts_cons (by kernel_rfl) (dI W) (parts_cons (by kernel_rfl) (dInts W) (parts_cons (by kernel_rfl) (dSh W) (parts_nil (by kernel_rfl)))))))
theorem dPts (W : World) : Dec Tryd.prog W (frozenGh W) 29 (QSlice true QPt) := dec_slice true (by kernel_rfl) (by kernel_rfl) (dPt W) (by decide +kernel) (fun h => by cases h) (frozenGh_fz W)
theorem ag9 : aggB (Tryd.prog.underlying 9) = false := by kernel_rfl
theorem ag29 : aggB (Tryd.prog.underlying 29) = false := by kernel_rfl
theorem ag32 : aggB (Tryd.prog.underlying 32) = true := by kernel_rfl
theorem ce9 : Tryd.prog.cellsOf 9 = 1 := by kernel_rfl
theorem ce29 : Tryd.prog.cellsOf 29 = 1 := by kernel_rfl
theorem pl_of {xs : List V} (h : QPl xs) : ∃ m : Pz.Pl, V.agg xs = Pz.plV m ∧ plQ m := by
  obtain ⟨_, _, rfl, ⟨a, rfl, _⟩, _, _, rfl, ⟨b, rfl, b1, b2⟩, _, _, rfl, ⟨_, _, rfl, ⟨x, rfl, _⟩, _, _, rfl, ⟨y, rfl, _⟩, rfl⟩, rfl⟩ := h
  exact ⟨(a, b, x, y), rfl, b1, b2⟩
theorem pls_of : ∀ {l : List V}, (∀ x ∈ l, QPl x.cells ∧ (true = true → ∃ ys, x = .agg ys) ∧ (true = false → ∀ ys, x ≠ .agg ys)) → ∃ l' : List Pz.Pl, l = l'.map Pz.plV ∧ ∀ m ∈ l', plQ m
  | [], _ => ⟨[], rfl, by simp⟩
  | x :: l, h => by
    obtain ⟨h1, h2, _⟩ := h x (by simp)
    obtain ⟨ys, rfl⟩ := h2 rfl
    obtain ⟨m, hm, hq⟩ := pl_of h1
    obtain ⟨l', rfl, hl⟩ := pls_of (l := l) (fun y hy => h y (by simp [hy]))
    refine ⟨m :: l', by rw [List.map_cons, ← hm]; rfl, fun z hz => ?_⟩
    rcases List.mem_cons.1 hz with rfl | hz
    · exact hq
    · exact hl z hz
theorem pt_of {xs : List V} (h : QPt xs) : ∃ p : Pt, V.agg xs = ptV p := by
  obtain ⟨_, _, rfl, ⟨a, rfl, _⟩, _, _, rfl, ⟨b, rfl, _⟩, _, _, rfl, ⟨c, rfl, _⟩, _, _, rfl, ⟨d, rfl, _⟩, _, _, rfl, ⟨_, _, rfl, ⟨e, rfl, _⟩, _, _, rfl, ⟨f, rfl, _⟩, rfl⟩, rfl⟩ := h
  exact ⟨⟨a, b, c, d, e, f⟩, rfl⟩
theorem pts_of : ∀ {l : List V}, (∀ x ∈ l, QPt x.cells ∧ (true = true → ∃ ys, x = .agg ys) ∧ (true = false → ∀ ys, x ≠ .agg ys)) → ∃ l' : List Pt, l = l'.map ptV
  | [], _ => ⟨[], rfl⟩
  | x :: l, h => by
    obtain ⟨h1, h2, _⟩ := h x (by simp)
    obtain ⟨ys, rfl⟩ := h2 rfl
    obtain ⟨m, hm⟩ := pt_of h1
    obtain ⟨l', rfl⟩ := pts_of (l := l) (fun y hy => h y (by simp [hy]))
    exact ⟨m :: l', by rw [List.map_cons, ← hm]; rfl⟩
theorem dArgs (W : World) : DecArgs Tryd.prog T W (frozenGh W) (fun ys => ∃ xs r, ys = argOf (aggB (Tryd.prog.underlying 9)) xs :: r ∧ QStr xs ∧ ∃ xs r', r = argOf (aggB (Tryd.prog.underlying 29)) xs :: r' ∧ QSlice true QPt xs ∧ ∃ xs r2, r' = argOf (aggB (Tryd.prog.underlying 32)) xs :: r2 ∧ QAll [QSlice true QPl] xs ∧ r2 = []) [9, 29, 32] := decArgs_cons (dS W) (fun _ => ce9) (decArgs_cons (dPts W) (fun _ => ce29) (decArgs_cons (dLay W) (fun h => by rw [ag32] at h; cases h) decArgs_nil))
theorem sArgs (ys : List V) (h : ∃ xs r, ys = argOf (aggB (Tryd.prog.underlying 9)) xs :: r ∧ QStr xs ∧ ∃ xs r', r = argOf (aggB (Tryd.prog.underlying 29)) xs :: r' ∧ QSlice true QPt xs ∧ ∃ xs r2, r' = argOf (aggB (Tryd.prog.underlying 32)) xs :: r2 ∧ QAll [QSlice true QPl] xs ∧ r2 = []) : Go.Ab.Spec T Tryd.prog 4 ys (.lit (.bool true)) := by
  obtain ⟨xs, r, rfl, h1, xs', r', rfl, h2, xs2, r2, rfl, h3, rfl⟩ := h
  rw [ag9, ag29, ag32]
  obtain ⟨s, rfl, _⟩ := h1
  obtain ⟨l, rfl, _, hl⟩ := h2
  obtain ⟨l', rfl⟩ := pts_of hl
  obtain ⟨_, _, rfl, ⟨k, rfl, _, hk⟩, rfl⟩ := h3
  obtain ⟨k', rfl, hq⟩ := pls_of hk
  exact law_work_spec s l' k' hq

theorem door_met (os : Os) (args : Array Value) : laidMetH Tryd.prog Rows.costWorkRow.laid ((World.doorLaid Tryd.prog 62 os).forCall (fun _ _ => 0) ⟨#[], args, []⟩).memory :=
  laidMetH_of_parts3 (fuel := 8) (laidMet_of_run' 8 (by kernel_rfl) (by kernel_rfl)) (by kernel_rfl) (by kernel_rfl)
set_option maxRecDepth 100000 in
theorem lifted (os : Os) (started : os.Started) (H : Type) (enc : TypeId × Value → H) :
    ReturnsInHanded {} Tryd.checked os 4 .any (fun w args => (Rows.costWorkSpec.pre enc Tryd.prog Tryd.f4 [] false w args ∧ laidMetH Tryd.prog Rows.costWorkRow.laid w) ∧ sizedMet enc Tryd.prog Tryd.f4 (OpenSpec.ofChange Rows.costWorkSpec) false w args)
      (Rows.costWorkSpec.post enc Tryd.prog Tryd.f4 false true false false) := by
  refine returnsInHanded_of_change_and (C := Tryd.checked) (X := fun w _ => laidMetH Tryd.prog Rows.costWorkRow.laid w) (fun _ _ _ hh h => h.of_heap hh) own started (by kernel_rfl) Tryd.func4
    (ChangeSpec.witness_shaped (enc := enc) (C := Tryd.checked) (os := os) (X := fun w _ => laidMetH Tryd.prog Rows.costWorkRow.laid w) false (World.doorLaid Tryd.prog 62 os) #[.string ⟨#[]⟩, .slice none 0 0, .agg #[.slice none 0 0]] 8 rfl (World.shaped_of_RefB (by kernel_rfl) (by kernel_rfl)) (by kernel_rfl) (by kernel_rfl) (by kernel_rfl) (door_met os _)) ?_
  intro W base args ds gs before hval hW _ _ hL _
  exact law_contract (T := T) (tb := 4) laidOut rfl (fun H ds hd => by
      match ds, hd with
      | [d1, d2, d3], _ => rfl) (by kernel_rfl) (by kernel_rfl) (fun t ht => by
      rw [Tryd.params4] at ht
      simp at ht
      rcases ht with rfl | rfl | rfl <;> exact ⟨by kernel_rfl, of_decide_eq_true (by kernel_rfl)⟩) (fun W => by rw [Tryd.params4]; exact dArgs W) sArgs W base args ds gs before hval hW (lay_of hL)
theorem over : Rows.CostWorkSaid :=
  OpenClaim.holds_of_wide 4 Tryd.f4 rfl rfl rfl rfl rfl rfl rfl ⟨rfl, rfl, rfl, rfl, rfl⟩ rfl rfl rfl rfl rfl (by kernel_rfl) Tryd.func4 (by kernel_rfl)
    (of_decide_eq_true (by kernel_rfl)) (by unfold Func.isWrapper; first | (rw [if_pos (by decide +kernel)]; kernel_rfl) | (rw [if_neg (by decide +kernel)]; exact ⟨rfl, rfl⟩))
    (fun os started H enc _ => lifted os started H enc)
end Law4
theorem costWork_proved : Rows.CostWorkCardSaid :=
  Claim7.holds_tied_plain_at .later [] [.data, .data, .data] true Rows.costWorkCard.stood.harness true
    Law4.over (fun _ h => by cases h) (by kernel_rfl) (fun _ h => by cases h) costWork_row_tie rfl ⟨rfl, rfl⟩ (by kernel_rfl) rfl
    (fun f fn hf hfn => by
      obtain rfl : f = 4 := Option.some.inj ((show Tryd.prog.funcNamed Rows.costWorkRow.func = some 4 by kernel_rfl).symm.trans hf) |>.symm
      obtain rfl : fn = Tryd.f4 := (Option.some.inj (Tryd.func4.symm.trans hfn)).symm
      exact ⟨by kernel_rfl, fun j t ht => by
        rw [Tryd.params4] at ht
        have hm : t ∈ [9, 29, 32] := by simpa using Array.mem_of_getElem? ht
        have hall : ([9, 29, 32].all fun u => !Tryd.prog.wantsStandIn u) = true := by kernel_rfl
        exact (show Tryd.prog.wantsStandIn t = false by simpa using List.all_eq_true.1 hall t hm)⟩)
    (by kernel_rfl)
#print axioms costWork_proved
end Go.Proofs.YtckcanemolkncaaDoor
