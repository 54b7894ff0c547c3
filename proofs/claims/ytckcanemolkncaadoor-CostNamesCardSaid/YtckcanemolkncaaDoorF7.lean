/-
  The given statement CostNames, with the library's variables as the program's text lays them, proved for all arguments: the reading of its arguments, and the proof. No conditions.
-/
import Derived.Test.YtckcanemolkncaaDoorH17
import Derived.Test.YtckcanemolkncaaDoorH28
set_option linter.unusedVariables false
set_option linter.unusedSimpArgs false
namespace Go.Proofs.YtckcanemolkncaaDoor
open Go.ChangeShapes Go.WideShapes Go.ChangeAt Go.RowKit Go.Ab Go.Proofs.Cost58
namespace Law7
abbrev Q4 : List V → Prop := QBool
theorem d4 (W : World) : Dec Tryd.prog W (frozenGh W) 4 Q4 := dec_bool (by kernel_rfl) (by kernel_rfl)
abbrev Q3 : List V → Prop := QInt .i64 (-9223372036854775808) 9223372036854775807
theorem d3 (W : World) : Dec Tryd.prog W (frozenGh W) 3 Q3 := dec_int (k := .i64) (by kernel_rfl) (by kernel_rfl) (fun n h => by
  simp [Lit.wf, IntKind.min, IntKind.max, IntKind.signed, IntKind.bits] at h; omega)
abbrev Q9 : List V → Prop := QStr
theorem d9 (W : World) : Dec Tryd.prog W (frozenGh W) 9 Q9 := dec_str (by kernel_rfl) (by kernel_rfl)
abbrev Q64 : List V → Prop := QAll [Q3, Q3]
theorem d64 (W : World) : Dec Tryd.prog W (frozenGh W) 64 Q64 := dec_struct Tryd.underlying64 (parts_cons rfl (d3 W) (parts_cons (by kernel_rfl) (d3 W) (parts_nil (by kernel_rfl))))
abbrev Q34 : List V → Prop := QSlice true Q64
theorem d34 (W : World) : Dec Tryd.prog W (frozenGh W) 34 Q34 := dec_slice true (by kernel_rfl) (by kernel_rfl) (d64 W) (by decide +kernel) (fun h => by cases h) (frozenGh_fz W)
abbrev Q35 : List V → Prop := QSlice false Q34
theorem d35 (W : World) : Dec Tryd.prog W (frozenGh W) 35 Q35 := dec_slice false (by kernel_rfl) (by kernel_rfl) (d34 W) (by decide +kernel) (fun _ => by kernel_rfl) (frozenGh_fz W)
abbrev Q37 : List V → Prop := QAll [Q34, Q35]
theorem d37 (W : World) : Dec Tryd.prog W (frozenGh W) 37 Q37 := dec_struct Tryd.underlying37 (parts_cons rfl (d34 W) (parts_cons (by kernel_rfl) (d35 W) (parts_nil (by kernel_rfl))))
abbrev Q131 : List V → Prop := QSlice true Q37
theorem d131 (W : World) : Dec Tryd.prog W (frozenGh W) 131 Q131 := dec_slice true (by kernel_rfl) (by kernel_rfl) (d37 W) (by decide +kernel) (fun h => by cases h) (frozenGh_fz W)
abbrev Q133 : List V → Prop := QAll [Q3, Q9, Q9, Q3, Q37, Q131]
theorem d133 (W : World) : Dec Tryd.prog W (frozenGh W) 133 Q133 := dec_struct Tryd.underlying133 (parts_cons rfl (d3 W) (parts_cons (by kernel_rfl) (d9 W) (parts_cons (by kernel_rfl) (d9 W) (parts_cons (by kernel_rfl) (d3 W) (parts_cons (by kernel_rfl) (d37 W) (parts_cons (by kernel_rfl) (d131 W) (parts_nil (by kernel_rfl))))))))
abbrev Q73 : List V → Prop := QAll [Q3, Q3]
theorem d73 (W : World) : Dec Tryd.prog W (frozenGh W) 73 Q73 := dec_array (m := 2) (e := 3) (by kernel_rfl) (parts_cons (by kernel_rfl) (d3 W) (parts_cons (by kernel_rfl) (d3 W) (parts_nil (by kernel_rfl))))
abbrev Q134 : List V → Prop := QSlice true Q73
theorem d134 (W : World) : Dec Tryd.prog W (frozenGh W) 134 Q134 := dec_slice true (by kernel_rfl) (by kernel_rfl) (d73 W) (by decide +kernel) (fun h => by cases h) (frozenGh_fz W)
abbrev Q136 : List V → Prop := QAll [Q3, Q9, Q9, Q3, Q134]
theorem d136 (W : World) : Dec Tryd.prog W (frozenGh W) 136 Q136 := dec_struct Tryd.underlying136 (parts_cons rfl (d3 W) (parts_cons (by kernel_rfl) (d9 W) (parts_cons (by kernel_rfl) (d9 W) (parts_cons (by kernel_rfl) (d3 W) (parts_cons (by kernel_rfl) (d134 W) (parts_nil (by kernel_rfl)))))))
abbrev Q138 : List V → Prop := QAll [Q4, Q133, Q136, Q9]
theorem d138 (W : World) : Dec Tryd.prog W (frozenGh W) 138 Q138 := dec_struct Tryd.underlying138 (parts_cons rfl (d4 W) (parts_cons (by kernel_rfl) (d133 W) (parts_cons (by kernel_rfl) (d136 W) (parts_cons (by kernel_rfl) (d9 W) (parts_nil (by kernel_rfl))))))
abbrev Q71 : List V → Prop := QSlice true Q138
theorem d71 (W : World) : Dec Tryd.prog W (frozenGh W) 71 Q71 := dec_slice true (by kernel_rfl) (by kernel_rfl) (d138 W) (by decide +kernel) (fun h => by cases h) (frozenGh_fz W)
abbrev Q79 : List V → Prop := QAll [Q3, Q3, Q9, Q9, Q9, Q3, Q4, Q3, Q9]
theorem d79 (W : World) : Dec Tryd.prog W (frozenGh W) 79 Q79 := dec_struct Tryd.underlying79 (parts_cons rfl (d3 W) (parts_cons (by kernel_rfl) (d3 W) (parts_cons (by kernel_rfl) (d9 W) (parts_cons (by kernel_rfl) (d9 W) (parts_cons (by kernel_rfl) (d9 W) (parts_cons (by kernel_rfl) (d3 W) (parts_cons (by kernel_rfl) (d4 W) (parts_cons (by kernel_rfl) (d3 W) (parts_cons (by kernel_rfl) (d9 W) (parts_nil (by kernel_rfl)))))))))))
abbrev Q72 : List V → Prop := QSlice true Q79
theorem d72 (W : World) : Dec Tryd.prog W (frozenGh W) 72 Q72 := dec_slice true (by kernel_rfl) (by kernel_rfl) (d79 W) (by decide +kernel) (fun h => by cases h) (frozenGh_fz W)
abbrev Q22 : List V → Prop := QSlice false Q3
theorem d22 (W : World) : Dec Tryd.prog W (frozenGh W) 22 Q22 := dec_slice false (by kernel_rfl) (by kernel_rfl) (d3 W) (by decide +kernel) (fun _ => by kernel_rfl) (frozenGh_fz W)
abbrev Q75 : List V → Prop := QAll [Q71, Q72, Q22, Q73, Q73]
theorem d75 (W : World) : Dec Tryd.prog W (frozenGh W) 75 Q75 := dec_struct Tryd.underlying75 (parts_cons rfl (d71 W) (parts_cons (by kernel_rfl) (d72 W) (parts_cons (by kernel_rfl) (d22 W) (parts_cons (by kernel_rfl) (d73 W) (parts_cons (by kernel_rfl) (d73 W) (parts_nil (by kernel_rfl)))))))
theorem pc_of {xs : List V} (h : Q79 xs) : ∃ p : Pc, V.agg xs = pcV p := by
  obtain ⟨_, _, rfl, ⟨a, rfl, ra⟩, _, _, rfl, ⟨b, rfl, rb⟩, _, _, rfl, ⟨c, rfl, rc⟩, _, _, rfl, ⟨d, rfl, rd⟩, _, _, rfl, ⟨e, rfl, re⟩, _, _, rfl, ⟨f, rfl, rf⟩, _, _, rfl, ⟨g, rfl⟩, _, _, rfl, ⟨i, rfl, ri⟩, _, _, rfl, ⟨j, rfl, rj⟩, rfl⟩ := h
  exact ⟨⟨a, b, c, d, e, f, g, i, j⟩, rfl⟩
theorem sk_of {xs : List V} (h : Q138 xs) : ∃ p : Sk, V.agg xs = skV p := by
  obtain ⟨_, _, rfl, ⟨s0, rfl⟩, _, _, rfl, ⟨_, _, rfl, ⟨s1, rfl, rs1⟩, _, _, rfl, ⟨s2, rfl, rs2⟩, _, _, rfl, ⟨s3, rfl, rs3⟩, _, _, rfl, ⟨s4, rfl, rs4⟩, _, _, rfl, ⟨_, _, rfl, ⟨s5, rfl, rs5, hs5⟩, _, _, rfl, ⟨s6, rfl, rs6, hs6⟩, rfl⟩, _, _, rfl, ⟨s7, rfl, rs7, hs7⟩, rfl⟩, _, _, rfl, ⟨_, _, rfl, ⟨s8, rfl, rs8⟩, _, _, rfl, ⟨s9, rfl, rs9⟩, _, _, rfl, ⟨s10, rfl, rs10⟩, _, _, rfl, ⟨s11, rfl, rs11⟩, _, _, rfl, ⟨s12, rfl, rs12, hs12⟩, rfl⟩, _, _, rfl, ⟨s13, rfl, rs13⟩, rfl⟩ := h
  exact ⟨⟨s0, s1, s2, s3, s4, s5, s6, s7, s8, s9, s10, s11, s12, s13⟩, rfl⟩
theorem pcs_of : ∀ {l : List V}, (∀ x ∈ l, Q79 x.cells ∧ (true = true → ∃ ys, x = .agg ys) ∧ (true = false → ∀ ys, x ≠ .agg ys)) → ∃ l' : List Pc, l = l'.map pcV
  | [], _ => ⟨[], rfl⟩
  | x :: l, h => by
    obtain ⟨h1, h2, _⟩ := h x (by simp)
    obtain ⟨ys, rfl⟩ := h2 rfl
    obtain ⟨m, hm⟩ := pc_of h1
    obtain ⟨l', rfl⟩ := pcs_of (l := l) (fun y hy => h y (by simp [hy]))
    exact ⟨m :: l', by rw [List.map_cons, ← hm]; rfl⟩
theorem sks_of : ∀ {l : List V}, (∀ x ∈ l, Q138 x.cells ∧ (true = true → ∃ ys, x = .agg ys) ∧ (true = false → ∀ ys, x ≠ .agg ys)) → ∃ l' : List Sk, l = l'.map skV
  | [], _ => ⟨[], rfl⟩
  | x :: l, h => by
    obtain ⟨h1, h2, _⟩ := h x (by simp)
    obtain ⟨ys, rfl⟩ := h2 rfl
    obtain ⟨m, hm⟩ := sk_of h1
    obtain ⟨l', rfl⟩ := sks_of (l := l) (fun y hy => h y (by simp [hy]))
    exact ⟨m :: l', by rw [List.map_cons, ← hm]; rfl⟩
theorem ls_of {xs : List V} (h : Q75 xs) : ∃ p : Ls, V.agg xs = lsV p := by
  obtain ⟨_, _, rfl, ⟨a, rfl, ra, ha⟩, _, _, rfl, ⟨b, rfl, rb, hb⟩, _, _, rfl, ⟨c, rfl, rc, hc⟩, _, _, rfl, ⟨_, _, rfl, ⟨d, rfl, rd⟩, _, _, rfl, ⟨e, rfl, re⟩, rfl⟩, _, _, rfl, ⟨_, _, rfl, ⟨f, rfl, rf⟩, _, _, rfl, ⟨g, rfl, rg⟩, rfl⟩, rfl⟩ := h
  obtain ⟨x, rfl⟩ := sks_of ha
  obtain ⟨y, rfl⟩ := pcs_of hb
  exact ⟨⟨x, y, c, d, e, f, g⟩, rfl⟩
theorem ag9 : aggB (Tryd.prog.underlying 9) = false := by kernel_rfl
theorem ce9 : Tryd.prog.cellsOf 9 = 1 := by kernel_rfl
theorem ag75 : aggB (Tryd.prog.underlying 75) = true := by kernel_rfl
abbrev QArgs : List V → Prop := fun ys => ∃ xs0 r0, ys = argOf (aggB (Tryd.prog.underlying 75)) xs0 :: r0 ∧ Q75 xs0 ∧ ∃ xs1 r1, r0 = argOf (aggB (Tryd.prog.underlying 9)) xs1 :: r1 ∧ Q9 xs1 ∧ r1 = []
theorem dArgs (W : World) : DecArgs Tryd.prog T W (frozenGh W) QArgs [75, 9] := (decArgs_cons (d75 W) (fun h => by rw [ag75] at h; cases h) (decArgs_cons (d9 W) (fun _ => ce9) decArgs_nil))
theorem sArgs (ys : List V) (h : QArgs ys) : Go.Ab.Spec T Tryd.prog 7 ys (.lit (.bool true)) := by
  obtain ⟨xs0, r0, rfl, h0, ⟨xs1, r1, rfl, h1, rfl⟩⟩ := h
  rw [ag75, ag9]
  obtain ⟨s, hs⟩ := ls_of h0
  obtain ⟨o, rfl, _⟩ := h1
  show Go.Ab.Spec T Tryd.prog 7 [.agg xs0, S o] _
  rw [hs]
  exact law_names_spec s o

theorem door_met (os : Os) (args : Array Value) : laidMetH Tryd.prog Rows.costNamesRow.laid ((World.doorLaid Tryd.prog 62 os).forCall (fun _ _ => 0) ⟨#[], args, []⟩).memory :=
  laidMetH_of_parts3 (fuel := 8) (laidMet_of_run' 8 (by kernel_rfl) (by kernel_rfl)) (by kernel_rfl) (by kernel_rfl)
set_option maxRecDepth 100000 in
theorem lifted (os : Os) (started : os.Started) (H : Type) (enc : TypeId × Value → H) :
    ReturnsInHanded {} Tryd.checked os 7 .any (fun w args => (Rows.costNamesSpec.pre enc Tryd.prog Tryd.f7 [] false w args ∧ laidMetH Tryd.prog Rows.costNamesRow.laid w) ∧ sizedMet enc Tryd.prog Tryd.f7 (OpenSpec.ofChange Rows.costNamesSpec) false w args)
      (Rows.costNamesSpec.post enc Tryd.prog Tryd.f7 false true false false) := by
  refine returnsInHanded_of_change_and (C := Tryd.checked) (X := fun w _ => laidMetH Tryd.prog Rows.costNamesRow.laid w) (fun _ _ _ hh h => h.of_heap hh) own started (by kernel_rfl) Tryd.func7
    (ChangeSpec.witness_shaped (enc := enc) (C := Tryd.checked) (os := os) (X := fun w _ => laidMetH Tryd.prog Rows.costNamesRow.laid w) false (World.doorLaid Tryd.prog 62 os) #[.agg #[.slice none 0 0, .slice none 0 0, .slice none 0 0, .int .i64 0, .int .i64 0, .int .i64 0, .int .i64 0], .string ⟨#[]⟩] 8 rfl (World.shaped_of_RefB (by kernel_rfl) (by kernel_rfl)) (by kernel_rfl) (by kernel_rfl) (by kernel_rfl) (door_met os _)) ?_
  intro W base args ds gs before hval hW _ _ hL _
  exact law_contract (T := T) (tb := 4) laidOut rfl (fun H ds hd => by
      match ds, hd with
      | [d1, d2], _ => rfl) (by kernel_rfl) (by kernel_rfl) (fun t ht => by
      rw [Tryd.params7] at ht
      simp at ht
      rcases ht with rfl | rfl <;> exact ⟨by kernel_rfl, of_decide_eq_true (by kernel_rfl)⟩) (fun W => by rw [Tryd.params7]; exact dArgs W) sArgs W base args ds gs before hval hW (lay_of hL)
theorem over : Rows.CostNamesSaid :=
  OpenClaim.holds_of_wide 7 Tryd.f7 rfl rfl rfl rfl rfl rfl rfl ⟨rfl, rfl, rfl, rfl, rfl⟩ rfl rfl rfl rfl rfl (by kernel_rfl) Tryd.func7 (by kernel_rfl)
    (of_decide_eq_true (by kernel_rfl)) (by unfold Func.isWrapper; first | (rw [if_pos (by decide +kernel)]; kernel_rfl) | (rw [if_neg (by decide +kernel)]; exact ⟨rfl, rfl⟩))
    (fun os started H enc _ => lifted os started H enc)
end Law7
theorem costNames_proved : Rows.CostNamesCardSaid :=
  Claim7.holds_tied_plain_at .later [] [.data, .data, .data] true Rows.costNamesCard.stood.harness true
    Law7.over (fun _ h => by cases h) (by kernel_rfl) (fun _ h => by cases h) costNames_row_tie rfl ⟨rfl, rfl⟩ (by kernel_rfl) rfl
    (fun f fn hf hfn => by
      obtain rfl : f = 7 := Option.some.inj ((show Tryd.prog.funcNamed Rows.costNamesRow.func = some 7 by kernel_rfl).symm.trans hf) |>.symm
      obtain rfl : fn = Tryd.f7 := (Option.some.inj (Tryd.func7.symm.trans hfn)).symm
      exact ⟨by kernel_rfl, fun j t ht => by
        rw [Tryd.params7] at ht
        have hm : t ∈ [75, 9] := by simpa using Array.mem_of_getElem? ht
        have hall : ([75, 9].all fun u => !Tryd.prog.wantsStandIn u) = true := by kernel_rfl
        exact (show Tryd.prog.wantsStandIn t = false by simpa using List.all_eq_true.1 hall t hm)⟩)
    (by kernel_rfl)
#print axioms costNames_proved
end Go.Proofs.YtckcanemolkncaaDoor
