/-
  From a tied row's entry to the contract of its function: the variables that the row lists, the arguments as they are read.
-/
import Derived.Test.YtckcanemolkncaaDoorS1
import Derived.Test.YtckcanemolkncaaDoorG8
import Derived.Test.YtckcanemolkncaaDoorCards
import Derived.Test.YtckcanemolkncaaDoorTie
import Derived.WalkKit
import Derived.ProofKit
import Derived.LaidMore
import Derived.OpenShut
import Derived.Stop.Joined
import Derived.SevenTiedAt
import Derived.Lib.LaidTab
import Derived.MakeChecks
set_option linter.unusedVariables false
set_option linter.unusedSimpArgs false
namespace Go.Proofs.YtckcanemolkncaaDoor
open Go.ChangeShapes Go.WideShapes Go.ChangeAt Go.RowKit Go.Ab Go.Proofs.Cost58

theorem own : ownKnob Tryd.prog.godebug = none := by kernel_rfl
theorem laidOut : laidOutB Tryd.prog = true := by kernel_rfl

theorem var_heap {w : World} {name : String} {g : Nat} {cs : Array Value} (hg : Tryd.prog.globalNamed name = some g) (h : w.var? Tryd.prog name = some cs) : ∃ t z, w.heap[g]? = some (.cells cs t z) := by
  unfold World.var? at h
  rw [hg] at h
  simp only [Option.bind_some] at h
  split at h
  · rename_i c t z hb
    cases h
    exact ⟨t, z, hb⟩
  · cases h
/-- the table of powers, out of the row's list -/
theorem lay_of {W : World} (h : laidMetH Tryd.prog Rows.costShareRow.laid W) : T.lay W (fun b => b < W.heap.size) := by
  rw [MakeChecks.laidMetH_plain _ _ _ (by kernel_rfl)] at h
  obtain ⟨ps, ⟨g0, t0, cs0, f0, p0, q0, hg0, ht0, hv0, hd0, ⟨g1, t1, cs1, f1, p1, q1, hg1, ht1, hv1, hd1, ⟨g2, t2, cs2, f2, p2, q2, hg2, ht2, hv2, hd2, _⟩, _⟩, _⟩, _, _⟩ := h
  obtain ⟨t, z, hh⟩ := var_heap hg2 hv2
  have e2 : g2 = 3 := Option.some.inj (hg2.symm.trans (by kernel_rfl))
  subst e2
  have et : t2 = 220 := Option.some.inj (ht2.symm.trans (by kernel_rfl))
  subst et
  have hc := Lib.cells_of_tab (k := .u64) (zs := Lib.pow10Tab) Tryd.underlying220 Tryd.underlying157 (by kernel_rfl) (by kernel_rfl) (hd2.trans (congrArg some (congrArg (·, p2) (by kernel_rfl))))
  have hlt : 3 < W.heap.size := by
    rcases Nat.lt_or_ge 3 W.heap.size with h | h
    · exact h
    · rw [Array.getElem?_eq_none h] at hh; cases hh
  refine ⟨hlt, t, z, ?_⟩
  rw [hh, ← hc]
end Go.Proofs.YtckcanemolkncaaDoor
