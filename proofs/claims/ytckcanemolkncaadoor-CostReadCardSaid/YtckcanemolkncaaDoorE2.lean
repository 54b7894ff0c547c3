/-
  From a tied row's entry to the contract of its function, where the library's errors and a length are looked at: what the row lists, and what the world's shape says.
-/
import Derived.Test.YtckcanemolkncaaDoorE1
import Derived.Test.YtckcanemolkncaaDoorA0
import Derived.Shelf.Vars
set_option linter.unusedVariables false
set_option linter.unusedSimpArgs false
namespace Go.Proofs.YtckcanemolkncaaDoor
open Go.ChangeShapes Go.WideShapes Go.ChangeAt Go.RowKit Go.Ab Go.Proofs.Cost58
variable {H : Type} {enc : TypeId × Value → H}

/-- an interface's variable that reads as an error holds an error -/
theorem iface_of {P : Program} {w : World} {base : Nat} {sp : Nat → Bool} {fuel : Nat} {t : TypeId} {tt : _} {cs : List Value} {s : String} {d : DataW H} {p : List MemPlace} (ht : P.underlying t = some (.interface tt))
    (h : DataW.trod enc P w base sp false fuel t cs = some (.iface s d, p)) : ∃ te pe, cs = [.iface te pe] := by
  cases fuel with
  | zero => simp [DataW.trod] at h
  | succ fuel =>
    unfold DataW.trod at h
    rw [ht] at h
    match cs, h with
    | [.iface te pe], _ => exact ⟨te, pe, rfl⟩
    | [.nilIface], h => cases h
theorem lt_of_heap {W : World} {g : Nat} {o : Obj} (h : W.heap[g]? = some o) : g < W.heap.size := by
  rcases Nat.lt_or_ge g W.heap.size with h' | h'
  · exact h'
  · rw [Array.getElem?_eq_none h'] at h; cases h
/-- the length's variable, out of the world's shape -/
theorem max_of {W : World} (h : W.ShapedOpen Tryd.prog) : ∃ m t z, W.heap[0]? = some (.cells #[.int .i64 m] t z) := by
  obtain ⟨m, hm⟩ := cell_of_shapedOpen_int (g := 0) (t := 3) (zero := #[.int .i64 0]) (k := .i64) h (of_decide_eq_true (by kernel_rfl)) (by kernel_rfl) rfl (by kernel_rfl) (by kernel_rfl) Tryd.underlying3
  obtain ⟨cs, hh, hs, _⟩ := h.1 0 #[.int .i64 0] 3 (of_decide_eq_true (by kernel_rfl)) (by kernel_rfl)
  refine ⟨m, 3, (0, 0), ?_⟩
  rw [hh]
  unfold World.cell? at hm
  rw [hh] at hm
  have e : cs = #[.int .i64 m] := by
    match cs, hs, hm with
    | ⟨[c]⟩, _, hm =>
      have : c = .int .i64 m := by simpa using hm
      rw [this]
  rw [e]
theorem lay2_of {W : World} (h : laidMetH Tryd.prog Rows.costReadRow.laid W) (hs : W.ShapedOpen Tryd.prog) : T2.lay W (fun b => b < W.heap.size) := by
  rw [MakeChecks.laidMetH_plain _ _ _ (by kernel_rfl)] at h
  obtain ⟨ps, ⟨g0, t0, cs0, f0, p0, q0, hg0, ht0, hv0, hd0, ⟨g1, t1, cs1, f1, p1, q1, hg1, ht1, hv1, hd1, ⟨g2, t2, cs2, f2, p2, q2, hg2, ht2, hv2, hd2, ⟨g3, t3, cs3, f3, p3, q3, hg3, ht3, hv3, hd3, ⟨g4, t4, cs4, f4, p4, q4, hg4, ht4, hv4, hd4, _⟩, _⟩, _⟩, _⟩, _⟩, _, _⟩ := h
  obtain ⟨t, z, hh⟩ := var_heap hg2 hv2
  have e2 : g2 = 3 := Option.some.inj (hg2.symm.trans (by kernel_rfl))
  subst e2
  have et : t2 = 220 := Option.some.inj (ht2.symm.trans (by kernel_rfl))
  subst et
  have hc := Lib.cells_of_tab (k := .u64) (zs := Lib.pow10Tab) Tryd.underlying220 Tryd.underlying157 (by kernel_rfl) (by kernel_rfl) (hd2.trans (congrArg some (congrArg (·, p2) (by kernel_rfl))))
  obtain ⟨tr, zr, hr⟩ := var_heap hg3 hv3
  have e3 : g3 = 2 := Option.some.inj (hg3.symm.trans (by kernel_rfl))
  subst e3
  obtain ⟨ty, zy, hy⟩ := var_heap hg4 hv4
  have e4 : g4 = 1 := Option.some.inj (hg4.symm.trans (by kernel_rfl))
  subst e4
  have et3 : t3 = 146 := Option.some.inj (ht3.symm.trans (by kernel_rfl))
  subst et3
  have et4 : t4 = 146 := Option.some.inj (ht4.symm.trans (by kernel_rfl))
  subst et4
  obtain ⟨ter, per, hcr⟩ := iface_of Tryd.underlying146 hd3
  obtain ⟨tes, pes, hcs⟩ := iface_of Tryd.underlying146 hd4
  obtain ⟨m, t', z', hm⟩ := max_of hs
  refine ⟨⟨lt_of_heap hh, t, z, ?_⟩, ⟨lt_of_heap hm, m, t', z', hm⟩, ⟨lt_of_heap hy, tes, pes, ty, zy, ?_⟩, ⟨lt_of_heap hr, ter, per, tr, zr, ?_⟩⟩
  · rw [hh, ← hc]
  · rw [hy, show cs4 = #[.iface tes pes] from Array.toList_inj.1 (by rw [hcs])]
  · rw [hr, show cs3 = #[.iface ter per] from Array.toList_inj.1 (by rw [hcr])]

/-- the wrap that also hands on the world's shape -/
theorem returnsIn_shaped {a : Assume} {C : Checked} {os : Os} {f : FuncId} {fn : Func} {s : ChangeSpec} {conds : List PathCond} {apart fresh handsOn again : Bool} {X : World → Array Value → Prop}
    (hX : ∀ (w w' : World) (args : Array Value), w.heap = w'.heap → X w args → X w' args)
    (own : ownKnob C.prog.godebug = none) (started : os.Started) (noInit : C.prog.inits.idxOf? f = none) (hfn : C.prog.funcs[f]? = some fn)
    (witness : ∃ (w : World) (tape : Tape) (i : Input), w.os = os ∧ (w.forCall tape i).Shaped C.prog ∧ i.vars = [] ∧ Input.okWide C.prog (w.forCall tape i) .any w.heap.size f i ∧
      ((s.pre enc C.prog fn conds apart (w.forCall tape i).memory i.args ∧ X (w.forCall tape i).memory i.args) ∧ sizedMet enc C.prog fn (OpenSpec.ofChange s) apart (w.forCall tape i).memory i.args) ∧ a.holds C.prog (lone (Frame.enter C.prog f i.args .normal) [] (w.forCall tape i)))
    (contract : ∀ (W : World) (base : Nat) (args : Array Value) (ds gs : List (DataW H)) (before : List MemPlace),
      (∀ (j : Nat) t v, fn.params[j]? = some t → args[j]? = some v → Value.okWide C.prog W .any base t v) →
      DataW.Whole enc C.prog fn.params.toList s.vars apart W args.toList ds gs before → X W args → W.ShapedOpen C.prog →
      Calls C.prog f args W fun e W' => ∃ v, e = .returned v ∧ s.post enc C.prog fn apart fresh handsOn again W args v W') :
    ReturnsInHanded a C os f .any (fun w args => (s.pre enc C.prog fn conds apart w args ∧ X w args) ∧ sizedMet enc C.prog fn (OpenSpec.ofChange s) apart w args) (s.post enc C.prog fn apart fresh handsOn again) := by
  refine returnsInHanded_of_calls own started noInit witness ?_
  intro w tape i _ hsh _ hok hpre _
  obtain ⟨_, _, _, fn', hfn', _, _, _, _, hval⟩ := hok
  have e : fn' = fn := Option.some.inj (hfn'.symm.trans hfn)
  subst e
  obtain ⟨⟨⟨ds, gs, before, hw, hc⟩, hx⟩, hz⟩ := hpre
  have hw' := DataW.Whole.of_heap (w' := w.forCall tape i) (by rfl) hw
  refine (contract (w.forCall tape i) w.heap.size i.args ds gs before hval hw' (hX _ _ _ (by rfl) hx) hsh).mono fun e W' ⟨v, he, hp⟩ => ?_
  subst he
  exact ChangeSpec.post_blind hp
end Go.Proofs.YtckcanemolkncaaDoor
