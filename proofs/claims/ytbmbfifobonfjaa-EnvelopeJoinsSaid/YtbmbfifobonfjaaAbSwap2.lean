/-
  Two operations of a region that do not touch each other may change places: the law.
-/
import Derived.Test.YtbmbfifobonfjaaAbSwap
set_option linter.unusedVariables false
set_option linter.unusedSimpArgs false
namespace Go.Ab
section
variable {T : Tab} {P : Program} {σ σ' : St} {n d : Nat} {v v' : V} {ms ms' : List Mod} {ops : List Oper} {o p : Oper} {K : St → Prop}

theorem clash_l {a b : Nat} (h : clash a b = false) (ha : 4 ≤ a) (hb : 1 < b) : False := by
  unfold clash at h
  simp only [Bool.or_eq_false_iff, Bool.and_eq_false_iff] at h
  rcases h.1.1.1 with h | h
  · rw [Nat.ble_eq_true_of_le ha] at h; cases h
  · rw [Nat.ble_eq_true_of_le hb] at h; cases h
theorem clash_r {a b : Nat} (h : clash a b = false) (ha : 4 ≤ b) (hb : 1 < a) : False := by
  unfold clash at h
  simp only [Bool.or_eq_false_iff, Bool.and_eq_false_iff] at h
  rcases h.1.1.2 with h | h
  · rw [Nat.ble_eq_true_of_le ha] at h; cases h
  · rw [Nat.ble_eq_true_of_le hb] at h; cases h

theorem swap (wf : ∀ x : Operand, (σ.ev x).ok σ.hasB σ.hasA) (hpo : Oper.apart ops.toArray p o = true) (hcl : clash (cls p.op) (cls o.op) = false)
    (h1 : Eff T P n ops p σ v ms) (h2 : Eff T P n ops o (σ.put p.dst v ms) v' ms') :
    Eff T P n ops o σ v' ms' ∧ Eff T P n ops p (σ.put o.dst v' ms') v ms ∧ (σ.put p.dst v ms).put o.dst v' ms' = (σ.put o.dst v' ms').put p.dst v ms := by
  obtain ⟨hp1, hp2, hp3⟩ := Oper.apart_spec hpo
  have hm1 := eff_mods h1
  have hm2 := eff_mods h2
  generalize hσ1 : σ.put p.dst v ms = σ1 at *
  have ev1 : ∀ x ∈ o.op.operands, σ1.ev x = σ.ev x := by
    intro x hx
    cases x with
    | tmp t =>
      show σ1.env t = σ.env t
      rw [← hσ1]
      refine put_env_ne _ _ _ _ (fun e => hp1 t e ?_)
      unfold Oper.looksAt
      rw [List.mem_append]
      left
      rw [List.mem_filterMap]
      exact ⟨.tmp t, Array.mem_toList_iff.2 hx, rfl⟩
    | const v => rfl
    | global g => rfl
    | func f => rfl
  have hpm : ∀ m ∈ ms, m.fresh σ ∨ (4 ≤ cls p.op ∧ m.key σ.hasB σ.hasA) := fun m hm => by
    rcases hm1 m hm with h | ⟨h, h'⟩
    · exact .inl h
    · exact .inr ⟨h, h' _ _ fun x _ => wf x⟩
  have hom : ∀ m ∈ ms', m.fresh σ1 ∨ (4 ≤ cls o.op ∧ m.key σ.hasB σ.hasA) := fun m hm => by
    rcases hm2 m hm with h | ⟨h, h'⟩
    · exact .inl h
    · exact .inr ⟨h, h' _ _ fun x hx => by rw [ev1 x hx]; exact wf x⟩
  have b1 : σ1.bx = (σ.apps ms).bx := by rw [← hσ1, put_bx]
  have a1 : σ1.ar = (σ.apps ms).ar := by rw [← hσ1, put_ar]
  have hasB1 : ∀ i, σ.hasB i → σ1.bx i ≠ none := fun i ⟨cs, hi⟩ => by rw [b1]; exact apps_bx_some _ _ _ (.inr (by rw [hi]; simp))
  have hasA1 : ∀ k g, σ.hasA k g → σ1.ar k ≠ none := fun i g ⟨cs, hi, _⟩ => by rw [a1]; exact apps_ar_some _ _ _ (.inr (by rw [hi]; simp))
  have disB : ∀ i, (∃ m ∈ ms, m.isB i) → ∀ m ∈ ms', ¬ m.isB i := by
    rintro i ⟨m, hm, hb⟩ m' hm' hb'
    cases m with
    | a => exact hb
    | b j cs =>
    cases m' with
    | a => exact hb'
    | b j' cs' =>
    cases hb; cases hb'
    rcases hom _ hm' with h | ⟨h, hk⟩
    · exact absurd h (by show σ1.bx i ≠ none; rw [b1]; exact apps_bx_some _ _ _ (.inl ⟨_, hm, rfl⟩))
    · rcases hpm _ hm with h' | ⟨h', _⟩
      · obtain ⟨x, hx⟩ := hk
        have h'' : σ.bx i = none := h'
        rw [h''] at hx; cases hx
      · exact clash_l hcl h' (by omega)
  have disA : ∀ i, (∃ m ∈ ms, m.isA i) → ∀ m ∈ ms', ¬ m.isA i := by
    rintro i ⟨m, hm, hb⟩ m' hm' hb'
    cases m with
    | b => exact hb
    | a j cs =>
    cases m' with
    | b => exact hb'
    | a j' cs' =>
    cases hb; cases hb'
    rcases hom _ hm' with h | ⟨h, hk⟩
    · exact absurd h (by show σ1.ar i ≠ none; rw [a1]; exact apps_ar_some _ _ _ (.inl ⟨_, hm, rfl⟩))
    · rcases hpm _ hm with h' | ⟨h', _⟩
      · obtain ⟨g, x, hx, _⟩ := hk
        have h'' : σ.ar i = none := h'
        rw [h''] at hx; cases hx
      · exact clash_l hcl h' (by omega)
  refine ⟨?_, ?_, ?_⟩
  · refine eff_loc (σ := σ1) ?_ ?_ ?_ h2
    · intro t ht
      rw [← hσ1]
      exact (put_env_ne _ _ _ _ (fun e => hp1 t e ht)).symm
    · intro hc x hx
      rw [ev1 x hx]
      refine V.ok.imp ?_ ?_ _ (wf x)
      · intro i hi
        rw [b1]
        refine (apps_bx_ne _ _ _ ?_).symm
        intro m hm hb
        cases m with
        | a => exact hb
        | b j cs =>
        cases hb
        rcases hpm _ hm with h' | ⟨h', _⟩
        · obtain ⟨y, hy⟩ := hi
          have h'' : σ.bx i = none := h'
          rw [h''] at hy; cases hy
        · exact clash_l hcl h' hc
      · intro i g hi
        rw [a1]
        refine (apps_ar_ne _ _ _ ?_).symm
        intro m hm hb
        cases m with
        | b => exact hb
        | a j cs =>
        cases hb
        rcases hpm _ hm with h' | ⟨h', _⟩
        · obtain ⟨y, hy, _⟩ := hi
          have h'' : σ.ar i = none := h'
          rw [h''] at hy; cases hy
        · exact clash_l hcl h' hc
    · intro m hm
      cases m with
      | b i cs =>
        show σ.bx i = σ1.bx i
        rw [b1]
        exact (apps_bx_ne _ _ _ (fun m' hm' hb => disB i ⟨m', hm', hb⟩ _ hm rfl)).symm
      | a i cs =>
        show σ.ar i = σ1.ar i
        rw [a1]
        exact (apps_ar_ne _ _ _ (fun m' hm' hb => disA i ⟨m', hm', hb⟩ _ hm rfl)).symm
  · refine eff_loc (σ := σ) ?_ ?_ ?_ h1
    · intro t ht
      exact put_env_ne _ _ _ _ (fun e => hp3 t e ht)
    · intro hc x hx
      refine V.ok.imp ?_ ?_ _ (wf x)
      · intro i hi
        rw [put_bx]
        refine apps_bx_ne _ _ _ ?_
        intro m hm hb
        cases m with
        | a => exact hb
        | b j cs =>
        cases hb
        rcases hom _ hm with h' | ⟨h', _⟩
        · exact hasB1 i hi h'
        · exact clash_r hcl h' hc
      · intro i g hi
        rw [put_ar]
        refine apps_ar_ne _ _ _ ?_
        intro m hm hb
        cases m with
        | b => exact hb
        | a j cs =>
        cases hb
        rcases hom _ hm with h' | ⟨h', _⟩
        · exact hasA1 i g hi h'
        · exact clash_r hcl h' hc
    · intro m hm
      cases m with
      | b i cs =>
        show (σ.put o.dst v' ms').bx i = σ.bx i
        rw [put_bx]
        exact apps_bx_ne _ _ _ (disB i ⟨_, hm, rfl⟩)
      | a i cs =>
        show (σ.put o.dst v' ms').ar i = σ.ar i
        rw [put_ar]
        exact apps_ar_ne _ _ _ (disA i ⟨_, hm, rfl⟩)
  · rw [← hσ1]
    exact put_comm (fun t e => hp2 t e) disB disA
end
end Go.Ab
