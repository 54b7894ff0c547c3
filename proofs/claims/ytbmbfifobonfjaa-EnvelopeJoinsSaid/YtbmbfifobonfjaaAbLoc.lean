/-
  What an operation looks at: its operands, the entries that they name, the entries that it makes.
-/
import Derived.Test.YtbmbfifobonfjaaAbDet
set_option linter.unusedVariables false
set_option linter.unusedSimpArgs false
namespace Go.Ab

def Is (v : V) (ms : List Mod) : VK := fun v' ms' => v' = v ∧ ms' = ms
def Mod.same (σ σ' : St) : Mod → Prop
  | .b i _ => σ'.bx i = σ.bx i
  | .a k _ => σ'.ar k = σ.ar k
def Mod.fresh (σ : St) : Mod → Prop
  | .b i _ => σ.bx i = none
  | .a k _ => σ.ar k = none
def Mod.key (p : Nat → Prop) (q : Nat → Nat → Prop) : Mod → Prop
  | .b i _ => p i
  | .a k _ => ∃ g, q k g

abbrev V.agr (σ σ' : St) (x : V) : Prop := x.ok (fun i => σ'.bx i = σ.bx i) (fun k _ => σ'.ar k = σ.ar k)

section
variable {T : Tab} {P : Program} {σ σ' : St} {d : Nat} {v : V} {ms : List Mod}

theorem loc_newBox {cs : List V} (hm : ∀ m ∈ ms, m.same σ σ') (h : newBox σ d cs (Is v ms)) : newBox σ' d cs (Is v ms) := by
  unfold newBox at *
  split at h
  · rename_i hb
    have h' := h
    rw [forceL_eq] at h'
    obtain ⟨_, h2⟩ := cond_F h'
    have := hm (.b d cs) (by rw [← h2.2]; simp)
    rw [show σ'.bx d = none from this.trans hb]
    exact h
  · exact h.elim

theorem loc_load {r : Row} {x : V} (hx : x.agr σ σ') (h : loadVC r σ x (Is v ms)) : loadVC r σ' x (Is v ms) := by
  unfold loadVC at *
  cases x <;> simp only at h ⊢
  case box i off => simp only [V.agr, V.ok] at hx; rw [hx]; exact h
  case fp cs => exact h
  case ae k g sz i off => simp only [V.agr, V.ok] at hx; rw [hx]; exact h

theorem loc_store {r : Row} {x y : V} (hx : x.agr σ σ') (h : storeVC r σ x y (Is v ms)) : storeVC r σ' x y (Is v ms) := by
  unfold storeVC at *
  cases x <;> simp only at h ⊢
  case box i off => simp only [V.agr, V.ok] at hx; rw [hx]; exact h
  case ae k g sz i off => simp only [V.agr, V.ok] at hx; rw [hx]; exact h

theorem loc_indexAddr {r : Row} {x i : V} (hx : x.agr σ σ') (h : indexAddrVC T r σ x i (Is v ms)) : indexAddrVC T r σ' x i (Is v ms) := by
  cases x
  case arr k g =>
    simp only [V.agr, V.ok] at hx
    unfold indexAddrVC at *
    simp only [hx] at h ⊢
    exact h
  all_goals exact h

theorem loc_conts {x : V} {K : List V → Prop} (hx : x.agr σ σ') (h : conts σ x K) : conts σ' x K := by
  unfold conts at h
  split at h
  · exact h
  · exact h
  · exact h
  · rename_i k g
    simp only [V.agr, V.ok] at hx
    unfold conts
    simp only [hx]
    exact h
  · exact h.elim

theorem loc_len {x : V} (hx : x.agr σ σ') (h : lenVC σ x (Is v ms)) : lenVC σ' x (Is v ms) := by
  unfold lenVC at h
  split at h
  · exact h
  · exact h
  · exact h
  · rename_i k g
    simp only [V.agr, V.ok] at hx
    unfold lenVC
    simp only [hx]
    exact h
  · exact h.elim

theorem loc_slice {r : Row} {x : V} {lo hi mx : Option V} (hx : x.agr σ σ') (h : sliceVC T r σ x lo hi mx (Is v ms)) : sliceVC T r σ' x lo hi mx (Is v ms) := by
  unfold sliceVC at *
  split at h
  · exact h
  · exact h.elim
  · rename_i hkd hna
    obtain ⟨h1, h2⟩ := cond_F h
    have h3 := loc_conts hx h2
    split <;> (rw [h1]; exact h3)
  · exact h.elim

theorem loc_fillK {place : Nat → Option (Nat × Nat)} {ps : List (Nat × Operand)} : ∀ {cs : List V} {K : List V → Prop}, (∀ p ∈ ps, σ'.ev p.2 = σ.ev p.2) → fillK place σ ps cs K → fillK place σ' ps cs K := by
  induction ps with
  | nil => intro cs K _ h; exact h
  | cons p r ih =>
    intro cs K he h
    have hdef : ∀ (σ : St) K, fillK place σ (p :: r) cs K = (match place p.1 with
      | some (o, z) => cond (Nat.beq (lenR (σ.ev p.2).cells) z && Nat.ble (o + z) (lenR cs) && allR V.one (σ.ev p.2).cells) (fillK place σ r (splice cs o (σ.ev p.2).cells) K) False
      | none => False) := fun σ K => rfl
    rw [hdef] at h ⊢
    rw [he p (by simp)]
    split at h
    · obtain ⟨h1, h2⟩ := cond_F h
      simp only [h1]
      exact ih (fun q hq => he q (by simp [hq])) h2
    · exact h.elim

theorem loc_fillK_p {place : Nat → Option (Nat × Nat)} {ps : List (Nat × Operand)} : ∀ {cs : List V} {K : List V → Prop}, fillK place σ ps cs K → ∃ cs', K cs' := by
  induction ps with
  | nil => intro cs K h; have h' : forceL cs K := h; rw [forceL_eq] at h'; exact ⟨_, h'⟩
  | cons p r ih =>
    intro cs K h
    have hdef : ∀ (σ : St) K, fillK place σ (p :: r) cs K = (match place p.1 with
      | some (o, z) => cond (Nat.beq (lenR (σ.ev p.2).cells) z && Nat.ble (o + z) (lenR cs) && allR V.one (σ.ev p.2).cells) (fillK place σ r (splice cs o (σ.ev p.2).cells) K) False
      | none => False) := fun σ K => rfl
    rw [hdef] at h
    split at h
    · obtain ⟨h1, h2⟩ := cond_F h
      exact ih h2
    · exact h.elim

theorem loc_build {r : Row} {ps : List (Nat × Operand)} (he : ∀ p ∈ ps, σ'.ev p.2 = σ.ev p.2) (h : buildVC T r σ ps (Is v ms)) : buildVC T r σ' ps (Is v ms) := by
  unfold buildVC at *
  split at h
  · exact loc_fillK he h
  · obtain ⟨h1, h2⟩ := cond_F h
    rw [h1]
    exact loc_fillK he h2
  · exact h.elim

theorem loc_buildSlice {r : Row} {n : Nat} {ps : List (Nat × Operand)} (he : ∀ p ∈ ps, σ'.ev p.2 = σ.ev p.2) (hm : ∀ m ∈ ms, m.same σ σ') (h : buildSliceVC T r σ d n ps (Is v ms)) : buildSliceVC T r σ' d n ps (Is v ms) := by
  unfold buildSliceVC at *
  split at h
  · rename_i hkd hd
    obtain ⟨h1, h2⟩ := cond_F h
    obtain ⟨cs', h3⟩ := loc_fillK_p h2
    obtain ⟨_, _, h4⟩ := cond_F h3
    have := hm _ (by rw [← h4]; exact List.mem_singleton.2 rfl)
    simp only [show σ'.ar d = none from this.trans hd, hkd]
    rw [h1]
    exact loc_fillK he h2
  · exact h.elim

theorem loc_makeSlice {r : Row} {n c : V} (hm : ∀ m ∈ ms, m.same σ σ') (h : makeSliceVC T r σ d n c (Is v ms)) : makeSliceVC T r σ' d n c (Is v ms) := by
  unfold makeSliceVC at *
  split at h
  · rename_i hkd hd
    have h' := (need_p h).2
    obtain ⟨_, _, h4⟩ := cond_F h'
    have := hm _ (by rw [← h4]; exact List.mem_singleton.2 rfl)
    simp only [show σ'.ar d = none from this.trans hd, hkd]
    exact h
  · exact h.elim

theorem conts_p {x : V} {K : List V → Prop} (h : conts σ x K) : ∃ l, K l := by
  unfold conts at h
  split at h
  · exact ⟨_, h⟩
  · exact ⟨_, h⟩
  · exact ⟨_, h⟩
  · split at h
    · exact ⟨_, (need_p h).2⟩
    · exact h.elim
  · exact h.elim

theorem conts_mono {x : V} {K K' : List V → Prop} (hk : ∀ l, K l → K' l) (h : conts σ x K) : conts σ x K' := by
  unfold conts at *
  split at h
  · exact hk _ h
  · exact hk _ h
  · exact hk _ h
  · split at h
    · obtain ⟨h1, h2⟩ := need_p h
      refine ⟨?_⟩
      exact ⟨h1, hk _ h2⟩
    · exact h.elim
  · exact h.elim

theorem loc_append {r : Row} {s x : V} (hs : s.agr σ σ') (hx : x.agr σ σ') (hm : ∀ m ∈ ms, m.same σ σ') (h : appendVC T r σ d s x (Is v ms)) : appendVC T r σ' d s x (Is v ms) := by
  unfold appendVC at *
  split at h
  · rename_i hkd
    obtain ⟨h1, h2⟩ := cond_F h
    rw [h1]
    refine loc_conts hx (conts_mono (fun xs h => ?_) h2)
    split at h
    · split at h
      · rename_i hd
        obtain ⟨_, _, h4⟩ := need_p h
        have := hm _ (by rw [← h4]; exact List.mem_singleton.2 rfl)
        simp only [show σ'.ar d = none from this.trans hd]
        exact h
      · exact h.elim
    · split at h
      · rename_i hd
        obtain ⟨_, _, h4⟩ := need_p h
        have := hm _ (by rw [← h4]; exact List.mem_singleton.2 rfl)
        simp only [show σ'.ar d = none from this.trans hd]
        exact h
      · exact h.elim
    · rename_i k g
      simp only [V.agr, V.ok] at hs
      simp only [hs]
      exact h
    · exact h.elim
  · exact h.elim
end
end Go.Ab
