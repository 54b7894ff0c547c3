/-
  What an operation looks at: all operations.
-/
import Derived.Test.YtbmbfifobonfjaaAbLoc
set_option linter.unusedVariables false
set_option linter.unusedSimpArgs false
namespace Go.Ab
section
variable {T : Tab} {P : Program} {σ σ' : St} {d : Nat} {v : V} {ms : List Mod}

theorem mapR_congr {α β : Type} {f g : α → β} {l : List α} (h : ∀ x ∈ l, f x = g x) : mapR f l = mapR g l := by
  rw [mapR_eq, mapR_eq]; exact List.map_congr_left h

theorem loc_op {op : Op} (he : ∀ x ∈ op.operands, σ'.ev x = σ.ev x) (ha : 1 < cls op → ∀ x ∈ op.operands, (σ.ev x).agr σ σ') (hm : ∀ m ∈ ms, m.same σ σ') (h : opVC T σ d op (Is v ms)) : opVC T σ' d op (Is v ms) := by
  unfold opVC at h
  split at h <;> unfold opVC <;> simp only
  · rw [he _ (by simp [Op.operands])]; exact h
  · rw [he _ (by simp [Op.operands])]; exact h
  · rename_i c a b
    rw [he c (by simp [Op.operands]), he a (by simp [Op.operands]), he b (by simp [Op.operands])]; exact h
  · rw [he _ (by simp [Op.operands])]; exact h
  · rename_i x y _
    rw [he x (by simp [Op.operands]), he y (by simp [Op.operands])]; exact h
  · rw [he _ (by simp [Op.operands])]; exact loc_newBox hm h
  · obtain ⟨h1, h2⟩ := cond_F h
    rw [h1]; exact loc_newBox hm h2
  · rw [he _ (by simp [Op.operands])]; exact h
  · rw [he _ (by simp [Op.operands])]; exact h
  · rename_i x
    obtain ⟨h1, h2⟩ := cond_F h
    rw [h1, he x (by simp [Op.operands])]
    exact loc_load (ha (by simp only [cls]; decide) x (by simp [Op.operands])) h2
  · rename_i x y
    obtain ⟨h1, h2⟩ := cond_F h
    rw [h1, he x (by simp [Op.operands]), he y (by simp [Op.operands])]
    exact loc_store (ha (by simp only [cls]; decide) x (by simp [Op.operands])) h2
  · rename_i x y
    obtain ⟨h1, h2⟩ := cond_F h
    rw [h1, he x (by simp [Op.operands]), he y (by simp [Op.operands])]
    exact loc_indexAddr (ha (by simp only [cls]; decide) x (by simp [Op.operands])) h2
  · rename_i x y
    rw [he x (by simp [Op.operands]), he y (by simp [Op.operands])]; exact h
  · rw [he _ (by simp [Op.operands])]; exact h
  · rename_i ps
    obtain ⟨h1, h2⟩ := cond_F h
    rw [h1]
    refine loc_build (fun p hp => he p.2 ?_) h2
    have hp := (Array.mem_toList_iff.1 hp)
    simp [Op.operands]
    exact ⟨p.1, hp⟩
  · rename_i ps
    obtain ⟨h1, h2⟩ := cond_F h
    rw [h1]
    refine loc_buildSlice (fun p hp => he p.2 ?_) hm h2
    have hp := (Array.mem_toList_iff.1 hp)
    simp [Op.operands]
    exact ⟨p.1, hp⟩
  · rename_i x y
    obtain ⟨h1, h2⟩ := cond_F h
    rw [h1, he x (by simp [Op.operands]), he y (by simp [Op.operands])]
    exact loc_makeSlice hm h2
  · rename_i x lo hi mx
    obtain ⟨h1, h2⟩ := cond_F h
    have hl : lo.map σ'.ev = lo.map σ.ev := by
      cases lo with
      | none => rfl
      | some y => simp [he y (by simp [Op.operands])]
    have hh : hi.map σ'.ev = hi.map σ.ev := by
      cases hi with
      | none => rfl
      | some y => simp [he y (by simp [Op.operands])]
    have hx : mx.map σ'.ev = mx.map σ.ev := by
      cases mx with
      | none => rfl
      | some y => simp [he y (by simp [Op.operands])]
    rw [h1, he x (by simp [Op.operands]), hl, hh, hx]
    exact loc_slice (ha (by simp only [cls]; decide) x (by simp [Op.operands])) h2
  · rw [he _ (by simp [Op.operands])]; exact h
  · rename_i x t
    obtain ⟨h1, h2⟩ := cond_F h
    rw [h1, he x (by simp [Op.operands, Call.operands])]
    split at h2
    · exact loc_len (ha (by simp only [cls]; decide) x (by simp [Op.operands, Call.operands])) h2
    · exact h2
    · exact h2.elim
  · rename_i s x t t'
    obtain ⟨h1, h2⟩ := cond_F h
    rw [h1, he x (by simp [Op.operands, Call.operands]), he s (by simp [Op.operands, Call.operands])]
    exact loc_append (ha (by simp only [cls]; decide) s (by simp [Op.operands, Call.operands])) (ha (by simp only [cls]; decide) x (by simp [Op.operands, Call.operands])) hm h2
  · rw [mapR_congr (g := σ.ev) fun x hx => he x (by simp [Op.operands, Call.operands, hx])]; exact h
  · rw [mapR_congr (g := σ.ev) fun x hx => he x (by simp [Op.operands, Call.operands, hx])]; exact h
  · exact h.elim


/-- all ends meet R -/
def Mo (R : List Mod → Prop) (Φ : VK → Prop) : Prop := ∀ K, Φ K → ∃ v ms, K v ms ∧ R ms

variable {R : List Mod → Prop}
theorem Mo.ret (v : V) {ms : List Mod} (h : R ms) : Mo R (fun K => K v ms) := fun _ hk => ⟨v, ms, hk, h⟩
theorem Mo.false : Mo R (fun _ => False) := fun _ h => h.elim
theorem Mo.need {p : Prop} {Φ : VK → Prop} (h : p → Mo R Φ) : Mo R (fun K => need p (Φ K)) := fun K hk => h (need_p hk).1 K (need_p hk).2
theorem Mo.arith {k : IntKind} {n : Int} {Φ : Int → VK → Prop} (h : ∀ m, Mo R (Φ m)) : Mo R (fun K => arith k n fun m => Φ m K) := fun K hk => h _ K (arith_p hk)
theorem Mo.idx {l : List V} {i : Nat} {Φ : V → VK → Prop} (h : ∀ x, Mo R (Φ x)) : Mo R (fun K => idx l i fun x => Φ x K) := fun K hk => by
  obtain ⟨x, hx, hk⟩ := idx_p hk
  exact h x K hk
theorem Mo.force {x : V} {Φ : V → VK → Prop} (h : ∀ x, Mo R (Φ x)) : Mo R (fun K => force x fun y => Φ y K) := fun K hk => by
  have hk' : Ab.force x (fun y => Φ y K) := hk
  rw [force_eq] at hk'
  exact h x K hk'
theorem Mo.forceL {l : List V} {Φ : List V → VK → Prop} (h : ∀ l, Mo R (Φ l)) : Mo R (fun K => forceL l fun y => Φ y K) := fun K hk => by
  have hk' : Ab.forceL l (fun y => Φ y K) := hk
  rw [forceL_eq] at hk'
  exact h l K hk'
theorem Mo.cond {b : Bool} {Φ Ψ : VK → Prop} (h : Mo R Φ) (h' : Mo R Ψ) : Mo R (fun K => cond b (Φ K) (Ψ K)) := by
  cases b
  · exact h'
  · exact h
theorem Mo.branch {b : Bool} {Φ Ψ : VK → Prop} (h : Mo R Φ) (h' : Mo R Ψ) : Mo R (fun K => branch b (Φ K) (Ψ K)) := by
  cases b
  · exact h'
  · exact h
theorem Mo.conts {x : V} {Φ : List V → VK → Prop} (h : ∀ l, Mo R (Φ l)) : Mo R (fun K => conts σ x fun l => Φ l K) := fun K hk => by
  obtain ⟨l, hl⟩ := conts_p (K := fun l => Φ l K) hk
  exact h l K hl
theorem Mo.bound {o : Option V} {dflt : Int} {Φ : Int → VK → Prop} (h : ∀ n, Mo R (Φ n)) : Mo R (fun K => bound o dflt fun n => Φ n K) := fun K hk => by
  unfold Ab.bound at hk
  split at hk
  · exact h _ K hk
  · exact h _ K hk
  · exact hk.elim
theorem mo_pickK (hn : R []) (r : Row) (cs : List V) : Mo R (pickK r cs) := by
  unfold pickK
  cases r.agg with
  | true => exact Mo.forceL fun l => Mo.cond (Mo.ret _ hn) Mo.false
  | false =>
    cases cs with
    | nil => exact Mo.false
    | cons x r => exact Mo.force fun v => Mo.ret _ hn
theorem Mo.fillK {place : Nat → Option (Nat × Nat)} {ps : List (Nat × Operand)} {cs : List V} {Φ : List V → VK → Prop} (h : ∀ l, Mo R (Φ l)) : Mo R (fun K => fillK place σ ps cs fun l => Φ l K) := fun K hk => by
  obtain ⟨l, hl⟩ := loc_fillK_p (K := fun l => Φ l K) hk
  exact h l K hl
theorem mo_newBox (hf : ∀ cs, σ.bx d = none → R [.b d cs]) (cs : List V) : Mo R (newBox σ d cs) := by
  unfold newBox
  split
  · rename_i hb
    exact Mo.forceL fun l => Mo.cond (Mo.ret _ (hf l hb)) Mo.false
  · exact Mo.false

/-- where an operation changes something: what is new, or what a store or an append names -/
def Fr1 (σ : St) (op : Op) (m : Mod) : Prop := m.fresh σ ∨ (4 ≤ cls op ∧ ∀ p q, (∀ x ∈ op.operands, (σ.ev x).ok p q) → m.key p q)

theorem mods_op (T : Tab) (σ : St) (d : Nat) (o : Op) : Mo (fun ms => ∀ m ∈ ms, Fr1 σ o m) (opVC T σ d o) := by
  have hn : ∀ m ∈ ([] : List Mod), Fr1 σ o m := fun m hm => by cases hm
  have h1 : ∀ m0 : Mod, Fr1 σ o m0 → ∀ m ∈ [m0], Fr1 σ o m := fun m0 hm m h => by cases List.mem_singleton.1 h; exact hm
  unfold opVC
  split
  · exact Mo.force fun v => Mo.ret _ hn
  · exact Mo.force fun v => Mo.ret _ hn
  · unfold pickVC
    split
    · exact Mo.branch (Mo.force fun v => Mo.ret _ hn) (Mo.force fun v => Mo.ret _ hn)
    · exact Mo.false
  · unfold unVC
    split
    · exact Mo.ret _ hn
    · exact Mo.arith fun m => Mo.ret _ hn
    · exact Mo.false
  · unfold binVC
    split
    · refine Mo.cond ?_ Mo.false
      unfold intVC
      split <;> first | exact Mo.arith fun m => Mo.ret _ hn | exact Mo.need (fun hp => Mo.arith fun m => Mo.ret _ hn) | exact Mo.need (fun hp => Mo.ret _ hn) | exact Mo.ret _ hn | exact Mo.false
    · unfold strVC
      split <;> first | exact Mo.need (fun hp => Mo.ret _ hn) | exact Mo.ret _ hn | exact Mo.false
    · refine Mo.cond ?_ Mo.false
      unfold boolVC
      split <;> first | exact Mo.ret _ hn | exact Mo.false
    · refine Mo.cond ?_ Mo.false
      unfold aggVC
      split
      · refine Mo.need fun _ => ?_
        split <;> first | exact Mo.ret _ hn | exact Mo.false
      · refine Mo.need fun _ => ?_
        split <;> first | exact Mo.ret _ hn | exact Mo.false
      · exact Mo.false
    · exact Mo.false
  · exact mo_newBox (σ := σ) (d := d) (fun cs hb => h1 (.b d cs) (.inl hb)) _
  · exact Mo.cond (mo_newBox (σ := σ) (d := d) (fun cs hb => h1 (.b d cs) (.inl hb)) _) Mo.false
  · refine Mo.cond ?_ Mo.false
    unfold fieldAddrVC
    split
    · refine Mo.cond Mo.false ?_
      split
      · exact Mo.ret _ hn
      · exact Mo.forceL fun l => Mo.ret _ hn
      · exact Mo.ret _ hn
      · exact Mo.false
    · exact Mo.false
  · refine Mo.cond ?_ Mo.false
    unfold fieldVC
    split
    · exact Mo.cond (mo_pickK hn _ _) Mo.false
    · exact Mo.false
  · refine Mo.cond ?_ Mo.false
    unfold loadVC
    split
    · split
      · exact mo_pickK hn _ _
      · exact Mo.false
    · exact mo_pickK hn _ _
    · split
      · exact Mo.need (fun hp => Mo.idx fun x => Mo.cond (mo_pickK hn _ _) Mo.false)
      · exact Mo.false
    · exact Mo.false
  · refine Mo.cond ?_ Mo.false
    unfold storeVC
    rename_i x0 y0
    split
    · rename_i i off hx
      split
      · refine Mo.cond (Mo.forceL fun l => Mo.ret _ (h1 (.b i l) (.inr ⟨by simp only [cls]; decide, fun p q hok => ?_⟩))) Mo.false
        have := hok x0 (by simp [Op.operands])
        rw [hx] at this
        simp only [V.ok] at this
        exact this
      · exact Mo.false
    · rename_i k g sz i off hx
      split
      · refine Mo.need (fun hp => Mo.idx fun x => Mo.cond (Mo.forceL fun l => Mo.ret _ (h1 (.a k _) (.inr ⟨by simp only [cls]; decide, fun p q hok => ?_⟩))) Mo.false)
        have := hok x0 (by simp [Op.operands])
        rw [hx] at this
        simp only [V.ok] at this
        exact ⟨g, this⟩
      · exact Mo.false
    · exact Mo.false
  · refine Mo.cond ?_ Mo.false
    unfold indexAddrVC
    split
    · split
      · exact Mo.need (fun hp => Mo.idx fun x => Mo.forceL fun l => Mo.cond (Mo.ret _ hn) Mo.false)
      · exact Mo.need (fun hp => Mo.idx fun x => Mo.forceL fun l => Mo.cond (Mo.ret _ hn) Mo.false)
      · split
        · exact Mo.need (fun hp => Mo.cond (Mo.ret _ hn) Mo.false)
        · exact Mo.false
      · exact Mo.false
    · split
      · exact Mo.cond (Mo.ret _ hn) Mo.false
      · exact Mo.cond (Mo.forceL fun l => Mo.ret _ hn) Mo.false
      · exact Mo.false
    · exact Mo.false
  · refine Mo.cond ?_ Mo.false
    unfold indexVC
    split
    · exact Mo.need (fun hp => Mo.ret _ hn)
    · exact Mo.cond (mo_pickK hn _ _) Mo.false
    · exact Mo.false
  · unfold extractVC
    split
    · split
      · exact Mo.force fun v => Mo.ret _ hn
      · exact Mo.false
    · exact Mo.false
  · refine Mo.cond ?_ Mo.false
    unfold buildVC
    split
    · exact Mo.fillK (Φ := fun cs K => K (.agg cs) []) fun l => Mo.ret _ hn
    · exact Mo.cond (Mo.fillK (Φ := fun cs K => K (.agg cs) []) fun l => Mo.ret _ hn) Mo.false
    · exact Mo.false
  · refine Mo.cond ?_ Mo.false
    unfold buildSliceVC
    split
    · rename_i hd
      refine Mo.cond ?_ Mo.false
      exact Mo.fillK (Φ := fun cs K => cond (allR V.atom cs) (K _ _) False) fun l => Mo.cond (Mo.ret _ (h1 (.a d _) (.inl hd))) Mo.false
    · exact Mo.false
  · refine Mo.cond ?_ Mo.false
    unfold makeSliceVC
    split
    · rename_i hd _ _
      exact Mo.need (fun hp => Mo.cond (Mo.ret _ (h1 (.a d _) (.inl hd))) Mo.false)
    · exact Mo.false
  · refine Mo.cond ?_ Mo.false
    unfold sliceVC
    split
    · split
      · exact Mo.bound (Φ := fun l K => bound _ _ fun h => need _ (K _ _)) fun l => Mo.bound (Φ := fun h K => need _ (K _ _)) fun h => Mo.need (fun hp => Mo.ret _ hn)
      · exact Mo.false
    · exact Mo.false
    · refine Mo.cond ?_ Mo.false
      refine Mo.conts fun xs => Mo.bound fun l => Mo.bound fun h => ?_
      split
      · exact Mo.need (fun hp => Mo.ret _ hn)
      · split
        · exact Mo.false
        · exact Mo.bound fun m => Mo.need (fun hp => Mo.ret _ hn)
    · exact Mo.false
  · unfold convVC
    split
    · exact Mo.arith fun m => Mo.ret _ hn
    · exact Mo.ret _ hn
    · exact Mo.false
  · refine Mo.cond ?_ Mo.false
    split
    · unfold lenVC
      split <;> first | exact Mo.ret _ hn | exact Mo.false | (split <;> first | exact Mo.need (fun hp => Mo.ret _ hn) | exact Mo.false)
    · unfold slenVC
      split <;> first | exact Mo.ret _ hn | exact Mo.false
    · exact Mo.false
  · refine Mo.cond ?_ Mo.false
    unfold appendVC
    rename_i s0 x0 t0 t1
    split
    · refine Mo.cond ?_ Mo.false
      refine Mo.conts fun xs => ?_
      split
      · split
        · rename_i hd
          exact Mo.need fun hp => Mo.ret _ (h1 (.a d _) (.inl hd))
        · exact Mo.false
      · split
        · rename_i hd
          exact Mo.need fun hp => Mo.ret _ (h1 (.a d _) (.inl hd))
        · exact Mo.false
      · rename_i k g hx
        split
        · refine Mo.need fun hp => Mo.ret _ (h1 (.a k _) (.inr ⟨by simp only [cls]; decide, fun p q hok => ?_⟩))
          have := hok s0 (by simp [Op.operands, Call.operands])
          rw [hx] at this
          simp only [V.ok] at this
          exact ⟨g, this⟩
        · exact Mo.false
      · exact Mo.false
    · exact Mo.false
  · unfold maxminVC
    split <;> first | exact Mo.ret _ hn | exact Mo.false
  · unfold maxminVC
    split <;> first | exact Mo.ret _ hn | exact Mo.false
  · exact Mo.false


theorem loc_recvL {rs : List V} : ∀ {j : Nat} {K : List V → List Mod → Prop}, recvL σ d rs j none K → ∃ vs ms, K vs ms ∧ (∀ m ∈ ms, m.fresh σ) ∧ ∀ σ' : St, (∀ m ∈ ms, m.same σ σ') → ∀ K' : List V → List Mod → Prop, K' vs ms → recvL σ' d rs j none K' := by
  induction rs with
  | nil => intro j K h; exact ⟨[], [], h, by simp, fun σ' _ K' h => h⟩
  | cons y r ih =>
    intro j K h
    rw [recvL_cons] at h
    split at h
    · simp only at h
      split at h
      · rename_i hd
        obtain ⟨vs, ms, h1, h2, h3⟩ := ih h
        refine ⟨_, _, h1, ?_, fun σ' hs K' hk => ?_⟩
        · intro m hm
          rcases List.mem_cons.1 hm with rfl | hm
          · exact hd
          · exact h2 m hm
        · rw [recvL_cons]
          simp only
          have h0 : σ'.ar (d + 1000 * j) = σ.ar (d + 1000 * j) := hs _ (List.mem_cons_self ..)
          rw [h0, hd]
          exact h3 σ' (fun m hm => hs m (List.mem_cons_of_mem _ hm)) _ hk
      · exact h.elim
    · simp only at h
      split at h
      · rename_i hd
        obtain ⟨vs, ms, h1, h2, h3⟩ := ih h
        refine ⟨_, _, h1, ?_, fun σ' hs K' hk => ?_⟩
        · intro m hm
          rcases List.mem_cons.1 hm with rfl | hm
          · exact hd
          · exact h2 m hm
        · rw [recvL_cons]
          simp only
          have h0 : σ'.ar (d + 1000 * j) = σ.ar (d + 1000 * j) := hs _ (List.mem_cons_self ..)
          rw [h0, hd]
          exact h3 σ' (fun m hm => hs m (List.mem_cons_of_mem _ hm)) _ hk
      · exact h.elim
    · rename_i hn1 hn2
      rw [force_eq] at h
      obtain ⟨vs, ms, h1, h2, h3⟩ := ih h
      refine ⟨_, _, h1, h2, fun σ' hs K' hk => ?_⟩
      rw [recvL_cons]
      split
      · exact (hn1 _ _ rfl).elim
      · exact (hn2 _ _ rfl).elim
      · rw [force_eq]; exact h3 σ' hs _ hk

theorem loc_recvK {r : V} {K : VK} (h : recvK σ d none r K) : ∃ v ms, K v ms ∧ (∀ m ∈ ms, m.fresh σ) ∧ ∀ σ' : St, (∀ m ∈ ms, m.same σ σ') → ∀ K' : VK, K' v ms → recvK σ' d none r K' := by
  unfold recvK at h
  split at h
  · obtain ⟨vs, ms, h1, h2, h3⟩ := loc_recvL h
    refine ⟨_, ms, h1, h2, fun σ' hs K' hk => ?_⟩
    unfold recvK
    exact h3 σ' hs _ hk
  · rename_i hnt
    obtain ⟨vs, ms, h1, h2, h3⟩ := loc_recvL h
    cases vs with
    | nil => exact h1.elim
    | cons v vr =>
      refine ⟨v, ms, h1, h2, fun σ' hs K' hk => ?_⟩
      unfold recvK
      split
      · exact (hnt _ rfl).elim
      · exact h3 σ' hs _ hk

theorem loc_view {x y : V} (hx : x.agr σ σ') (h : viewVC σ.ar x y) : viewVC σ'.ar x y := by
  unfold viewVC at *
  cases y <;> simp only at h ⊢
  case sl l =>
    split at h
    all_goals first | exact h | exact h.elim | skip
    simp only [V.agr, V.ok] at hx
    simp only [hx]; exact h
  all_goals exact h

theorem loc_viewL {ys : List V} : ∀ {xs : List V}, V.okL (fun i => σ'.bx i = σ.bx i) (fun k _ => σ'.ar k = σ.ar k) xs → viewL σ.ar ys xs → viewL σ'.ar ys xs := by
  induction ys with
  | nil => intro xs _ h; exact h
  | cons y r ih =>
    intro xs hx h
    cases xs with
    | nil => exact h
    | cons x xr =>
      simp only [V.okL] at hx
      exact ⟨loc_view hx.1 h.1, ih hx.2 h.2⟩

theorem loc_give {x y : V} (hx : x.agr σ σ') (h : giveVC T σ.ar x y) : giveVC T σ'.ar x y := by
  unfold giveVC at *
  cases y <;> simp only at h ⊢
  case own e l =>
    split at h
    all_goals first | exact h | exact h.elim | skip
    simp only [V.agr, V.ok] at hx
    simp only [hx]; exact h
  case ap e l =>
    split at h
    all_goals first | exact h | exact h.elim | skip
    simp only [V.agr, V.ok] at hx
    simp only [hx]; exact h
  case agg ys =>
    cases x <;> simp only at h ⊢
    case agg xs =>
      simp only [V.agr, V.ok] at hx
      exact loc_viewL hx h
  all_goals exact loc_view hx h

theorem loc_giveL {ys : List V} : ∀ {xs : List V}, (∀ x ∈ xs, x.agr σ σ') → giveL T σ.ar ys xs → giveL T σ'.ar ys xs := by
  induction ys with
  | nil => intro xs _ h; exact h
  | cons y r ih =>
    intro xs hx h
    cases xs with
    | nil => exact h
    | cons x xr => exact ⟨loc_give (hx x (by simp)) h.1, ih (fun z hz => hx z (by simp [hz])) h.2⟩

theorem light_call {f : FuncId} {xs : List V} {K : VK} (h : callVC T P true σ d f xs K) : ∃ v ms, K v ms ∧ (∀ m ∈ ms, m.fresh σ) ∧ ∀ σ' : St, (∀ x ∈ xs, x.agr σ σ') → (∀ m ∈ ms, m.same σ σ') → ∀ K' : VK, K' v ms → callVC T P true σ' d f xs K' := by
  replace h := h.out
  obtain ⟨ys, r, lend, h1, h2, h3, h4⟩ := h
  have hc := h2
  simp only [callOk, Bool.and_eq_true, cond_true, Bool.or_eq_true] at hc
  have ho : ownKeys ys xs = [] := by
    have := hc.2.1
    rw [Nat.beq_eq, lenR_eq] at this
    exact List.length_eq_zero_iff.1 this
  have hf : ∀ σ : St, cond lend [] (frzMods σ (viewKeys ys xs)) = [] := fun σ => by
    rcases hc.2.2 with h | h
    · rw [h]; rfl
    · rw [Nat.beq_eq, lenR_eq] at h
      rw [List.length_eq_zero_iff.1 h]
      cases lend <;> rfl
  have hk : ∀ (σ : St) (ms : List Mod), appR (cond lend [] (frzMods σ (viewKeys ys xs))) (appR (deadMods σ (ownKeys ys xs)) ms) = ms := fun σ ms => by
    rw [hf, ho]; rfl
  have hre : ∀ σ : St, reuse σ (ownKeys ys xs) = none := fun σ => by rw [ho]; rfl
  simp only [hk, hre] at h4
  obtain ⟨v, ms, q1, q2, q3⟩ := loc_recvK h4
  refine ⟨v, ms, q1, q2, fun σ' hx hm K' hk' => ?_⟩
  refine ⟨?_⟩
  refine ⟨ys, r, lend, loc_giveL hx h1, h2, h3, ?_⟩
  simp only [hk, hre]
  exact q3 σ' hm _ hk'

theorem loc_oper {op : Op} (he : ∀ x ∈ op.operands, σ'.ev x = σ.ev x) (ha : 1 < cls op → ∀ x ∈ op.operands, (σ.ev x).agr σ σ') (hm : ∀ m ∈ ms, m.same σ σ') (h : operVC T P true σ d op (Is v ms)) : operVC T P true σ' d op (Is v ms) := by
  unfold operVC at h
  split at h <;> unfold operVC
  · rename_i f as ts
    have hmap : mapR σ'.ev as = mapR σ.ev as := mapR_congr fun x hx => he x (by simp [Op.operands, Call.operands, hx])
    rw [forceL_eq] at h
    simp only
    rw [forceL_eq, hmap]
    obtain ⟨v', ms', ⟨rfl, rfl⟩, q2, q3⟩ := light_call h
    refine q3 σ' ?_ hm _ ⟨rfl, rfl⟩
    intro x hx
    rw [mapR_eq] at hx
    obtain ⟨y, hy, rfl⟩ := List.mem_map.1 hx
    exact ha (by simp only [cls]; decide) y (by simp [Op.operands, Call.operands, hy])
  · rename_i hnc
    split
    · exact (hnc _ _ _ rfl).elim
    · exact loc_op he ha hm h

theorem mods_oper {op : Op} (h : operVC T P true σ d op (Is v ms)) : ∀ m ∈ ms, Fr1 σ op m := by
  unfold operVC at h
  split at h
  · rw [forceL_eq] at h
    obtain ⟨v', ms', ⟨rfl, rfl⟩, q2, q3⟩ := light_call h
    exact fun m hm => .inl (q2 m hm)
  · obtain ⟨v', ms', ⟨rfl, rfl⟩, q⟩ := mods_op T σ d _ _ h
    exact q
end
end Go.Ab
