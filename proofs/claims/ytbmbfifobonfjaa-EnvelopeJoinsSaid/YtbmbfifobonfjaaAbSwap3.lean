/-
  A load from one variable of the call, and a store to another one or an append, may change places.
-/
import Derived.Test.YtbmbfifobonfjaaAbSwap2
set_option linter.unusedVariables false
set_option linter.unusedSimpArgs false
namespace Go.Ab

def Good (cl : List (Nat × Nat)) (σ : St) : Prop := ∀ u i, claim cl u = some i → (σ.env u).ok (fun j => j = i) (fun _ _ => False)

section
variable {T : Tab} {P : Program} {σ σ' : St} {n d : Nat} {v v' : V} {ms ms' : List Mod} {ops : List Oper} {o p : Oper} {K : St → Prop} {cl : List (Nat × Nat)}

theorem good_of {env : Nat → V} {bx : Nat → Option (List V)} {ar : Nat → Option AE} (h : goodL cl env) : Good cl ⟨env, bx, ar⟩ := by
  induction cl with
  | nil => intro u i hu; cases hu
  | cons q r ih =>
    intro u i hu
    have h' : okB q.2 (env q.1) ∧ goodL r env := h
    unfold claim at hu
    rw [List.find?_cons] at hu
    cases hq : Nat.beq q.1 u with
    | true =>
      rw [hq] at hu
      have := Nat.eq_of_beq_eq_true hq
      subst this
      cases hu
      have h1 := h'.1
      show (env q.1).ok _ _
      generalize env q.1 = x at h1 ⊢
      unfold okB at h1
      split at h1
      · subst h1; simp only [V.ok]
      · simp only [V.ok]
      · simp only [V.ok, V.okL]
      · exact h1.elim
    | false =>
      rw [hq] at hu
      exact ih h'.2 u i hu

theorem field_box {r : Row} {x : V} {f : Nat} {i : Nat} (hx : x.ok (fun j => j = i) (fun _ _ => False)) (h : fieldAddrVC r x f (Is v ms)) : v.ok (fun j => j = i) (fun _ _ => False) := by
  unfold fieldAddrVC at h
  split at h
  · rename_i o z q _ _
    cases hz : Nat.beq z 0 with
    | true => rw [hz] at h; exact h.elim
    | false =>
      rw [hz] at h
      simp only [cond_false] at h
      split at h
      · obtain ⟨rfl, _⟩ := h
        simp only [V.ok] at hx ⊢
        exact hx
      · rw [forceL_eq] at h
        obtain ⟨rfl, _⟩ := h
        simp only [V.ok] at hx ⊢
        rw [dropR_eq, okL_iff]
        exact fun y hy => okL_iff.1 hx y (List.mem_of_mem_drop hy)
      · simp only [V.ok] at hx
      · exact h.elim
  · exact h.elim

theorem good_put (hg : Good cl σ) (hc : claimOk cl o = true) (h : Eff T P n ops o σ v ms) : Good cl (σ.put o.dst v ms) := by
  intro u i hu
  by_cases e : o.dst = some u
  · rw [e, put_env_same]
    unfold claimOk at hc
    rw [e] at hc
    simp only [hu] at hc
    split at hc
    · rename_i s u2 f hop
      split at hc
      · rename_i j hj
        have := Nat.eq_of_beq_eq_true hc
        subst this
        have key : operVC T P true σ (o.dst.getD n) o.op (Is v ms) → v.ok (fun j => j = i) (fun _ _ => False) := by
          intro h
          rw [hop] at h
          have h' : opVC T σ (o.dst.getD n) (.fieldAddr s (.tmp u2) f) (Is v ms) := h
          unfold opVC at h'
          simp only at h'
          cases hb : Nat.blt s (T.n s) with
          | false => rw [hb] at h'; exact h'.elim
          | true =>
            rw [hb] at h'
            exact field_box (hg u2 i hj) h'
        unfold Eff at h
        obtain ⟨_, h⟩ := h
        split at h
        · exact key h
        · obtain ⟨s, _, h⟩ := h
          rcases h with ⟨_, h⟩ | ⟨_, rfl, _⟩
          · exact key h
          · simp only [V.ok, V.okL]
      · cases hc
    · cases hc
  · rw [put_env_ne _ _ _ _ e]
    exact hg u i hu

theorem load_mods {t : TypeId} {x : Operand} (h : operVC T P true σ d (.load t x) (Is v ms)) : ms = [] := by
  have h' : opVC T σ d (.load t x) (Is v ms) := h
  unfold opVC at h'
  have hm : Mo (fun ms => ms = []) (fun K => cond (Nat.blt t (T.n t)) (loadVC (T.row t) σ (σ.ev x) K) False) := by
    refine Mo.cond ?_ Mo.false
    unfold loadVC
    split
    · split
      · exact mo_pickK (R := fun ms => ms = []) rfl _ _
      · exact Mo.false
    · exact mo_pickK (R := fun ms => ms = []) rfl _ _
    · split
      · exact Mo.need fun _ => Mo.idx fun x => Mo.cond (mo_pickK (R := fun ms => ms = []) rfl _ _) Mo.false
      · exact Mo.false
    · exact Mo.false
  obtain ⟨v1, ms1, ⟨_, h2⟩, h3⟩ := hm _ h'
  rw [← h2, h3]

theorem store_mods {t : TypeId} {x y : Operand} {i : Nat} (hx : (σ.ev x).ok (fun j => j = i) (fun _ _ => False)) (h : operVC T P true σ d (.store t x y) (Is v ms)) : ∀ m ∈ ms, ∀ j, j ≠ i → ¬ m.isB j := by
  have h' : opVC T σ d (.store t x y) (Is v ms) := h
  unfold opVC at h'
  have hm : Mo (fun ms => ∀ m ∈ ms, ∀ j, j ≠ i → ¬ m.isB j) (fun K => cond (Nat.blt t (T.n t)) (storeVC (T.row t) σ (σ.ev x) (σ.ev y) K) False) := by
    refine Mo.cond ?_ Mo.false
    unfold storeVC
    split
    · rename_i k off hk
      rw [hk] at hx
      simp only [V.ok] at hx
      subst hx
      split
      · refine Mo.cond (Mo.forceL fun l => Mo.ret _ ?_) Mo.false
        intro m hm j hj hb
        cases List.mem_singleton.1 hm
        exact hj hb.symm
      · exact Mo.false
    · split
      · refine Mo.need fun _ => Mo.idx fun x => Mo.cond (Mo.forceL fun l => Mo.ret _ ?_) Mo.false
        intro m hm j hj hb
        cases List.mem_singleton.1 hm
        exact hb
      · exact Mo.false
    · exact Mo.false
  obtain ⟨v1, ms1, ⟨_, h2⟩, h3⟩ := hm _ h'
  rw [← h2]; exact h3

theorem append_mods {as : Array Operand} {ts : Array TypeId} (h : operVC T P true σ d (.call ⟨.builtin .append, as, ts⟩) (Is v ms)) : ∀ m ∈ ms, ∀ j, ¬ m.isB j := by
  have one : ∀ (k : Nat) (en : AE), ∀ m ∈ [Mod.a k en], ∀ j, ¬ m.isB j := fun k en m hm j hb => by cases List.mem_singleton.1 hm; exact hb
  have h' : opVC T σ d (.call ⟨.builtin .append, as, ts⟩) (Is v ms) := h
  unfold opVC at h'
  split at h' <;> rename_i heq <;> try (cases heq; done)
  · rename_i s x t t'
    have hm : Mo (fun ms => ∀ m ∈ ms, ∀ j, ¬ m.isB j) (fun K => cond (Nat.blt t (T.n t) && Nat.beq t t') (appendVC T (T.row t) σ d (σ.ev s) (σ.ev x) K) False) := by
      refine Mo.cond ?_ Mo.false
      unfold appendVC
      split
      · refine Mo.cond (Mo.conts fun xs => ?_) Mo.false
        split
        · split
          · exact Mo.need fun _ => Mo.ret _ (one _ _)
          · exact Mo.false
        · split
          · exact Mo.need fun _ => Mo.ret _ (one _ _)
          · exact Mo.false
        · split
          · exact Mo.need fun _ => Mo.ret _ (one _ _)
          · exact Mo.false
        · exact Mo.false
      · exact Mo.false
    obtain ⟨v1, ms1, ⟨_, h2⟩, h3⟩ := hm _ h'
    rw [← h2]; exact h3
  all_goals exact h'.elim

theorem swap_load (wf : ∀ x : Operand, (σ.ev x).ok σ.hasB σ.hasA) (hg : Good cl σ) (hpo : Oper.apart ops.toArray p o = true) (hs : loadSep cl p.op o.op = true)
    (h1 : Eff T P n ops p σ v ms) (h2 : Eff T P n ops o (σ.put p.dst v ms) v' ms') :
    Eff T P n ops o σ v' ms' ∧ Eff T P n ops p (σ.put o.dst v' ms') v ms ∧ (σ.put p.dst v ms).put o.dst v' ms' = (σ.put o.dst v' ms').put p.dst v ms := by
  obtain ⟨hp1, hp2, hp3⟩ := Oper.apart_spec hpo
  unfold loadSep at hs
  split at hs
  case h_2 => cases hs
  rename_i t u hpop
  split at hs
  case h_2 => cases hs
  rename_i i hi
  have hms : ms = [] := by
    unfold Eff at h1
    obtain ⟨_, h1⟩ := h1
    split at h1
    · rw [hpop] at h1; exact load_mods h1
    · obtain ⟨s, _, h1⟩ := h1
      rcases h1 with ⟨_, h1⟩ | ⟨_, _, h1⟩
      · rw [hpop] at h1; exact load_mods h1
      · exact h1
  subst hms
  have b1 : (σ.put p.dst v []).bx = σ.bx := by rw [put_bx]; rfl
  have a1 : (σ.put p.dst v []).ar = σ.ar := by rw [put_ar]; rfl
  have s1 : Eff T P n ops o σ v' ms' := by
    refine eff_loc (σ := σ.put p.dst v []) ?_ ?_ ?_ h2
    · intro t ht
      exact (put_env_ne _ _ _ _ (fun e => hp1 t e ht)).symm
    · intro _ x hx
      have e : (σ.put p.dst v []).ev x = σ.ev x := by
        cases x with
        | tmp t =>
          refine put_env_ne _ _ _ _ (fun e => hp1 t e ?_)
          unfold Oper.looksAt
          rw [List.mem_append]
          left
          rw [List.mem_filterMap]
          exact ⟨.tmp t, Array.mem_toList_iff.2 hx, rfl⟩
        | const v => rfl
        | global g => rfl
        | func f => rfl
      rw [e]
      exact V.ok.imp (fun j _ => by rw [b1]) (fun j _ _ => by rw [a1]) _ (wf x)
    · intro m _
      cases m with
      | b j cs => show σ.bx j = _; rw [b1]
      | a j cs => show σ.ar j = _; rw [a1]
  have hB : ∀ m ∈ ms', ¬ m.isB i := by
    have h2 := s1
    unfold Eff at h2
    obtain ⟨_, h2⟩ := h2
    have key : operVC T P true σ (o.dst.getD n) o.op (Is v' ms') → ∀ m ∈ ms', ¬ m.isB i := by
      intro h
      split at hs
      · rename_i t' u' y hop
        rw [hop] at h
        split at hs
        · rename_i j hj
          refine fun m hm => store_mods (σ := σ) (x := .tmp u') (i := j) (hg u' j hj) h m hm i (fun e => ?_)
          subst e
          simp at hs
        · cases hs
      · rename_i hop
        rw [hop] at h
        exact fun m hm => append_mods h m hm i
      · cases hs
    split at h2
    · exact key h2
    · obtain ⟨s, _, h2⟩ := h2
      rcases h2 with ⟨_, h2⟩ | ⟨_, _, h2⟩
      · exact key h2
      · subst h2; intro m hm; cases hm
  refine ⟨s1, ?_, ?_⟩
  · refine eff_loc (σ := σ) ?_ ?_ ?_ h1
    · intro t ht
      exact put_env_ne _ _ _ _ (fun e => hp3 t e ht)
    · intro _ x hx
      rw [hpop] at hx
      have : x = .tmp u := by simpa [Op.operands] using hx
      subst this
      refine V.ok.imp ?_ ?_ _ (hg u i hi)
      · rintro j rfl
        rw [put_bx]
        exact apps_bx_ne _ _ _ hB
      · intro _ _ h; exact h.elim
    · intro m hm; cases hm
  · exact put_comm (fun t e => hp2 t e) (fun j ⟨m, hm, _⟩ => by cases hm) (fun j ⟨m, hm, _⟩ => by cases hm)
end
end Go.Ab
