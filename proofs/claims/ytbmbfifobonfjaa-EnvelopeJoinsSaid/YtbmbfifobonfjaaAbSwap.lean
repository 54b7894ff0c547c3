/-
  Two operations of a region that do not touch each other may change places.
-/
import Derived.Test.YtbmbfifobonfjaaAbLoc2
set_option linter.unusedVariables false
set_option linter.unusedSimpArgs false
namespace Go.Ab

/-- the outcome of one operation of a region -/
def Eff (T : Tab) (P : Program) (n : Nat) (ops : List Oper) (o : Oper) (σ : St) (v : V) (ms : List Mod) : Prop :=
  (∀ d, o.dst = some d → d < n) ∧ match o.guard with
  | none => operVC T P true σ (o.dst.getD n) o.op (Is v ms)
  | some (j, want) => ∃ s, guardSlot ops j = some s ∧
      ((σ.env s = .lit (.bool want) ∧ operVC T P true σ (o.dst.getD n) o.op (Is v ms)) ∨ ((σ.env s = .lit (.bool !want) ∨ ∃ cs, σ.env s = .tup cs) ∧ v = .tup [] ∧ ms = []))

section
variable {T : Tab} {P : Program} {σ σ' : St} {n d : Nat} {v : V} {ms : List Mod} {ops : List Oper} {o p : Oper} {K : St → Prop}

theorem step_eff (h : Step T P true n ops o σ K) : ∃ v ms, Eff T P n ops o σ v ms ∧ K (σ.put o.dst v ms) := by
  unfold Step at h
  unfold Eff
  split at h
  · rename_i hg
    simp only [hg]
    obtain ⟨h1, h2⟩ := h
    obtain ⟨v, ms, q1, q2⟩ := det_oper _ _ _ _ _ _ _ h2
    exact ⟨v, ms, ⟨h1, q2 _ ⟨rfl, rfl⟩⟩, q1⟩
  · rename_i j want hg
    simp only [hg]
    obtain ⟨s, h1, h2, h3⟩ := h
    rcases h3 with ⟨b, hb, h4⟩ | ⟨cs, hb, h4⟩
    · split at h4
      · rename_i hbw
        subst hbw
        obtain ⟨v, ms, q1, q2⟩ := det_oper _ _ _ _ _ _ _ h4
        exact ⟨v, ms, ⟨h2, s, h1, .inl ⟨hb, q2 _ ⟨rfl, rfl⟩⟩⟩, q1⟩
      · rename_i hbw
        refine ⟨_, _, ⟨h2, s, h1, .inr ⟨.inl ?_, rfl, rfl⟩⟩, h4⟩
        rw [hb]
        cases b <;> cases want <;> simp_all
    · exact ⟨_, _, ⟨h2, s, h1, .inr ⟨.inr ⟨cs, hb⟩, rfl, rfl⟩⟩, h4⟩

theorem eff_step (h : Eff T P n ops o σ v ms) (hk : K (σ.put o.dst v ms)) : Step T P true n ops o σ K := by
  unfold Eff at h
  unfold Step
  obtain ⟨h1, h2⟩ := h
  split at h2
  · rename_i hg
    simp only [hg]
    exact ⟨h1, oper_mono (fun v' ms' ⟨e1, e2⟩ => by rw [e1, e2]; exact hk) h2⟩
  · rename_i j want hg
    simp only [hg]
    obtain ⟨s, q1, q2⟩ := h2
    refine ⟨s, q1, h1, ?_⟩
    rcases q2 with ⟨q2, q3⟩ | ⟨q2, rfl, rfl⟩
    · refine .inl ⟨want, q2, ?_⟩
      rw [if_pos rfl]
      exact oper_mono (fun v' ms' ⟨e1, e2⟩ => by rw [e1, e2]; exact hk) q3
    · rcases q2 with q2 | q2
      · refine .inl ⟨!want, q2, ?_⟩
        rw [if_neg (by cases want <;> simp)]
        exact hk
      · exact .inr ⟨q2.choose, q2.choose_spec, hk⟩

theorem eff_mods (h : Eff T P n ops o σ v ms) : ∀ m ∈ ms, Fr1 σ o.op m := by
  unfold Eff at h
  obtain ⟨h1, h2⟩ := h
  split at h2
  · exact mods_oper h2
  · obtain ⟨s, q1, q2⟩ := h2
    rcases q2 with ⟨q2, q3⟩ | ⟨q2, rfl, rfl⟩
    · exact mods_oper q3
    · intro m hm; cases hm

/-- the slots that an operation looks at -/
theorem eff_loc (he : ∀ t ∈ o.looksAt ops.toArray, σ'.env t = σ.env t) (ha : 1 < cls o.op → ∀ x ∈ o.op.operands, (σ.ev x).agr σ σ') (hm : ∀ m ∈ ms, m.same σ σ') (h : Eff T P n ops o σ v ms) : Eff T P n ops o σ' v ms := by
  have hev : ∀ x ∈ o.op.operands, σ'.ev x = σ.ev x := by
    intro x hx
    cases x with
    | tmp t =>
      refine he t ?_
      unfold Oper.looksAt
      rw [List.mem_append]
      left
      rw [List.mem_filterMap]
      exact ⟨.tmp t, Array.mem_toList_iff.2 hx, rfl⟩
    | const v => rfl
    | global g => rfl
    | func f => rfl
  unfold Eff at *
  obtain ⟨h1, h2⟩ := h
  refine ⟨h1, ?_⟩
  split at h2
  · rename_i hg
    exact loc_oper hev ha hm h2
  · rename_i j want hg
    obtain ⟨s, q1, q2⟩ := h2
    have hs : σ'.env s = σ.env s := by
      refine he s ?_
      unfold Oper.looksAt
      rw [List.mem_append]
      right
      unfold guardSlot at q1
      rw [nth_eq] at q1
      simp [hg, q1]
    refine ⟨s, q1, ?_⟩
    rw [hs]
    rcases q2 with ⟨q2, q3⟩ | q2
    · exact .inl ⟨q2, loc_oper hev ha hm q3⟩
    · exact .inr q2

/-! ### modifications -/
def Mod.isB (i : Nat) : Mod → Prop | .b j _ => j = i | .a _ _ => False
def Mod.isA (k : Nat) : Mod → Prop | .b _ _ => False | .a j _ => j = k

theorem apps_bx_ne (ms : List Mod) (i : Nat) : ∀ σ : St, (∀ m ∈ ms, ¬ m.isB i) → (σ.apps ms).bx i = σ.bx i := by
  induction ms with
  | nil => intro σ _; rfl
  | cons m r ih =>
    intro σ h
    have : σ.apps (m :: r) = (m.app σ).apps r := rfl
    rw [this, ih _ (fun m hm => h m (List.mem_cons_of_mem _ hm))]
    have := h m (List.mem_cons_self ..)
    cases m with
    | b j cs => exact upd_ne _ _ (fun e => this e.symm)
    | a j en => rfl
theorem apps_ar_ne (ms : List Mod) (i : Nat) : ∀ σ : St, (∀ m ∈ ms, ¬ m.isA i) → (σ.apps ms).ar i = σ.ar i := by
  induction ms with
  | nil => intro σ _; rfl
  | cons m r ih =>
    intro σ h
    have : σ.apps (m :: r) = (m.app σ).apps r := rfl
    rw [this, ih _ (fun m hm => h m (List.mem_cons_of_mem _ hm))]
    have := h m (List.mem_cons_self ..)
    cases m with
    | a j cs => exact upd_ne _ _ (fun e => this e.symm)
    | b j en => rfl
theorem apps_bx_in (ms : List Mod) (i : Nat) : ∀ σ σ' : St, ((∃ m ∈ ms, m.isB i) ∨ σ.bx i = σ'.bx i) → (σ.apps ms).bx i = (σ'.apps ms).bx i := by
  induction ms with
  | nil => intro σ σ' h; exact h.resolve_left (fun ⟨m, hm, _⟩ => by cases hm)
  | cons m r ih =>
    intro σ σ' h
    show ((m.app σ).apps r).bx i = ((m.app σ').apps r).bx i
    apply ih
    rcases h with ⟨m', hm', hb⟩ | h
    · rcases List.mem_cons.1 hm' with rfl | hm'
      · right
        cases m' with
        | b j cs => cases hb; show upd _ _ _ _ = upd _ _ _ _; rw [upd_same, upd_same]
        | a j en => exact hb.elim
      · exact .inl ⟨m', hm', hb⟩
    · right
      cases m with
      | b j cs =>
        show upd _ _ _ _ = upd _ _ _ _
        by_cases e : i = j
        · subst e; rw [upd_same, upd_same]
        · rw [upd_ne _ _ e, upd_ne _ _ e]; exact h
      | a j en => exact h
theorem apps_ar_in (ms : List Mod) (i : Nat) : ∀ σ σ' : St, ((∃ m ∈ ms, m.isA i) ∨ σ.ar i = σ'.ar i) → (σ.apps ms).ar i = (σ'.apps ms).ar i := by
  induction ms with
  | nil => intro σ σ' h; exact h.resolve_left (fun ⟨m, hm, _⟩ => by cases hm)
  | cons m r ih =>
    intro σ σ' h
    show ((m.app σ).apps r).ar i = ((m.app σ').apps r).ar i
    apply ih
    rcases h with ⟨m', hm', hb⟩ | h
    · rcases List.mem_cons.1 hm' with rfl | hm'
      · right
        cases m' with
        | a j cs => cases hb; show upd _ _ _ _ = upd _ _ _ _; rw [upd_same, upd_same]
        | b j en => exact hb.elim
      · exact .inl ⟨m', hm', hb⟩
    · right
      cases m with
      | a j cs =>
        show upd _ _ _ _ = upd _ _ _ _
        by_cases e : i = j
        · subst e; rw [upd_same, upd_same]
        · rw [upd_ne _ _ e, upd_ne _ _ e]; exact h
      | b j en => exact h
theorem apps_bx_some (ms : List Mod) (i : Nat) : ∀ σ : St, ((∃ m ∈ ms, m.isB i) ∨ σ.bx i ≠ none) → (σ.apps ms).bx i ≠ none := by
  induction ms with
  | nil => intro σ h; exact h.resolve_left (fun ⟨m, hm, _⟩ => by cases hm)
  | cons m r ih =>
    intro σ h
    show ((m.app σ).apps r).bx i ≠ none
    apply ih
    rcases h with ⟨m', hm', hb⟩ | h
    · rcases List.mem_cons.1 hm' with rfl | hm'
      · right
        cases m' with
        | b j cs => cases hb; show upd _ _ _ _ ≠ none; rw [upd_same]; simp
        | a j en => exact hb.elim
      · exact .inl ⟨m', hm', hb⟩
    · right
      cases m with
      | b j cs =>
        show upd _ _ _ _ ≠ none
        by_cases e : i = j
        · subst e; rw [upd_same]; simp
        · rw [upd_ne _ _ e]; exact h
      | a j en => exact h
theorem apps_ar_some (ms : List Mod) (i : Nat) : ∀ σ : St, ((∃ m ∈ ms, m.isA i) ∨ σ.ar i ≠ none) → (σ.apps ms).ar i ≠ none := by
  induction ms with
  | nil => intro σ h; exact h.resolve_left (fun ⟨m, hm, _⟩ => by cases hm)
  | cons m r ih =>
    intro σ h
    show ((m.app σ).apps r).ar i ≠ none
    apply ih
    rcases h with ⟨m', hm', hb⟩ | h
    · rcases List.mem_cons.1 hm' with rfl | hm'
      · right
        cases m' with
        | a j cs => cases hb; show upd _ _ _ _ ≠ none; rw [upd_same]; simp
        | b j en => exact hb.elim
      · exact .inl ⟨m', hm', hb⟩
    · right
      cases m with
      | a j cs =>
        show upd _ _ _ _ ≠ none
        by_cases e : i = j
        · subst e; rw [upd_same]; simp
        · rw [upd_ne _ _ e]; exact h
      | b j en => exact h

theorem put_bx (σ : St) (d : Option Nat) (v : V) (ms : List Mod) : (σ.put d v ms).bx = (σ.apps ms).bx := by cases d <;> rfl
theorem put_ar (σ : St) (d : Option Nat) (v : V) (ms : List Mod) : (σ.put d v ms).ar = (σ.apps ms).ar := by cases d <;> rfl
theorem put_env_ne (σ : St) (d : Option Nat) (v : V) (ms : List Mod) {t : Nat} (h : d ≠ some t) : (σ.put d v ms).env t = σ.env t := by
  cases d with
  | none => show (σ.apps ms).env t = _; rw [apps_env]
  | some d => show upd (σ.apps ms).env d v t = _; rw [upd_ne _ _ (fun e => h (by rw [e])), apps_env]
theorem put_env_same (σ : St) (d : Nat) (v : V) (ms : List Mod) : (σ.put (some d) v ms).env d = v := upd_same _ _ _

/-- two outcomes that have no place in common may come in either order -/
theorem put_comm {d d' : Option Nat} {v v' : V} {ms ms' : List Mod} (hd : ∀ t, d = some t → d' ≠ some t) (hB : ∀ i, (∃ m ∈ ms, m.isB i) → ∀ m ∈ ms', ¬ m.isB i) (hA : ∀ i, (∃ m ∈ ms, m.isA i) → ∀ m ∈ ms', ¬ m.isA i) :
    (σ.put d v ms).put d' v' ms' = (σ.put d' v' ms').put d v ms := by
  have h1 : ((σ.put d v ms).put d' v' ms').env = ((σ.put d' v' ms').put d v ms).env := by
    funext t
    by_cases e : d = some t
    · subst e
      rw [put_env_ne _ _ _ _ (hd t rfl), put_env_same, put_env_same]
    · rw [put_env_ne _ d _ _ e]
      by_cases e' : d' = some t
      · subst e'; rw [put_env_same, put_env_same]
      · rw [put_env_ne _ _ _ _ e', put_env_ne _ _ _ _ e, put_env_ne _ _ _ _ e']
  have h2 : ((σ.put d v ms).put d' v' ms').bx = ((σ.put d' v' ms').put d v ms).bx := by
    funext i
    rw [put_bx, put_bx]
    by_cases e : ∃ m ∈ ms, m.isB i
    · rw [apps_bx_ne ms' i _ (hB i e), put_bx]
      exact apps_bx_in ms i _ _ (.inl e)
    · have e' : ∀ m ∈ ms, ¬ m.isB i := fun m hm hb => e ⟨m, hm, hb⟩
      rw [apps_bx_ne ms i _ e', put_bx]
      exact apps_bx_in ms' i _ _ (.inr (by rw [put_bx, apps_bx_ne ms i _ e']))
  have h3 : ((σ.put d v ms).put d' v' ms').ar = ((σ.put d' v' ms').put d v ms).ar := by
    funext i
    rw [put_ar, put_ar]
    by_cases e : ∃ m ∈ ms, m.isA i
    · rw [apps_ar_ne ms' i _ (hA i e), put_ar]
      exact apps_ar_in ms i _ _ (.inl e)
    · have e' : ∀ m ∈ ms, ¬ m.isA i := fun m hm hb => e ⟨m, hm, hb⟩
      rw [apps_ar_ne ms i _ e', put_ar]
      exact apps_ar_in ms' i _ _ (.inr (by rw [put_ar, apps_ar_ne ms i _ e']))
  generalize (σ.put d v ms).put d' v' ms' = s1 at *
  generalize (σ.put d' v' ms').put d v ms = s2 at *
  cases s1; cases s2
  simp only at h1 h2 h3
  subst h1 h2 h3
  rfl
end
end Go.Ab
