/-
  Calls of Go functions, by their contracts.
-/
import Derived.Test.YtbmbfifobonfjaaAbOps8
set_option linter.unusedVariables false
set_option linter.unusedSimpArgs false
namespace Go.Ab
section
variable {T : Tab} {P : Program} {Φ : Fr} {σ : St} {a : Act} {w w' : World} {G G' : Gh} {K : VK} {o : Oper} {d : Nat}

theorem memR_iff {k : Nat} {l : List Nat} : memR k l = true ↔ k ∈ l := by
  induction l with
  | nil => simp [memR]
  | cons x r ih =>
    have : memR k (x :: r) = cond (Nat.beq k x) true (memR k r) := rfl
    rw [this]
    cases h : Nat.beq k x with
    | true => simp [Nat.beq_eq] at h; simp [h]
    | false =>
      have hne : k ≠ x := by rintro rfl; simp at h
      simp [ih, hne]

/-- arrays that are frozen: their blocks change hands -/
theorem Inv.freeze (inv : Inv T Φ σ a w G) {k : Nat} {en : AE} (hen : σ.ar k = some en) (hk : en.kind = .own ∨ en.kind = .ap) :
    ∃ O', Inv T Φ (σ.apps [.a k ⟨en.gen, .frz, en.ty, en.l⟩]) a w { G with O := O' } ∧ (∀ b, O' b = .fz ↔ (G.O b = .fz ∨ G.O b = .ar k)) ∧ (∀ b, G.O b ≠ .ar k → O' b = G.O b) := by
  let O' : Nat → Tag := fun b => match G.O b with | .ar j => if j = k then .fz else .ar j | t => t
  have hO1 : ∀ b, G.O b ≠ .ar k → O' b = G.O b := by
    intro b hb
    show (match G.O b with | .ar j => if j = k then Tag.fz else .ar j | t => t) = _
    cases h : G.O b with
    | ar j => have : j ≠ k := by rintro rfl; exact hb h
              simp [this]
    | _ => rfl
  have hO2 : ∀ b, G.O b = .ar k → O' b = .fz := by
    intro b hb
    show (match G.O b with | .ar j => if j = k then Tag.fz else .ar j | t => t) = _
    rw [hb]; simp
  have hkp : Keep w w G { G with O := O' } := ⟨fun b hb => (hO1 b (by rw [hb]; simp)).trans hb, fun _ _ => rfl⟩
  have hp := inv.wfA k en hen
  refine ⟨O', ?_, ?_, hO1⟩
  · refine inv.setArr (w' := w) (k := k) (en := ⟨en.gen, .frz, en.ty, en.l⟩) (av' := G.av) (O' := O') (fun g ⟨en', q1, q2⟩ => by rw [hen] at q1; cases q1; exact q2) (fun _ _ _ => rfl) hp ?_ (fun b _ hb => hO1 b hb) ?_ (fun _ _ _ => rfl) (Nat.le_refl _) rfl rfl rfl
    · have hok := inv.arr k en hen
      show Rv w { G with O := O' } (G.av k en.gen) (.sl en.l)
      have own : ∀ {ty}, OwnOk T w G k (G.av k en.gen) ty en.l → Rv w { G with O := O' } (G.av k en.gen) (.sl en.l) := by
        intro ty hown
        rcases hown with ⟨e1, e2⟩ | ⟨b, cap, cur, e1, e2, e3, e4, e5, e6, e7, e8⟩
        · rw [e1, e2]; exact .slN
        · obtain ⟨cc, q1, q2⟩ := (e8.here e3).out
          rw [e1]
          refine .slS _ cap en.l _ cc e4 e5 (fun _ => hO2 b e2) e7 q1 (fun j y hy => (q2 j y hy).pure_keep hkp (ok_of_mem_flat hp hy))
      unfold ArrOk at hok
      rcases hk with hk | hk
      · rw [hk] at hok; exact own hok.2
      · rw [hk] at hok
        rcases hok.2 with hok | hok
        · exact own hok
        · exact hok.1.cap_sl.pure_keep hkp (by simp only [V.pure, V.ok]; exact hp)
    · intro b
      by_cases hb : G.O b = .ar k
      · exact .inr (.inr (.inr ⟨hO2 b hb, hb⟩))
      · exact .inl (hO1 b hb)
  · intro b
    by_cases hb : G.O b = .ar k
    · simp [hO2 b hb, hb]
    · simp [hO1 b hb, hb]

/-- y is a view of x: the value reads so wherever what x names stays as it is -/
theorem view_sound (inv : Inv T Φ σ a w G) (hkp : Keep w w G G') {v : Value} {x y : V} (h : viewVC σ.ar x y) (hv : Rv w G v x) (hok : x.ok σ.hasB σ.hasA) (hlent : ∀ k ∈ akey x, ∀ b, G.O b = .ar k → G'.O b = .fz) : Rv w G' v y ∧ y.pure := by
  have sl : ∀ {u : Value} {l : List V}, pureL l → Rv w G u (.sl l) → Rv w G' u (.sl l) ∧ (V.sl l).pure := fun hp h => ⟨h.pure_keep hkp (by simp only [V.pure, V.ok]; exact hp), by simp only [V.pure, V.ok]; exact hp⟩
  unfold viewVC at h
  split at h
  · rename_i l
    split at h
    · subst h; simp only [V.ok] at hok; exact sl hok hv
    · subst h; simp only [V.ok] at hok; exact sl hok hv.cap_sl
    · subst h; rw [hv.lit_eq]; exact ⟨.slN, by simp only [V.pure, V.ok, V.okL]⟩
    · rename_i k g
      split at h
      · rename_i en hen
        obtain ⟨hg, hd, rfl⟩ := h
        subst hg
        have hp := inv.wfA k en hen
        have hok' := inv.arr k en hen
        rw [hv.arr_eq]
        have hl := hlent k (by simp [akey])
        have own : ∀ {ty}, OwnOk T w G k (G.av k en.gen) ty en.l → Rv w G' (G.av k en.gen) (.sl en.l) := by
          intro ty hown
          rcases hown with ⟨e1, e2⟩ | ⟨b, cap, cur, e1, e2, e3, e4, e5, e6, e7, e8⟩
          · rw [e1, e2]; exact .slN
          · obtain ⟨cc, q1, q2⟩ := (e8.here e3).out
            rw [e1]
            exact .slS _ cap en.l _ cc e4 e5 (fun _ => hl b e2) e7 q1 (fun j y hy => (q2 j y hy).pure_keep hkp (ok_of_mem_flat hp hy))
        refine ⟨?_, by simp only [V.pure, V.ok]; exact hp⟩
        unfold ArrOk at hok'
        split at hok'
        · rename_i hk; exact absurd hk hd
        · exact (sl hp hok').1
        · exact own hok'.2
        · rcases hok'.2 with q | q
          · exact own q
          · exact (sl hp q.1.cap_sl).1
      · exact h.elim
    · exact h.elim
  · rename_i l
    split at h
    · subst h
      simp only [V.ok] at hok
      exact ⟨hv.pure_keep hkp (by simp only [V.pure, V.ok]; exact hok), by simp only [V.pure, V.ok]; exact hok⟩
    · subst h; rw [hv.lit_eq]; exact ⟨.capN, by simp only [V.pure, V.ok, V.okL]⟩
    · exact h.elim
  · split at h
    · subst h
      rw [hv.lit_eq]
      exact ⟨.lit _ hv.lit_one, by simp only [V.pure, V.ok]⟩
    · exact h.elim
  · exact h.elim

theorem viewL_spec {ar : Nat → Option AE} : ∀ {ys xs : List V}, viewL ar ys xs → xs.length = ys.length ∧ ∀ (i : Nat) x y, xs[i]? = some x → ys[i]? = some y → viewVC ar x y := by
  intro ys
  induction ys with
  | nil =>
    intro xs h
    cases xs with
    | nil => exact ⟨rfl, fun i x y hx => by simp at hx⟩
    | cons x r => exact (h : False).elim
  | cons y r ih =>
    intro xs h
    cases xs with
    | nil => exact (h : False).elim
    | cons x xr =>
      obtain ⟨h1, h2⟩ : viewVC ar x y ∧ viewL ar r xr := h
      obtain ⟨i1, i2⟩ := ih h2
      refine ⟨by simp [i1], fun i x' y' hx hy => ?_⟩
      cases i with
      | zero => simp at hx hy; subst hx; subst hy; exact h1
      | succ i => simp at hx hy; exact i2 i x' y' hx hy

theorem giveL_spec {ar : Nat → Option AE} : ∀ {ys xs : List V}, giveL T ar ys xs → xs.length = ys.length ∧ ∀ (i : Nat) x y, xs[i]? = some x → ys[i]? = some y → giveVC T ar x y := by
  intro ys
  induction ys with
  | nil =>
    intro xs h
    cases xs with
    | nil => exact ⟨rfl, fun i x y hx => by simp at hx⟩
    | cons x r => exact (h : False).elim
  | cons y r ih =>
    intro xs h
    cases xs with
    | nil => exact (h : False).elim
    | cons x xr =>
      obtain ⟨h1, h2⟩ : giveVC T ar x y ∧ giveL T ar r xr := h
      obtain ⟨i1, i2⟩ := ih h2
      refine ⟨by simp [i1], fun i x' y' hx hy => ?_⟩
      cases i with
      | zero => simp at hx hy; subst hx; subst hy; exact h1
      | succ i => simp at hx hy; exact i2 i x' y' hx hy

theorem akeys_agg (cs : List V) : akeys (.agg cs) = cs.flatMap akey := by
  induction cs with
  | nil => rfl
  | cons x r ih =>
    have : akeys (.agg (x :: r)) = appR (akey x) (akeys (.agg r)) := rfl
    rw [this, appR_eq, ih, List.flatMap_cons]

theorem ownKeys_spec : ∀ {ys xs : List V} {k : Nat}, k ∈ ownKeys ys xs ↔ ∃ (i : Nat) (x y : V), xs[i]? = some x ∧ ys[i]? = some y ∧ linear y = true ∧ k ∈ akeys x := by
  intro ys
  induction ys with
  | nil =>
    intro xs k
    have : ownKeys [] xs = [] := rfl
    rw [this]; simp
  | cons y r ih =>
    intro xs k
    cases xs with
    | nil =>
      have : ownKeys (y :: r) [] = [] := rfl
      rw [this]; simp
    | cons x xr =>
      have : ownKeys (y :: r) (x :: xr) = appR (cond (linear y) (akeys x) []) (ownKeys r xr) := rfl
      rw [this, appR_eq, List.mem_append, ih]
      constructor
      · rintro (h | ⟨i, x', y', h1, h2, h3, h4⟩)
        · cases hl : linear y with
          | true => rw [hl] at h; exact ⟨0, x, y, rfl, rfl, hl, h⟩
          | false => rw [hl] at h; cases h
        · exact ⟨i + 1, x', y', h1, h2, h3, h4⟩
      · rintro ⟨i, x', y', h1, h2, h3, h4⟩
        cases i with
        | zero => simp at h1 h2; subst h1; subst h2; left; rw [h3]; exact h4
        | succ i => right; exact ⟨i, x', y', h1, h2, h3, h4⟩

theorem viewKeys_spec : ∀ {ys xs : List V} {k : Nat}, k ∈ viewKeys ys xs ↔ ∃ (i : Nat) (x y : V), xs[i]? = some x ∧ ys[i]? = some y ∧ linear y = false ∧ k ∈ akeys x := by
  intro ys
  induction ys with
  | nil =>
    intro xs k
    have : viewKeys [] xs = [] := rfl
    rw [this]; simp
  | cons y r ih =>
    intro xs k
    cases xs with
    | nil =>
      have : viewKeys (y :: r) [] = [] := rfl
      rw [this]; simp
    | cons x xr =>
      have : viewKeys (y :: r) (x :: xr) = appR (cond (linear y) [] (akeys x)) (viewKeys r xr) := rfl
      rw [this, appR_eq, List.mem_append, ih]
      constructor
      · rintro (h | ⟨i, x', y', h1, h2, h3, h4⟩)
        · cases hl : linear y with
          | true => rw [hl] at h; cases h
          | false => rw [hl] at h; exact ⟨0, x, y, rfl, rfl, hl, h⟩
        · exact ⟨i + 1, x', y', h1, h2, h3, h4⟩
      · rintro ⟨i, x', y', h1, h2, h3, h4⟩
        cases i with
        | zero => simp at h1 h2; subst h1; subst h2; left; rw [h3]; exact h4
        | succ i => right; exact ⟨i, x', y', h1, h2, h3, h4⟩

/-- what is handed over is what the other side takes it for -/
theorem give_sound (inv : Inv T Φ σ a w G) (hkp : Keep w w G G') {v : Value} {x y : V} {j : Nat} (h : giveVC T σ.ar x y) (hv : Rv w G v x) (hok : x.ok σ.hasB σ.hasA)
    (hlent : linear y = false → ∀ k ∈ akeys x, ∀ b, G.O b = .ar k → G'.O b = .fz) (hgiven : linear y = true → ∀ k ∈ akeys x, ∀ b, G.O b = .ar k → G'.O b = .ar j) : Rb T w G' j v y := by
  have own : ∀ {k ty l}, pureL l → OwnOk T w G k v ty l → (∀ b, G.O b = .ar k → G'.O b = .ar j) → OwnOk T w G' j v ty l := by
    intro k ty l hp hown hg
    rcases hown with h | ⟨b, cap, cur, e1, e2, e3, e4, e5, e6, e7, e8⟩
    · exact .inl h
    · refine .inr ⟨b, cap, cur, e1, hg b e2, e3, e4, e5, e6, e7, e8.keep hkp (p := fun _ => False) (q := fun _ _ => False) ?_ (fun _ h => h.elim) (fun _ _ h => h.elim)⟩
      refine okL_iff.2 fun u hu => ?_
      obtain ⟨i, hi⟩ := List.getElem?_of_mem hu
      exact ok_of_mem_flat hp hi
  unfold giveVC at h
  split at h
  · rename_i e l
    split at h
    · obtain ⟨he, rfl⟩ := h
      exact ⟨he, by simp only [V.okL], .inl ⟨hv.lit_eq, rfl⟩⟩
    · rename_i k g
      split at h
      · rename_i en hen
        obtain ⟨hg, hk, rfl, rfl⟩ := h
        subst hg
        have hok' := inv.arr k en hen
        unfold ArrOk at hok'
        rw [hk] at hok'
        have hp := inv.wfA k en hen
        rw [← hv.arr_eq] at hok'
        exact ⟨hok'.1, hp, own hp hok'.2 (hgiven rfl k (by simp [akeys]))⟩
      · exact h.elim
    · exact h.elim
  · rename_i e l
    split at h
    · obtain ⟨he, rfl⟩ := h
      exact ⟨he, by simp only [V.okL], .inl (.inl ⟨hv.lit_eq, rfl⟩)⟩
    · obtain ⟨he, hz, rfl⟩ := h
      simp only [V.ok] at hok
      exact ⟨he, hok, .inr ⟨hv.pure_keep hkp (by simp only [V.pure, V.ok]; exact hok), hz⟩⟩
    · rename_i k g
      split at h
      · rename_i en hen
        obtain ⟨hg, hk, rfl, rfl⟩ := h
        subst hg
        have hok' := inv.arr k en hen
        have hp := inv.wfA k en hen
        have hgv := hgiven rfl k (by simp [akeys])
        unfold ArrOk at hok'
        rw [← hv.arr_eq] at hok'
        rcases hk with hk | hk
        · rw [hk] at hok'
          exact ⟨hok'.1, hp, .inl (own hp hok'.2 hgv)⟩
        · rw [hk] at hok'
          refine ⟨hok'.1, hp, ?_⟩
          rcases hok'.2 with q | q
          · exact .inl (own hp q hgv)
          · exact .inr ⟨q.1.pure_keep hkp (by simp only [V.pure, V.ok]; exact hp), q.2⟩
      · exact h.elim
    · exact h.elim
  · rename_i ys
    split at h
    · rename_i xs
      obtain ⟨hl, hh⟩ := viewL_spec h
      obtain ⟨cs, e1, e2, e3, e4⟩ := hv.agg_inv
      simp only [V.ok] at hok
      have each : ∀ (i : Nat) c y, cs[i]? = some c → ys[i]? = some y → Rv w G' c y ∧ y.pure := by
        intro i c y hc hy
        have hi : i < xs.length := by rw [hl]; exact (List.getElem?_eq_some_iff.1 hy).1
        have hx := List.getElem?_eq_getElem hi
        exact view_sound inv hkp (hh i _ y hx hy) (e4 i c _ hc hx) (okL_iff.1 hok _ (List.mem_of_getElem? hx)) (fun k hk => hlent rfl k (by rw [akeys_agg]; exact List.mem_flatMap.2 ⟨_, List.mem_of_getElem? hx, hk⟩))
      refine ⟨?_, ?_⟩
      · simp only [V.pure, V.ok]
        refine okL_iff.2 fun y hy => ?_
        obtain ⟨i, hi⟩ := List.getElem?_of_mem hy
        have hic : i < cs.size := by rw [e2, hl]; exact (List.getElem?_eq_some_iff.1 hi).1
        exact (each i cs[i] y (by simp [hic]) hi).2
      · rw [e1]
        exact .agg cs ys (by rw [e2, hl]) e3 (fun i c y hc hy => (each i c y hc hy).1)
    · exact h.elim
  · rename_i h1 h2 h3
    have hlin : linear y = false := by
      cases y <;> simp_all [linear]
    have hkk : ∀ k ∈ akey x, k ∈ akeys x := by
      intro k hk
      cases x <;> simp_all [akey, akeys]
    obtain ⟨q1, q2⟩ := view_sound inv hkp h hv hok (fun k hk => hlent hlin k (hkk k hk))
    unfold Rb
    split
    · exact (h1 _ _ rfl).elim
    · exact (h2 _ _ rfl).elim
    · exact ⟨q2, q1⟩

end
end Go.Ab
