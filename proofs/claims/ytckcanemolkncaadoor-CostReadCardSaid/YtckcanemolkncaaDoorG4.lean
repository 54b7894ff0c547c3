/-
  Calls of Go functions, by their contracts.
  A call, and what comes back.
  A call by its contract.
  A call to which variables of the frame are lent.
-/
import Derived.Test.YtckcanemolkncaaDoorG3
set_option linter.unusedVariables false
set_option linter.unusedSimpArgs false
namespace Go.Ab
section
variable {T : Tab} {P : Program} {Φ : Fr} {σ : St} {a : Act} {w w' : World} {G G' : Gh} {K : VK} {o : Oper} {d : Nat}

theorem memR_iff {k : Nat} {l : List Nat} : memR k l = true ↔ k ∈ l := by
  induction l with
  | nil => simp [memR]
  | cons x r ih =>
    have : memR k (x :: r) = cond (Nat.beq k x) true (memR k r) := rfl
    rw [this]
    cases h : Nat.beq k x with
    | true => simp [Nat.beq_eq] at h; simp [h]
    | false =>
      have hne : k ≠ x := by rintro rfl; simp at h
      simp [ih, hne]

/-- arrays that are frozen: their blocks change hands -/
theorem Inv.freeze (inv : Inv T Φ σ a w G) {k : Nat} {en : AE} (hen : σ.ar k = some en) (hk : en.kind = .own ∨ en.kind = .ap) :
    ∃ O', Inv T Φ (σ.apps [.a k ⟨en.gen, .frz, en.ty, en.l⟩]) a w { G with O := O' } ∧ (∀ b, O' b = .fz ↔ (G.O b = .fz ∨ G.O b = .ar k)) ∧ (∀ b, G.O b ≠ .ar k → O' b = G.O b) := by
  let O' : Nat → Tag := fun b => match G.O b with | .ar j => if j = k then .fz else .ar j | t => t
  have hO1 : ∀ b, G.O b ≠ .ar k → O' b = G.O b := by
    intro b hb
    show (match G.O b with | .ar j => if j = k then Tag.fz else .ar j | t => t) = _
    cases h : G.O b with
    | ar j => have : j ≠ k := by rintro rfl; exact hb h
              simp [this]
    | _ => rfl
  have hO2 : ∀ b, G.O b = .ar k → O' b = .fz := by
    intro b hb
    show (match G.O b with | .ar j => if j = k then Tag.fz else .ar j | t => t) = _
    rw [hb]; simp
  have hkp : Keep w w G { G with O := O' } := ⟨fun b hb => (hO1 b (by rw [hb]; simp)).trans hb, fun _ _ => rfl⟩
  have hp := inv.wfA k en hen
  refine ⟨O', ?_, ?_, hO1⟩
  · refine inv.setArr (w' := w) (k := k) (en := ⟨en.gen, .frz, en.ty, en.l⟩) (av' := G.av) (O' := O') (fun g ⟨en', q1, q2⟩ => by rw [hen] at q1; cases q1; exact q2) (fun _ _ _ => rfl) hp ?_ (fun b _ hb => hO1 b hb) ?_ (fun _ _ _ => rfl) (Nat.le_refl _) rfl rfl rfl
    · have hok := inv.arr k en hen
      show Rv w { G with O := O' } (G.av k en.gen) (.sl en.l)
      have own : ∀ {ty}, OwnOk T w G k (G.av k en.gen) ty en.l → Rv w { G with O := O' } (G.av k en.gen) (.sl en.l) := by
        intro ty hown
        rcases hown with ⟨e1, e2⟩ | ⟨b, cap, cur, e1, e2, e3, e4, e5, e6, e7, e8⟩
        · rw [e1, e2]; exact .slN
        · obtain ⟨cc, q1, q2⟩ := (e8.here e3).out
          rw [e1]
          refine .slS _ cap en.l _ cc e4 e5 (fun _ => hO2 b e2) e7 q1 (fun j y hy => (q2 j y hy).pure_keep hkp (ok_of_mem_flat hp hy))
      unfold ArrOk at hok
      rcases hk with hk | hk
      · rw [hk] at hok; exact own hok.2
      · rw [hk] at hok
        rcases hok.2 with hok | hok
        · exact own hok
        · exact hok.1.cap_sl.pure_keep hkp (by simp only [V.pure, V.ok]; exact hp)
    · intro b
      by_cases hb : G.O b = .ar k
      · exact .inr (.inr (.inr ⟨hO2 b hb, hb⟩))
      · exact .inl (hO1 b hb)
  · intro b
    by_cases hb : G.O b = .ar k
    · simp [hO2 b hb, hb]
    · simp [hO1 b hb, hb]

/-- y is a view of x: the value reads so wherever what x names stays as it is -/
theorem view_sound (inv : Inv T Φ σ a w G) (hkp : Keep w w G G') {v : Value} {x y : V} (h : viewVC σ.ar x y) (hv : Rv w G v x) (hok : x.ok σ.hasB σ.hasA) (hlent : ∀ k ∈ akey x, ∀ b, G.O b = .ar k → G'.O b = .fz) : Rv w G' v y ∧ y.pure := by
  have sl : ∀ {u : Value} {l : List V}, pureL l → Rv w G u (.sl l) → Rv w G' u (.sl l) ∧ (V.sl l).pure := fun hp h => ⟨h.pure_keep hkp (by simp only [V.pure, V.ok]; exact hp), by simp only [V.pure, V.ok]; exact hp⟩
  unfold viewVC at h
  split at h
  · rename_i l
    split at h
    · subst h; simp only [V.ok] at hok; exact sl hok hv
    · subst h; simp only [V.ok] at hok; exact sl hok hv.cap_sl
    · subst h; rw [hv.lit_eq]; exact ⟨.slN, by simp only [V.pure, V.ok, V.okL]⟩
    · rename_i k g
      split at h
      · rename_i en hen
        obtain ⟨hg, hd, rfl⟩ := h
        subst hg
        have hp := inv.wfA k en hen
        have hok' := inv.arr k en hen
        rw [hv.arr_eq]
        have hl := hlent k (by simp [akey])
        have own : ∀ {ty}, OwnOk T w G k (G.av k en.gen) ty en.l → Rv w G' (G.av k en.gen) (.sl en.l) := by
          intro ty hown
          rcases hown with ⟨e1, e2⟩ | ⟨b, cap, cur, e1, e2, e3, e4, e5, e6, e7, e8⟩
          · rw [e1, e2]; exact .slN
          · obtain ⟨cc, q1, q2⟩ := (e8.here e3).out
            rw [e1]
            exact .slS _ cap en.l _ cc e4 e5 (fun _ => hl b e2) e7 q1 (fun j y hy => (q2 j y hy).pure_keep hkp (ok_of_mem_flat hp hy))
        refine ⟨?_, by simp only [V.pure, V.ok]; exact hp⟩
        unfold ArrOk at hok'
        split at hok'
        · rename_i hk; exact absurd hk hd
        · exact (sl hp hok').1
        · exact own hok'.2
        · rcases hok'.2 with q | q
          · exact own q
          · exact (sl hp q.1.cap_sl).1
      · exact h.elim
    · exact h.elim
  · rename_i l
    split at h
    · subst h
      simp only [V.ok] at hok
      exact ⟨hv.pure_keep hkp (by simp only [V.pure, V.ok]; exact hok), by simp only [V.pure, V.ok]; exact hok⟩
    · subst h; rw [hv.lit_eq]; exact ⟨.capN, by simp only [V.pure, V.ok, V.okL]⟩
    · exact h.elim
  · split at h
    · subst h
      rw [hv.lit_eq]
      exact ⟨.lit _ hv.lit_one, by simp only [V.pure, V.ok]⟩
    · exact h.elim
  · split at h
    · subst h
      simp only [V.ok] at hok
      exact ⟨hv.pure_keep hkp (by simp only [V.pure, V.ok]; exact hok), by simp only [V.pure, V.ok]; exact hok⟩
    · exact h.elim
  · split at h
    · obtain ⟨rfl, rfl, hs⟩ := h
      simp only [V.ok] at hok
      have hp := stillL_pure hs hok
      exact ⟨hv.pure_keep hkp (by simp only [V.pure, V.ok]; exact hp), by simp only [V.pure, V.ok]; exact hp⟩
    · exact h.elim
  · exact h.elim

theorem viewL_spec {ar : Nat → Option AE} : ∀ {ys xs : List V}, viewL ar ys xs → xs.length = ys.length ∧ ∀ (i : Nat) x y, xs[i]? = some x → ys[i]? = some y → viewVC ar x y := by
  intro ys
  induction ys with
  | nil =>
    intro xs h
    cases xs with
    | nil => exact ⟨rfl, fun i x y hx => by simp at hx⟩
    | cons x r => exact (h : False).elim
  | cons y r ih =>
    intro xs h
    cases xs with
    | nil => exact (h : False).elim
    | cons x xr =>
      obtain ⟨h1, h2⟩ : viewVC ar x y ∧ viewL ar r xr := h
      obtain ⟨i1, i2⟩ := ih h2
      refine ⟨by simp [i1], fun i x' y' hx hy => ?_⟩
      cases i with
      | zero => simp at hx hy; subst hx; subst hy; exact h1
      | succ i => simp at hx hy; exact i2 i x' y' hx hy

theorem giveL_spec {ar : Nat → Option AE} : ∀ {ys xs : List V}, giveL T ar ys xs → xs.length = ys.length ∧ ∀ (i : Nat) x y, xs[i]? = some x → ys[i]? = some y → giveVC T ar x y := by
  intro ys
  induction ys with
  | nil =>
    intro xs h
    cases xs with
    | nil => exact ⟨rfl, fun i x y hx => by simp at hx⟩
    | cons x r => exact (h : False).elim
  | cons y r ih =>
    intro xs h
    cases xs with
    | nil => exact (h : False).elim
    | cons x xr =>
      obtain ⟨h1, h2⟩ : giveVC T ar x y ∧ giveL T ar r xr := h
      obtain ⟨i1, i2⟩ := ih h2
      refine ⟨by simp [i1], fun i x' y' hx hy => ?_⟩
      cases i with
      | zero => simp at hx hy; subst hx; subst hy; exact h1
      | succ i => simp at hx hy; exact i2 i x' y' hx hy

theorem akeys_agg (cs : List V) : akeys (.agg cs) = cs.flatMap akey := by
  induction cs with
  | nil => rfl
  | cons x r ih =>
    have : akeys (.agg (x :: r)) = appR (akey x) (akeys (.agg r)) := rfl
    rw [this, appR_eq, ih, List.flatMap_cons]

theorem ownKeys_spec : ∀ {ys xs : List V} {k : Nat}, k ∈ ownKeys ys xs ↔ ∃ (i : Nat) (x y : V), xs[i]? = some x ∧ ys[i]? = some y ∧ linear y = true ∧ k ∈ akeys x := by
  intro ys
  induction ys with
  | nil =>
    intro xs k
    have : ownKeys [] xs = [] := rfl
    rw [this]; simp
  | cons y r ih =>
    intro xs k
    cases xs with
    | nil =>
      have : ownKeys (y :: r) [] = [] := rfl
      rw [this]; simp
    | cons x xr =>
      have : ownKeys (y :: r) (x :: xr) = appR (cond (linear y) (akeys x) []) (ownKeys r xr) := rfl
      rw [this, appR_eq, List.mem_append, ih]
      constructor
      · rintro (h | ⟨i, x', y', h1, h2, h3, h4⟩)
        · cases hl : linear y with
          | true => rw [hl] at h; exact ⟨0, x, y, rfl, rfl, hl, h⟩
          | false => rw [hl] at h; cases h
        · exact ⟨i + 1, x', y', h1, h2, h3, h4⟩
      · rintro ⟨i, x', y', h1, h2, h3, h4⟩
        cases i with
        | zero => simp at h1 h2; subst h1; subst h2; left; rw [h3]; exact h4
        | succ i => right; exact ⟨i, x', y', h1, h2, h3, h4⟩

theorem viewKeys_spec : ∀ {ys xs : List V} {k : Nat}, k ∈ viewKeys ys xs ↔ ∃ (i : Nat) (x y : V), xs[i]? = some x ∧ ys[i]? = some y ∧ linear y = false ∧ k ∈ akeys x := by
  intro ys
  induction ys with
  | nil =>
    intro xs k
    have : viewKeys [] xs = [] := rfl
    rw [this]; simp
  | cons y r ih =>
    intro xs k
    cases xs with
    | nil =>
      have : viewKeys (y :: r) [] = [] := rfl
      rw [this]; simp
    | cons x xr =>
      have : viewKeys (y :: r) (x :: xr) = appR (cond (linear y) [] (akeys x)) (viewKeys r xr) := rfl
      rw [this, appR_eq, List.mem_append, ih]
      constructor
      · rintro (h | ⟨i, x', y', h1, h2, h3, h4⟩)
        · cases hl : linear y with
          | true => rw [hl] at h; cases h
          | false => rw [hl] at h; exact ⟨0, x, y, rfl, rfl, hl, h⟩
        · exact ⟨i + 1, x', y', h1, h2, h3, h4⟩
      · rintro ⟨i, x', y', h1, h2, h3, h4⟩
        cases i with
        | zero => simp at h1 h2; subst h1; subst h2; left; rw [h3]; exact h4
        | succ i => right; exact ⟨i, x', y', h1, h2, h3, h4⟩

/-- what is handed over is what the other side takes it for -/
theorem give_sound (inv : Inv T Φ σ a w G) (hkp : Keep w w G G') {v : Value} {x y : V} {j : Nat} (h : giveVC T σ.ar x y) (hv : Rv w G v x) (hok : x.ok σ.hasB σ.hasA)
    (hlent : linear y = false → ∀ k ∈ akeys x, ∀ b, G.O b = .ar k → G'.O b = .fz) (hgiven : linear y = true → ∀ k ∈ akeys x, ∀ b, G.O b = .ar k → G'.O b = .ar j) : Rb T w G' j v y := by
  have own : ∀ {k ty l}, pureL l → OwnOk T w G k v ty l → (∀ b, G.O b = .ar k → G'.O b = .ar j) → OwnOk T w G' j v ty l := by
    intro k ty l hp hown hg
    rcases hown with h | ⟨b, cap, cur, e1, e2, e3, e4, e5, e6, e7, e8⟩
    · exact .inl h
    · refine .inr ⟨b, cap, cur, e1, hg b e2, e3, e4, e5, e6, e7, e8.keep hkp (p := fun _ => False) (q := fun _ _ => False) ?_ (fun _ h => h.elim) (fun _ _ h => h.elim)⟩
      refine okL_iff.2 fun u hu => ?_
      obtain ⟨i, hi⟩ := List.getElem?_of_mem hu
      exact ok_of_mem_flat hp hi
  unfold giveVC at h
  split at h
  · rename_i e l
    split at h
    · obtain ⟨he, rfl⟩ := h
      exact ⟨he, by simp only [V.okL], .inl ⟨hv.lit_eq, rfl⟩⟩
    · rename_i k g
      split at h
      · rename_i en hen
        obtain ⟨hg, hk, rfl, rfl⟩ := h
        subst hg
        have hok' := inv.arr k en hen
        unfold ArrOk at hok'
        rw [hk] at hok'
        have hp := inv.wfA k en hen
        rw [← hv.arr_eq] at hok'
        exact ⟨hok'.1, hp, own hp hok'.2 (hgiven rfl k (by simp [akeys]))⟩
      · exact h.elim
    · exact h.elim
  · rename_i e l
    split at h
    · obtain ⟨he, rfl⟩ := h
      exact ⟨he, by simp only [V.okL], .inl (.inl ⟨hv.lit_eq, rfl⟩)⟩
    · obtain ⟨he, hz, rfl⟩ := h
      simp only [V.ok] at hok
      exact ⟨he, hok, .inr ⟨hv.pure_keep hkp (by simp only [V.pure, V.ok]; exact hok), hz⟩⟩
    · rename_i k g
      split at h
      · rename_i en hen
        obtain ⟨hg, hk, rfl, rfl⟩ := h
        subst hg
        have hok' := inv.arr k en hen
        have hp := inv.wfA k en hen
        have hgv := hgiven rfl k (by simp [akeys])
        unfold ArrOk at hok'
        rw [← hv.arr_eq] at hok'
        rcases hk with hk | hk
        · rw [hk] at hok'
          exact ⟨hok'.1, hp, .inl (own hp hok'.2 hgv)⟩
        · rw [hk] at hok'
          refine ⟨hok'.1, hp, ?_⟩
          rcases hok'.2 with q | q
          · exact .inl (own hp q hgv)
          · exact .inr ⟨q.1.pure_keep hkp (by simp only [V.pure, V.ok]; exact hp), q.2⟩
      · exact h.elim
    · exact h.elim
  · rename_i ys
    split at h
    · rename_i xs
      obtain ⟨hl, hh⟩ := viewL_spec h
      obtain ⟨cs, e1, e2, e3, e4⟩ := hv.agg_inv
      simp only [V.ok] at hok
      have each : ∀ (i : Nat) c y, cs[i]? = some c → ys[i]? = some y → Rv w G' c y ∧ y.pure := by
        intro i c y hc hy
        have hi : i < xs.length := by rw [hl]; exact (List.getElem?_eq_some_iff.1 hy).1
        have hx := List.getElem?_eq_getElem hi
        exact view_sound inv hkp (hh i _ y hx hy) (e4 i c _ hc hx) (okL_iff.1 hok _ (List.mem_of_getElem? hx)) (fun k hk => hlent rfl k (by rw [akeys_agg]; exact List.mem_flatMap.2 ⟨_, List.mem_of_getElem? hx, hk⟩))
      refine ⟨?_, ?_⟩
      · simp only [V.pure, V.ok]
        refine okL_iff.2 fun y hy => ?_
        obtain ⟨i, hi⟩ := List.getElem?_of_mem hy
        have hic : i < cs.size := by rw [e2, hl]; exact (List.getElem?_eq_some_iff.1 hi).1
        exact (each i cs[i] y (by simp [hic]) hi).2
      · rw [e1]
        exact .agg cs ys (by rw [e2, hl]) e3 (fun i c y hc hy => (each i c y hc hy).1)
    · exact h.elim
  · rename_i h1 h2 h3
    have hlin : linear y = false := by
      cases y <;> simp_all [linear]
    have hkk : ∀ k ∈ akey x, k ∈ akeys x := by
      intro k hk
      cases x <;> simp_all [akey, akeys]
    obtain ⟨q1, q2⟩ := view_sound inv hkp h hv hok (fun k hk => hlent hlin k (hkk k hk))
    unfold Rb
    split
    · exact (h1 _ _ rfl).elim
    · exact (h2 _ _ rfl).elim
    · exact ⟨q2, q1⟩

end
end Go.Ab
namespace Go.Ab
section
variable {T : Tab} {P : Program} {Φ : Fr} {σ : St} {a : Act} {w w' : World} {G G' : Gh} {K : VK} {o : Oper} {d : Nat}

theorem apps_append (σ : St) (ms ns : List Mod) : σ.apps (ms ++ ns) = (σ.apps ms).apps ns := by simp [St.apps, List.foldl_append]
theorem apps_env (σ : St) (ms : List Mod) : (σ.apps ms).env = σ.env := by
  induction ms generalizing σ with
  | nil => rfl
  | cons m r ih =>
    have : σ.apps (m :: r) = (m.app σ).apps r := rfl
    rw [this, ih]
    cases m <;> rfl

/-- a slice that came back is taken over -/
theorem Inv.adopt (inv : Inv T Φ σ a w G) {k gen : Nat} (hno : ∀ g, σ.hasA k g → g < gen) {kd : AK} (hkd : kd = .own ∨ kd = .ap) {u : Value} {e : TypeId} {l : List V} (he : e < T.n e) (hp : pureL l) {Gx : Gh} {j : Nat}
    (hown : OwnOk T w Gx j u e l ∨ (kd = .ap ∧ Rv w Gx u (.cap l) ∧ ∀ x ∈ l, x.cells.length = (T.row e).size)) (hx : Keep w w Gx G) (hpend : ∀ b, Gx.O b = .ar j → G.O b = .ext ∧ Φ.mine b ∧ b < w.heap.size) :
    ∃ G', Inv T Φ (σ.apps [.a k ⟨gen, kd, e, l⟩]) a w G' ∧ G'.av k gen = u ∧ u.oneCell' = true ∧ (∀ b, Gx.O b ≠ .ar j → G'.O b = G.O b) ∧ G'.β = G.β ∧ (∀ k' g, σ.hasA k' g → G'.av k' g = G.av k' g) := by
  let av' : Nat → Nat → Value := fun k' g => if k' = k ∧ g = gen then u else G.av k' g
  have hav : av' k gen = u := by simp [av']
  have hav2 : ∀ k' g, σ.hasA k' g → av' k' g = G.av k' g := fun k' g hg => by
    have : ¬ (k' = k ∧ g = gen) := by rintro ⟨rfl, rfl⟩; exact absurd (hno g hg) (by omega)
    simp [av', this]
  let O' : Nat → Tag := fun b => match Gx.O b with | .ar i => if i = j then .ar k else G.O b | _ => G.O b
  have hO1 : ∀ b, Gx.O b ≠ .ar j → O' b = G.O b := by
    intro b hb
    show (match Gx.O b with | .ar i => if i = j then Tag.ar k else G.O b | _ => G.O b) = _
    cases h : Gx.O b with
    | ar i => have : i ≠ j := by rintro rfl; exact hb h
              simp [this]
    | _ => rfl
  have hO2 : ∀ b, Gx.O b = .ar j → O' b = .ar k := by
    intro b hb
    show (match Gx.O b with | .ar i => if i = j then Tag.ar k else G.O b | _ => G.O b) = _
    rw [hb]; simp
  let G1 : Gh := { G with av := av', O := O' }
  have hkx : Keep w w Gx G1 := ⟨fun b hb => (hO1 b (by rw [hb]; simp)).trans (hx.fz b hb), fun _ _ => rfl⟩
  refine ⟨G1, ?_, hav, ?_, hO1, rfl, hav2⟩
  · refine inv.setArr (w' := w) (k := k) (en := ⟨gen, kd, e, l⟩) (av' := av') (O' := O') (fun g hg => Nat.le_of_lt (hno g hg)) hav2 hp ?_ ?_ ?_ (fun _ _ _ => rfl) (Nat.le_refl _) rfl rfl rfl
    · have hown1 : OwnOk T w Gx j u e l → OwnOk T w G1 k (G1.av k gen) e l := by
        intro h
        have e1 : G1.av k gen = u := hav
        rw [e1]
        rcases h with h | ⟨b, cap, cur, h1, h2, h3, h4, h5, h6, h7, h8⟩
        · exact .inl h
        · refine .inr ⟨b, cap, cur, h1, hO2 b h2, h3, h4, h5, h6, h7, h8.keep hkx (p := fun _ => False) (q := fun _ _ => False) ?_ (fun _ h => h.elim) (fun _ _ h => h.elim)⟩
          refine okL_iff.2 fun y hy => ?_
          obtain ⟨i, hi⟩ := List.getElem?_of_mem hy
          exact ok_of_mem_flat hp hi
      unfold ArrOk
      rcases hown with h | ⟨rfl, h, hz⟩
      · rcases hkd with rfl | rfl
        · exact ⟨he, hown1 h⟩
        · exact ⟨he, .inl (hown1 h)⟩
      · refine ⟨he, .inr ⟨?_, hz⟩⟩
        have e1 : G1.av k gen = u := hav
        show Rv w G1 (G1.av k gen) _
        rw [e1]
        exact h.pure_keep hkx (by simp only [V.pure, V.ok]; exact hp)
    · intro b hb hb2
      by_cases h : Gx.O b = .ar j
      · exact absurd (hpend b h).1 hb
      · exact hO1 b h
    · intro b
      by_cases h : Gx.O b = .ar j
      · exact .inr (.inr (.inl ⟨hO2 b h, (hpend b h).2.1, (hpend b h).2.2⟩))
      · exact .inl (hO1 b h)
  · rcases hown with h | ⟨_, h, _⟩
    · rcases h with ⟨h, _⟩ | ⟨b, cap, cur, h, _⟩ <;> (rw [h]; rfl)
    · rcases h.cap_inv with ⟨h, _⟩ | ⟨ad, sz, cc, h, _⟩ <;> (rw [h]; rfl)

theorem apps_bx_a (σ : St) (ms : List Mod) (h : ∀ m ∈ ms, ∃ k en, m = .a k en) : (σ.apps ms).bx = σ.bx := by
  induction ms generalizing σ with
  | nil => rfl
  | cons m r ih =>
    have : σ.apps (m :: r) = (m.app σ).apps r := rfl
    rw [this, ih _ (fun m hm => h m (by simp [hm]))]
    obtain ⟨k, en, rfl⟩ := h m (by simp)
    rfl

def frzE (en : AE) : AE := match en.kind with | .own => ⟨en.gen, .frz, en.ty, en.l⟩ | .ap => ⟨en.gen, .frz, en.ty, en.l⟩ | _ => en

theorem frz_apps (σ σ' : St) (ks : List Nat) : (∀ k, σ'.ar k = σ.ar k ∨ σ'.ar k = (σ.ar k).map frzE) → ∀ k, (σ'.apps (frzMods σ ks)).ar k = if k ∈ ks then (σ.ar k).map frzE else σ'.ar k := by
  induction ks generalizing σ' with
  | nil => intro _ k; simp [frzMods, St.apps]
  | cons x r ih =>
    intro hrel k
    have hdef : frzMods σ (x :: r) = (match σ.ar x with
      | some en => match en.kind with
        | .own => Mod.a x ⟨en.gen, .frz, en.ty, en.l⟩ :: frzMods σ r
        | .ap => Mod.a x ⟨en.gen, .frz, en.ty, en.l⟩ :: frzMods σ r
        | _ => frzMods σ r
      | none => frzMods σ r) := rfl
    have skip : (σ.ar x).map frzE = σ.ar x → (σ'.apps (frzMods σ r)).ar k = if k ∈ x :: r then (σ.ar k).map frzE else σ'.ar k := by
      intro hx
      rw [ih σ' hrel k]
      by_cases h1 : k ∈ r
      · simp [h1]
      · by_cases h2 : k = x
        · subst h2
          have : σ'.ar k = (σ.ar k).map frzE := by
            rcases hrel k with h | h
            · rw [h, hx]
            · exact h
          simp [h1, this]
        · simp [h1, h2]
    have take : ∀ en, σ.ar x = some en → (σ.ar x).map frzE = some ⟨en.gen, .frz, en.ty, en.l⟩ → (σ'.apps (Mod.a x ⟨en.gen, .frz, en.ty, en.l⟩ :: frzMods σ r)).ar k = if k ∈ x :: r then (σ.ar k).map frzE else σ'.ar k := by
      intro en hen hx
      have h0 : σ'.apps (Mod.a x ⟨en.gen, .frz, en.ty, en.l⟩ :: frzMods σ r) = ((Mod.a x ⟨en.gen, .frz, en.ty, en.l⟩).app σ').apps (frzMods σ r) := rfl
      rw [h0, ih _ (fun k' => ?_) k]
      · by_cases h1 : k ∈ r
        · simp [h1]
        · by_cases h2 : k = x
          · subst h2
            simp only [h1, if_false, List.mem_cons, true_or, if_true]
            show upd σ'.ar k _ k = _
            rw [upd_same, hx]
          · simp only [h1, h2, if_false, List.mem_cons, or_self]
            show upd σ'.ar x _ k = _
            rw [upd_ne _ _ h2]
      · show upd σ'.ar x _ k' = _ ∨ upd σ'.ar x _ k' = _
        by_cases h2 : k' = x
        · subst h2; right; rw [upd_same, hx]
        · rw [upd_ne _ _ h2]; exact hrel k'
    rw [hdef]
    cases hx : σ.ar x with
    | none => simp only; exact skip (by rw [hx]; rfl)
    | some en =>
      simp only
      cases hk : en.kind with
      | own => simp only; exact take en hx (by rw [hx]; simp [frzE, hk])
      | ap => simp only; exact take en hx (by rw [hx]; simp [frzE, hk])
      | frz => simp only; exact skip (by rw [hx]; simp [frzE, hk])
      | dead => simp only; exact skip (by rw [hx]; simp [frzE, hk])

theorem frz_mods (σ : St) (ks : List Nat) : ∀ m ∈ frzMods σ ks, ∃ k en, m = .a k en := by
  induction ks with
  | nil => intro m hm; cases hm
  | cons x r ih =>
    intro m hm
    have hdef : frzMods σ (x :: r) = (match σ.ar x with
      | some en => match en.kind with
        | .own => Mod.a x ⟨en.gen, .frz, en.ty, en.l⟩ :: frzMods σ r
        | .ap => Mod.a x ⟨en.gen, .frz, en.ty, en.l⟩ :: frzMods σ r
        | _ => frzMods σ r
      | none => frzMods σ r) := rfl
    rw [hdef] at hm
    split at hm
    · split at hm
      · rcases List.mem_cons.1 hm with h | h
        · exact ⟨_, _, h⟩
        · exact ih m h
      · rcases List.mem_cons.1 hm with h | h
        · exact ⟨_, _, h⟩
        · exact ih m h
      · exact ih m hm
    · exact ih m hm

theorem recvL_cons (σ0 : St) (d : Nat) (y : V) (r : List V) (j : Nat) (ro : Option (Nat × Nat)) (K : List V → List Mod → Prop) : recvL σ0 d (y :: r) j ro K = (match y with
        | .own e l => match ro with
          | some (k, g) => recvL σ0 d r (j + 1) none fun vs ms => K (.arr k g :: vs) (.a k ⟨g, .own, e, l⟩ :: ms)
          | none => match σ0.ar (d + 1000 * j) with
            | none => recvL σ0 d r (j + 1) none fun vs ms => K (.arr (d + 1000 * j) 0 :: vs) (.a (d + 1000 * j) ⟨0, .own, e, l⟩ :: ms)
            | some _ => False
        | .ap e l => match ro with
          | some (k, g) => recvL σ0 d r (j + 1) none fun vs ms => K (.arr k g :: vs) (.a k ⟨g, .ap, e, l⟩ :: ms)
          | none => match σ0.ar (d + 1000 * j) with
            | none => recvL σ0 d r (j + 1) none fun vs ms => K (.arr (d + 1000 * j) 0 :: vs) (.a (d + 1000 * j) ⟨0, .ap, e, l⟩ :: ms)
            | some _ => False
        | y => force y fun y => recvL σ0 d r (j + 1) ro fun vs ms => K (y :: vs) ms) := rfl

theorem linear_false {y : V} (h1 : ∀ e l, y = .own e l → False) (h2 : ∀ e l, y = .ap e l → False) : linear y = false := by
  cases y with
  | own e l => exact (h1 e l rfl).elim
  | ap e l => exact (h2 e l rfl).elim
  | _ => rfl

/-- the slices among the results are taken over, one behind the other -/
theorem recvL_sound {Gx : Gh} {σ0 : St} : ∀ (rs : List V) (j : Nat) (ro : Option (Nat × Nat)) (σ : St) (G : Gh) (us : List Value) (K : List V → List Mod → Prop),
    Inv T Φ σ a w G → (∀ j', j ≤ j' → σ0.ar (d + 1000 * j') = none → σ.ar (d + 1000 * j') = none) → (∀ k g, ro = some (k, g) → (∀ g', σ.hasA k g' → g' < g) ∧ ∀ j', σ0.ar (d + 1000 * j') = none → k ≠ d + 1000 * j') → us.length = rs.length →
    (∀ (i : Nat) u y, us[i]? = some u → rs[i]? = some y → linear y = true → Rb T w Gx (j + i) u y) → (∀ (i : Nat) u y, us[i]? = some u → rs[i]? = some y → linear y = false → Rv w G u y ∧ y.pure) → ((∃ y ∈ rs, linear y = true) → Keep w w Gx G) →
    (∀ j' b, j ≤ j' → Gx.O b = .ar j' → G.O b = .ext ∧ Φ.mine b ∧ b < w.heap.size) → recvL σ0 d rs j ro K →
    ∃ vs ms G', K vs ms ∧ Inv T Φ (σ.apps ms) a w G' ∧ vs.length = rs.length ∧ (∀ (i : Nat) u v, us[i]? = some u → vs[i]? = some v → Rv w G' u v ∧ v.ok (σ.apps ms).hasB (σ.apps ms).hasA) ∧ G'.β = G.β ∧ (∀ k g, σ.hasA k g → G'.av k g = G.av k g) ∧ (∀ b, G.O b ≠ .ext → G'.O b = G.O b) ∧ (∀ k g, σ.hasA k g → (σ.apps ms).hasA k g) ∧ (σ.apps ms).bx = σ.bx := by
  intro rs
  induction rs with
  | nil =>
    intro j ro σ G us K inv _ _ hl _ _ _ _ h
    have : us = [] := List.eq_nil_of_length_eq_zero (by simpa using hl)
    subst this
    exact ⟨[], [], G, h, inv, rfl, fun i u v hu => by simp at hu, rfl, fun _ _ _ => rfl, fun _ _ => rfl, fun _ _ h => h, rfl⟩
  | cons y r ih =>
    intro j ro σ G us K inv hfresh hro hl hlin hpl hkx hpend h
    cases us with
    | nil => simp at hl
    | cons u ur =>
      have hl' : ur.length = r.length := by simpa using hl
      have hlin' : ∀ (i : Nat) u y, ur[i]? = some u → r[i]? = some y → linear y = true → Rb T w Gx (j + 1 + i) u y := fun i u y hu hy hly => by
        have := hlin (i + 1) u y (by simpa using hu) (by simpa using hy) hly
        rwa [show j + (i + 1) = j + 1 + i by omega] at this
      -- a slice is taken over under the number k, in the state g
      have take : ∀ (k g : Nat) (kd : AK) (e : TypeId) (l : List V), (kd = .own ∨ kd = .ap) → linear y = true → (∀ g', σ.hasA k g' → g' < g) → (∀ j', j + 1 ≤ j' → σ0.ar (d + 1000 * j') = none → k ≠ d + 1000 * j') → e < T.n e → pureL l →
          (OwnOk T w Gx j u e l ∨ (kd = .ap ∧ Rv w Gx u (.cap l) ∧ ∀ x ∈ l, x.cells.length = (T.row e).size)) →
          (recvL σ0 d r (j + 1) none fun vs ms => K (.arr k g :: vs) (.a k ⟨g, kd, e, l⟩ :: ms)) →
          ∃ vs ms G', K vs ms ∧ Inv T Φ (σ.apps ms) a w G' ∧ vs.length = (y :: r).length ∧ (∀ (i : Nat) u' v, (u :: ur)[i]? = some u' → vs[i]? = some v → Rv w G' u' v ∧ v.ok (σ.apps ms).hasB (σ.apps ms).hasA) ∧ G'.β = G.β ∧ (∀ k g, σ.hasA k g → G'.av k g = G.av k g) ∧ (∀ b, G.O b ≠ .ext → G'.O b = G.O b) ∧ (∀ k g, σ.hasA k g → (σ.apps ms).hasA k g) ∧ (σ.apps ms).bx = σ.bx := by
        intro k g kd e l hkd hly hno hne he hp hown hrest
        have hx := hkx ⟨y, by simp, hly⟩
        obtain ⟨G1, inv1, a1, a2, a3, a4, a5⟩ := inv.adopt (k := k) (gen := g) hno hkd he hp hown hx (fun b hb => hpend j b (Nat.le_refl _) hb)
        have hA1 : ∀ k' g', σ.hasA k' g' → (σ.apps [.a k ⟨g, kd, e, l⟩]).hasA k' g' := fun k' g' hh => by
          by_cases e1 : k' = k
          · subst e1; exact ⟨_, upd_same _ _ _, Nat.le_of_lt (hno g' hh)⟩
          · obtain ⟨x, hx, hg⟩ := hh
            exact ⟨x, by show upd σ.ar k _ k' = _; rw [upd_ne _ _ e1]; exact hx, hg⟩
        have hO1 : ∀ b, G.O b ≠ .ext → G1.O b = G.O b := fun b hb => a3 b (fun hb2 => hb (hpend j b (Nat.le_refl _) hb2).1)
        have hkp1 : Keep w w G G1 := ⟨fun b hb => (hO1 b (by rw [hb]; simp)).trans hb, fun _ _ => rfl⟩
        obtain ⟨vs, ms, G', b1, b2, b3, b4, b5, b6, b7, b8, b9⟩ := ih (j + 1) none (σ.apps [.a k ⟨g, kd, e, l⟩]) G1 ur _ inv1
          (fun j' hj' hn => by show upd σ.ar k _ _ = _; rw [upd_ne _ _ (Ne.symm (hne j' hj' hn))]; exact hfresh j' (by omega) hn)
          (fun _ _ h => by cases h) hl' hlin'
          (fun i u y hu hy hly => by
            obtain ⟨q1, q2⟩ := hpl (i + 1) u y (by simpa using hu) (by simpa using hy) hly
            exact ⟨q1.pure_keep hkp1 q2, q2⟩)
          (fun ⟨y', hy', hl'⟩ => ⟨fun b hb => (hkp1.fz b (hx.fz b hb)), fun _ _ => rfl⟩)
          (fun j' b hj' hb => by
            have := hpend j' b (by omega) hb
            refine ⟨?_, this.2⟩
            rw [a3 b (by rw [hb]; intro e; cases e; omega)]
            exact this.1) hrest
        refine ⟨_, _, G', b1, b2, by simp [b3], ?_, b5.trans a4, fun k' g' hh => (b6 k' g' (hA1 k' g' hh)).trans (a5 k' g' hh), fun b hb => ?_, fun k' g' hh => b8 k' g' (hA1 k' g' hh), b9⟩
        · intro i u' v hu hv
          cases i with
          | zero =>
            simp at hu hv
            subst hu; subst hv
            have hA : (σ.apps [.a k ⟨g, kd, e, l⟩]).hasA k g := ⟨_, upd_same _ _ _, Nat.le_refl _⟩
            have e1 : G'.av k g = u := (b6 k g hA).trans a1
            refine ⟨?_, by simp only [V.ok]; exact b8 k g hA⟩
            rw [← e1]
            exact .arr k g (by rw [e1]; exact a2)
          | succ i => exact b4 i u' v (by simpa using hu) (by simpa using hv)
        · have := hO1 b hb
          rw [b7 b (by rw [this]; exact hb)]
          exact this
      have fresh_ne : ∀ j', j + 1 ≤ j' → d + 1000 * j ≠ d + 1000 * j' := fun j' h => by omega
      -- a plain value
      have plain : linear y = false → (recvL σ0 d r (j + 1) ro fun vs ms => K (y :: vs) ms) →
          ∃ vs ms G', K vs ms ∧ Inv T Φ (σ.apps ms) a w G' ∧ vs.length = (y :: r).length ∧ (∀ (i : Nat) u' v, (u :: ur)[i]? = some u' → vs[i]? = some v → Rv w G' u' v ∧ v.ok (σ.apps ms).hasB (σ.apps ms).hasA) ∧ G'.β = G.β ∧ (∀ k g, σ.hasA k g → G'.av k g = G.av k g) ∧ (∀ b, G.O b ≠ .ext → G'.O b = G.O b) ∧ (∀ k g, σ.hasA k g → (σ.apps ms).hasA k g) ∧ (σ.apps ms).bx = σ.bx := by
        intro hly hrest
        obtain ⟨vs, ms, G', b1, b2, b3, b4, b5, b6, b7, b8, b9⟩ := ih (j + 1) ro σ G ur _ inv (fun j' hj' hn => hfresh j' (by omega) hn) hro hl' hlin' (fun i u y hu hy => hpl (i + 1) u y (by simpa using hu) (by simpa using hy)) (fun ⟨y', hy', hq⟩ => hkx ⟨y', by simp [hy'], hq⟩) (fun j' b hj' hb => hpend j' b (by omega) hb) hrest
        refine ⟨_, _, G', b1, b2, by simp [b3], ?_, b5, b6, b7, b8, b9⟩
        intro i u' v hu hv
        cases i with
        | zero =>
          simp at hu hv
          subst hu; subst hv
          obtain ⟨q1, q2⟩ := hpl 0 u y rfl rfl hly
          have hkp : Keep w w G G' := ⟨fun b hb => (b7 b (by rw [hb]; simp)).trans hb, fun _ _ => rfl⟩
          exact ⟨q1.pure_keep hkp q2, V.pure.ok q2 _ _⟩
        | succ i => exact b4 i u' v (by simpa using hu) (by simpa using hv)
      have hrb := hlin 0 u y rfl rfl
      rw [Nat.add_zero] at hrb
      rw [recvL_cons] at h
      split at h
      · rename_i e l
        obtain ⟨q1, q2, q3⟩ := hrb rfl
        split at h
        · rename_i k g
          exact take k g .own e l (.inl rfl) rfl (hro k g rfl).1 (fun j' _ hn => (hro k g rfl).2 j' hn) q1 q2 (.inl q3) h
        · split at h
          · rename_i hn
            exact take _ 0 .own e l (.inl rfl) rfl (no_arr (hfresh j (Nat.le_refl _) hn) 0) (fun j' hj' _ => fresh_ne j' hj') q1 q2 (.inl q3) h
          · exact h.elim
      · rename_i e l
        obtain ⟨q1, q2, q3⟩ := hrb rfl
        have q3' : OwnOk T w Gx j u e l ∨ (AK.ap = .ap ∧ Rv w Gx u (.cap l) ∧ ∀ x ∈ l, x.cells.length = (T.row e).size) := q3.imp id (fun h => ⟨rfl, h⟩)
        split at h
        · rename_i k g
          exact take k g .ap e l (.inr rfl) rfl (hro k g rfl).1 (fun j' _ hn => (hro k g rfl).2 j' hn) q1 q2 q3' h
        · split at h
          · rename_i hn
            exact take _ 0 .ap e l (.inr rfl) rfl (no_arr (hfresh j (Nat.le_refl _) hn) 0) (fun j' hj' _ => fresh_ne j' hj') q1 q2 q3' h
          · exact h.elim
      · rename_i h1 h2
        rw [force_eq] at h
        exact plain (linear_false h1 h2) h

end
end Go.Ab
namespace Go.Ab
section
variable {T : Tab} {P : Program} {Φ : Fr} {σ : St} {a : Act} {w w' : World} {G G' : Gh} {K : VK} {o : Oper} {d : Nat}

theorem nodupR_iff {l : List Nat} : nodupR l = true ↔ l.Nodup := by
  induction l with
  | nil => simp [nodupR]
  | cons x r ih =>
    have : nodupR (x :: r) = cond (memR x r) false (nodupR r) := rfl
    rw [this, List.nodup_cons, ← ih]
    cases h : memR x r with
    | true => simp [memR_iff.1 h]
    | false =>
      have : x ∉ r := fun hm => by rw [memR_iff.2 hm] at h; cases h
      simp [this]

def PosOf (xs ys : List V) (j k : Nat) : Prop := ∃ x y, xs[j]? = some x ∧ ys[j]? = some y ∧ linear y = true ∧ k ∈ akeys x

theorem pos_unique : ∀ {ys xs : List V}, (ownKeys ys xs).Nodup → ∀ {j j' k : Nat}, PosOf xs ys j k → PosOf xs ys j' k → j = j' := by
  intro ys
  induction ys with
  | nil => rintro xs _ j j' k ⟨x, y, _, h, _⟩; simp at h
  | cons y r ih =>
    intro xs hn j j' k h h'
    cases xs with
    | nil => obtain ⟨x, y, h, _⟩ := h; simp at h
    | cons x xr =>
      have hdef : ownKeys (y :: r) (x :: xr) = appR (cond (linear y) (akeys x) []) (ownKeys r xr) := rfl
      rw [hdef, appR_eq, List.nodup_append] at hn
      obtain ⟨_, n2, n3⟩ := hn
      have head : ∀ {j}, PosOf (x :: xr) (y :: r) (j + 1) k → PosOf (x :: xr) (y :: r) 0 k → False := by
        rintro j ⟨x1, y1, a1, a2, a3, a4⟩ ⟨x0, y0, b1, b2, b3, b4⟩
        simp at b1 b2
        subst b1; subst b2
        have m1 : k ∈ ownKeys r xr := ownKeys_spec.2 ⟨j, x1, y1, by simpa using a1, by simpa using a2, a3, a4⟩
        exact n3 k (by rw [b3]; exact b4) k m1 rfl
      cases j with
      | zero =>
        cases j' with
        | zero => rfl
        | succ j' => exact (head h' h).elim
      | succ j =>
        cases j' with
        | zero => exact (head h h').elim
        | succ j' =>
          have : j = j' := ih n2 (by obtain ⟨x1, y1, a1, a2, a3⟩ := h; exact ⟨x1, y1, by simpa using a1, by simpa using a2, a3⟩) (by obtain ⟨x1, y1, a1, a2, a3⟩ := h'; exact ⟨x1, y1, by simpa using a1, by simpa using a2, a3⟩)
          rw [this]

def deadE (en : AE) : AE := ⟨en.gen, .dead, en.ty, []⟩

theorem dead_apps (σ σ' : St) (ks : List Nat) : (∀ k ∈ ks, σ.ar k = none → σ'.ar k = none) → ∀ k, (σ'.apps (deadMods σ ks)).ar k = if k ∈ ks then (σ.ar k).map deadE else σ'.ar k := by
  induction ks generalizing σ' with
  | nil => intro _ k; simp [deadMods, St.apps]
  | cons x r ih =>
    intro hn k
    have hdef : deadMods σ (x :: r) = (match σ.ar x with | some en => Mod.a x ⟨en.gen, .dead, en.ty, []⟩ :: deadMods σ r | none => deadMods σ r) := rfl
    rw [hdef]
    cases hx : σ.ar x with
    | none =>
      simp only
      rw [ih σ' (fun k hk => hn k (by simp [hk])) k]
      by_cases h1 : k ∈ r
      · simp [h1]
      · by_cases h2 : k = x
        · subst h2; simp [h1, hx, hn k (by simp) hx]
        · simp [h1, h2]
    | some en =>
      simp only
      have h0 : σ'.apps (Mod.a x ⟨en.gen, .dead, en.ty, []⟩ :: deadMods σ r) = ((Mod.a x ⟨en.gen, .dead, en.ty, []⟩).app σ').apps (deadMods σ r) := rfl
      rw [h0, ih _ (fun k' hk' hn' => ?_) k]
      · by_cases h1 : k ∈ r
        · simp [h1]
        · by_cases h2 : k = x
          · subst h2
            simp only [h1, if_false, List.mem_cons, true_or, if_true]
            show upd σ'.ar k _ k = _
            rw [upd_same, hx]; rfl
          · simp only [h1, h2, if_false, List.mem_cons, or_self]
            show upd σ'.ar x _ k = _
            rw [upd_ne _ _ h2]
      · show upd σ'.ar x _ k' = _
        have : k' ≠ x := by rintro rfl; rw [hx] at hn'; cases hn'
        rw [upd_ne _ _ this]
        exact hn k' (by simp [hk']) hn'
theorem dead_mods (σ : St) (ks : List Nat) : ∀ m ∈ deadMods σ ks, ∃ k en, m = .a k en := by
  induction ks with
  | nil => intro m hm; cases hm
  | cons x r ih =>
    intro m hm
    have hdef : deadMods σ (x :: r) = (match σ.ar x with | some en => Mod.a x ⟨en.gen, .dead, en.ty, []⟩ :: deadMods σ r | none => deadMods σ r) := rfl
    rw [hdef] at hm
    split at hm
    · rcases List.mem_cons.1 hm with h | h
      · exact ⟨_, _, h⟩
      · exact ih m h
    · exact ih m hm

theorem flatA_rv {v : Value} {y : V} (hf : flatA y = true) (h : Rv w G v y) : Rv w G' v y := by
  cases y with
  | lit u => rw [h.lit_eq]; exact .lit u h.lit_one
  | agg cs =>
    have hf' : allR flat1 cs = true := hf
    rw [allR_iff] at hf'
    obtain ⟨vs, e1, e2, e3, e4⟩ := h.agg_inv
    rw [e1]
    refine .agg vs cs e2 e3 fun i c x hc hx => ?_
    have := hf' x (List.mem_of_getElem? hx)
    cases x with
    | lit u => have := e4 i c _ hc hx; rw [this.lit_eq]; exact .lit u this.lit_one
    | _ => simp [flat1] at this
  | _ => simp [flatA] at hf

theorem reuse_spec {ks : List Nat} {k g : Nat} (h : reuse σ ks = some (k, g)) : ∃ en, σ.ar k = some en ∧ g = en.gen + 1 := by
  unfold reuse at h
  split at h
  · split at h
    · rename_i en hen
      cases h
      exact ⟨en, hen, rfl⟩
    · cases h
  · cases h
theorem flatA_linear {y : V} (h : flatA y = true) : linear y = false := by cases y <;> first | rfl | (simp [flatA] at h)
theorem flatV_flatA {y : V} (h : flatV y = true) (hn : ∀ rs, y = .tup rs → False) : flatA y = true := by
  cases y with
  | tup rs => exact (hn rs rfl).elim
  | lit u => rfl
  | agg cs => exact h
  | _ => simp [flatV] at h

set_option maxHeartbeats 800000 in
/-- A CALL: the world behind it, the results not yet taken over -/
theorem call_core (inv : Inv T Φ σ a w G) {light lend : Bool} {f : FuncId} {us : List Value} {xs : List V} (hul : us.length = xs.length) (hrel : ∀ (i : Nat) v x, us[i]? = some v → xs[i]? = some x → Rv w G v x ∧ x.ok σ.hasB σ.hasA) {ys : List V} {r : V} {X : Array Value → World → Gh → Prop} (hgive : giveL T σ.ar ys xs) (hcok : callOk light lend xs ys r = true)
    (hspec : SpecX T P f ys r X) :
    Calls P f us.toArray w fun e w1 => ∃ v G1 G2, e = .returned v ∧ (Rr T w1 G1 v r ∧ X us.toArray w1 G1) ∧ Inv T Φ (σ.apps (cond lend [] (frzMods σ (viewKeys ys xs)) ++ deadMods σ (ownKeys ys xs))) a w1 G2 ∧
      (∀ j' b, G1.O b = .ar j' → G2.O b = .ext ∧ Φ.mine b ∧ b < w1.heap.size) ∧ (lend = false → Keep w1 w1 G1 G2) ∧
      (∀ k, (σ.apps (cond lend [] (frzMods σ (viewKeys ys xs)) ++ deadMods σ (ownKeys ys xs))).ar k = if k ∈ ownKeys ys xs then (σ.ar k).map deadE else if lend = false ∧ k ∈ viewKeys ys xs then (σ.ar k).map frzE else σ.ar k) ∧
      (∀ k en, σ.ar k = some en → ∃ en2, (σ.apps (cond lend [] (frzMods σ (viewKeys ys xs)) ++ deadMods σ (ownKeys ys xs))).ar k = some en2 ∧ en2.gen = en.gen) ∧ G2.av = G.av := by
  obtain ⟨hcall, hspec⟩ := hspec
  obtain ⟨hlen, hg⟩ := giveL_spec hgive
  simp only [callOk, keysOk, Bool.and_eq_true] at hcok
  obtain ⟨⟨⟨⟨hnd, hdisj⟩, hle⟩, hflat⟩, _⟩ := hcok
  have hnd := nodupR_iff.1 hnd
  have hdisj : ∀ k ∈ ownKeys ys xs, k ∉ viewKeys ys xs := fun k hk hm => by
    have := allR_iff.1 hdisj k hk
    rw [memR_iff.2 hm] at this; simp at this
  generalize hok : ownKeys ys xs = ok at *
  generalize hvk : viewKeys ys xs = vk at *
  have hlen1 : ok.length ≤ 1 := by rw [lenR_eq] at hle; simpa using hle
  -- the tags as the callee sees them
  let pos : Nat → Nat := fun k => @dite _ (∃ j, PosOf xs ys j k) (Classical.propDecidable _) (fun h => h.choose) (fun _ => 0)
  have hpos : ∀ {j k}, PosOf xs ys j k → pos k = j := by
    intro j k hp
    have hex : ∃ j, PosOf xs ys j k := ⟨j, hp⟩
    have : pos k = hex.choose := by simp only [pos]; rw [dif_pos hex]
    rw [this]
    exact pos_unique (by rw [hok]; exact hnd) hex.choose_spec hp
  let Gc : Gh := { G with O := fun b => match G.O b with | .fz => .fz | .ar k => if k ∈ vk then .fz else if k ∈ ok then .ar (pos k) else .ext | _ => .ext }
  have c_fz : ∀ b, G.O b = .fz → Gc.O b = .fz := fun b hb => by simp only [Gc]; rw [hb]
  have c_bx : ∀ b i, G.O b = .bx i → Gc.O b = .ext := fun b i hb => by simp only [Gc]; rw [hb]
  have c_ext : ∀ b, G.O b = .ext → Gc.O b = .ext := fun b hb => by simp only [Gc]; rw [hb]
  have c_vk : ∀ b k, G.O b = .ar k → k ∈ vk → Gc.O b = .fz := fun b k hb hk => by simp only [Gc]; rw [hb]; simp [hk]
  have c_ok : ∀ b k, G.O b = .ar k → k ∈ ok → Gc.O b = .ar (pos k) := fun b k hb hk => by
    simp only [Gc]; rw [hb]
    have : k ∉ vk := hdisj k hk
    simp [hk, this]
  have c_no : ∀ b k, G.O b = .ar k → k ∉ vk → k ∉ ok → Gc.O b = .ext := fun b k hb h1 h2 => by simp only [Gc]; rw [hb]; simp [h1, h2]
  have c_inv : ∀ b, Gc.O b = .fz → G.O b = .fz ∨ ∃ k ∈ vk, G.O b = .ar k := by
    intro b hb
    cases hO : G.O b with
    | ext => rw [c_ext b hO] at hb; cases hb
    | fz => exact .inl rfl
    | bx i => rw [c_bx b i hO] at hb; cases hb
    | ar k =>
      by_cases h1 : k ∈ vk
      · exact .inr ⟨k, h1, rfl⟩
      · by_cases h2 : k ∈ ok
        · rw [c_ok b k hO h2] at hb; cases hb
        · rw [c_no b k hO h1 h2] at hb; cases hb
  have c_ar : ∀ b j, Gc.O b = .ar j → ∃ k ∈ ok, G.O b = .ar k := by
    intro b j hb
    cases hO : G.O b with
    | ext => rw [c_ext b hO] at hb; cases hb
    | fz => rw [c_fz b hO] at hb; cases hb
    | bx i => rw [c_bx b i hO] at hb; cases hb
    | ar k =>
      by_cases h1 : k ∈ vk
      · rw [c_vk b k hO h1] at hb; cases hb
      · by_cases h2 : k ∈ ok
        · exact ⟨k, h2, rfl⟩
        · rw [c_no b k hO h1 h2] at hb; cases hb
  have hkc : Keep w w G Gc := ⟨c_fz, fun _ _ => rfl⟩
  have htagc : ∀ b, Gc.O b ≠ .ext → b < w.heap.size := fun b hb => inv.tag b (fun hO => hb (c_ext b hO))
  have hbxc : ∀ b i, Gc.O b ≠ .bx i := fun b i hb => by
    cases hO : G.O b with
    | ext => rw [c_ext b hO] at hb; cases hb
    | fz => rw [c_fz b hO] at hb; cases hb
    | bx j => rw [c_bx b j hO] at hb; cases hb
    | ar k =>
      by_cases h1 : k ∈ vk
      · rw [c_vk b k hO h1] at hb; cases hb
      · by_cases h2 : k ∈ ok
        · rw [c_ok b k hO h2] at hb; cases hb
        · rw [c_no b k hO h1 h2] at hb; cases hb
  have hargs : ∀ (j : Nat) v y, us.toArray[j]? = some v → ys[j]? = some y → Rb T w Gc j v y := by
    intro j v y hv hy
    have hj : j < xs.length := by rw [hlen]; exact (List.getElem?_eq_some_iff.1 hy).1
    have hx : xs[j]? = some xs[j] := List.getElem?_eq_getElem hj
    obtain ⟨e1, e2⟩ := hrel j v _ (by simpa using hv) hx
    refine give_sound inv hkc (hg j _ y hx hy) e1 e2 (fun hl k hk b hb => ?_) (fun hl k hk b hb => ?_)
    · exact c_vk b k hb (by rw [← hvk]; exact viewKeys_spec.2 ⟨j, _, y, hx, hy, hl, hk⟩)
    · have hkok : k ∈ ok := by rw [← hok]; exact ownKeys_spec.2 ⟨j, _, y, hx, hy, hl, hk⟩
      rw [c_ok b k hb hkok]
      rw [hpos ⟨_, y, hx, hy, hl, hk⟩]
  have hlay : T.lay w (fun b => Gc.O b = .fz) := T.lay_mono (fun b hb => ⟨c_fz b (inv.F0 b hb), inv.frame b (inv.lay.2 b hb).1 (inv.lay.2 b hb).2⟩) inv.lay.1
  refine (hspec w Gc us.toArray (by rw [← hlen, ← hul]; simp) htagc hbxc hargs hlay).mono ?_
  rintro e w1 ⟨v, G1, rfl, hres, r1, r2, r3, r4, r5, r6, r7, r8, r9⟩
  -- the world behind the call
  have hlt : ∀ b, G.O b ≠ .ext → b < w.heap.size := inv.tag
  have same : ∀ b, b < w.heap.size → (∀ k, G.O b = .ar k → k ∉ ok) → w1.heap[b]? = w.heap[b]? := fun b hb hh => r5 b hb (fun j hj => by
    obtain ⟨k, h1, h2⟩ := c_ar b j hj
    exact hh k h2 h1)
  have g1_old : ∀ b, b < w.heap.size → Gc.O b = .ext → G1.O b = .ext := by
    intro b hb hc
    cases hO : G1.O b with
    | ext => rfl
    | _ =>
      exfalso
      rcases r4 b (by rw [hO]; simp) with ⟨h1, _⟩ | h1 | ⟨j, h1⟩
      · rw [hc] at h1; cases h1
      · omega
      · rw [hc] at h1; cases h1
  let lent : Nat → Prop := fun b => lend = true ∧ ∃ k ∈ vk, G.O b = .ar k
  let G2 : Gh := { G with O := fun b => @ite _ (G1.O b = .fz ∧ ¬ lent b) (Classical.propDecidable _) .fz (match G.O b with | .bx i => .bx i | .ar k => if k ∈ ok then .ext else .ar k | _ => .ext) }
  have d_fz : ∀ b, G1.O b = .fz → ¬ lent b → G2.O b = .fz := fun b h1 h2 => by simp only [G2]; rw [if_pos ⟨h1, h2⟩]
  have d_else : ∀ b, ¬ (G1.O b = .fz ∧ ¬ lent b) → G2.O b = (match G.O b with | .bx i => .bx i | .ar k => if k ∈ ok then .ext else .ar k | _ => .ext) := fun b h => by simp only [G2]; rw [if_neg h]
  have d_Gfz : ∀ b, G.O b = .fz → G2.O b = .fz := fun b hb => d_fz b (r1 b (c_fz b hb)) (by rintro ⟨_, k, _, h2⟩; rw [hb] at h2; cases h2)
  have d_bx : ∀ b i, G.O b = .bx i → G2.O b = .bx i := fun b i hb => by
    have hne : ¬ (G1.O b = .fz ∧ ¬ lent b) := by rintro ⟨h1, _⟩; rw [g1_old b (hlt b (by rw [hb]; simp)) (c_bx b i hb)] at h1; cases h1
    rw [d_else b hne, hb]
  have d_ar : ∀ b k, G.O b = .ar k → k ∉ ok → (lend = true ∨ k ∉ vk) → G2.O b = .ar k := fun b k hb h1 h2 => by
    have hne : ¬ (G1.O b = .fz ∧ ¬ lent b) := by
      rintro ⟨q1, q2⟩
      by_cases hv : k ∈ vk
      · rcases h2 with h2 | h2
        · exact q2 ⟨h2, k, hv, hb⟩
        · exact h2 hv
      · rw [g1_old b (hlt b (by rw [hb]; simp)) (c_no b k hb hv h1)] at q1; cases q1
    rw [d_else b hne, hb]; simp [h1]
  have hkeep : Keep w w1 G G2 := ⟨d_Gfz, fun b hb => same b (hlt b (by rw [hb]; simp)) (fun k hk => by rw [hb] at hk; cases hk)⟩
  -- the state without the results
  let fm : List Mod := cond lend [] (frzMods σ vk)
  let dm : List Mod := deadMods σ ok
  have hmA : ∀ m ∈ fm ++ dm, ∃ k en, m = .a k en := by
    intro m hm
    rcases List.mem_append.1 hm with hm | hm
    · cases hl : lend with
      | true => simp only [fm, hl, cond_true] at hm; cases hm
      | false => simp only [fm, hl, cond_false] at hm; exact frz_mods σ vk m hm
    · exact dead_mods σ ok m hm
  have hbx2 : (σ.apps (fm ++ dm)).bx = σ.bx := apps_bx_a σ _ hmA
  have har1 : ∀ k, (σ.apps fm).ar k = if lend = false ∧ k ∈ vk then (σ.ar k).map frzE else σ.ar k := by
    intro k
    cases hl : lend with
    | true => simp only [fm, hl, cond_true]; simp [St.apps]
    | false =>
      simp only [fm, hl, cond_false]
      rw [frz_apps σ σ vk (fun _ => .inl rfl) k]
      simp
  have har2 : ∀ k, (σ.apps (fm ++ dm)).ar k = if k ∈ ok then (σ.ar k).map deadE else if lend = false ∧ k ∈ vk then (σ.ar k).map frzE else σ.ar k := by
    intro k
    rw [apps_append, dead_apps σ (σ.apps fm) ok (fun k' hk' hn => by rw [har1, hn]; simp) k, har1]
  have hgen : ∀ k en, σ.ar k = some en → ∃ en2, (σ.apps (fm ++ dm)).ar k = some en2 ∧ en2.gen = en.gen := by
    intro k en hen
    rw [har2, hen]
    split
    · exact ⟨_, rfl, rfl⟩
    · split
      · refine ⟨_, rfl, ?_⟩
        unfold frzE; split <;> rfl
      · exact ⟨_, rfl, rfl⟩
  have hA2 : ∀ k g, σ.hasA k g → (σ.apps (fm ++ dm)).hasA k g := fun k g ⟨en, h1, h2⟩ => by
    obtain ⟨en2, q1, q2⟩ := hgen k en h1
    exact ⟨en2, q1, by omega⟩
  have inv2 : Inv T Φ (σ.apps (fm ++ dm)) a w1 G2 := by
    refine inv.change (apps_env σ _) hkeep (fun _ _ => rfl) (fun _ _ _ => rfl) (fun i hi => by obtain ⟨x, hx⟩ := hi; exact ⟨x, by rw [hbx2]; exact hx⟩) hA2 ?_ ?_ ?_ ?_ ?_ r6 r7 r8 r9
    · intro i cs hi
      rw [hbx2] at hi
      obtain ⟨c, t, q1, q2, q3⟩ := inv.box i cs hi
      exact .inl ⟨hi, d_bx _ i q3, same _ (hlt _ (by rw [q3]; simp)) (fun k hk => by rw [q3] at hk; cases hk)⟩
    · intro k en hen
      rw [har2] at hen
      by_cases hk1 : k ∈ ok
      · rw [if_pos hk1] at hen
        cases hs : σ.ar k with
        | none => rw [hs] at hen; cases hen
        | some en0 =>
          rw [hs] at hen
          simp at hen
          subst hen
          exact .inr ⟨trivial, by simp only [deadE, V.okL]⟩
      · rw [if_neg hk1] at hen
        by_cases hk2 : lend = false ∧ k ∈ vk
        · rw [if_pos hk2] at hen
          cases hs : σ.ar k with
          | none => rw [hs] at hen; cases hen
          | some en0 =>
            rw [hs] at hen
            simp at hen
            have hp := inv.wfA k en0 hs
            have hokk := inv.arr k en0 hs
            have hfzb : ∀ b, G.O b = .ar k → G2.O b = .fz := fun b hb => d_fz b (r1 b (c_vk b k hb hk2.2)) (by rintro ⟨h1, _⟩; rw [hk2.1] at h1; cases h1)
            have own : ∀ {ty}, OwnOk T w G k (G.av k en0.gen) ty en0.l → Rv w1 G2 (G.av k en0.gen) (.sl en0.l) := by
              intro ty hown
              rcases hown with ⟨e1, e2⟩ | ⟨b, cap, cur, e1, e2, e3, e4, e5, e6, e7, e8⟩
              · rw [e1, e2]; exact .slN
              · obtain ⟨cc, q1, q2⟩ := (e8.here e3).out
                rw [e1]
                refine .slS _ cap en0.l _ cc e4 e5 (fun _ => hfzb b e2) e7 (fun j y hy => ?_) (fun j y hy => (q2 j y hy).pure_keep hkeep (ok_of_mem_flat hp hy))
                refine ⟨?_, (q1 j y hy).2⟩
                rw [← (q1 j y hy).1]
                exact World.cell?_of_block (by rw [add_block]; exact same b (hlt b (by rw [e2]; simp)) (fun k' hk' => by rw [e2] at hk'; cases hk'; exact hk1))
            have slr : Rv w G (G.av k en0.gen) (.sl en0.l) → Rv w1 G2 (G.av k en0.gen) (.sl en0.l) := fun h => h.pure_keep hkeep (by simp only [V.pure, V.ok]; exact hp)
            subst hen
            unfold ArrOk at hokk
            unfold frzE
            cases hkd : en0.kind with
            | own => rw [hkd] at hokk; exact .inr ⟨own hokk.2, hp⟩
            | ap =>
              rw [hkd] at hokk
              refine .inr ⟨?_, hp⟩
              rcases hokk.2 with q | q
              · exact own q
              · exact slr q.1.cap_sl
            | frz =>
              rw [hkd] at hokk
              refine .inr ⟨?_, hp⟩
              simp only
              unfold ArrOk
              rw [hkd]
              exact slr hokk
            | dead =>
              refine .inr ⟨?_, hp⟩
              simp only
              unfold ArrOk
              rw [hkd]
              trivial
        · rw [if_neg hk2] at hen
          refine .inl ⟨hen, fun b hb => ⟨d_ar b k hb hk1 ?_, same b (hlt b (by rw [hb]; simp)) (fun k' hk' => by rw [hb] at hk'; cases hk'; exact hk1)⟩⟩
          cases hl : lend with
          | true => exact .inl rfl
          | false => exact .inr (fun hv => hk2 ⟨hl, hv⟩)
    · intro b hb
      by_cases hc : G1.O b = .fz ∧ ¬ lent b
      · exact r2 b (by rw [hc.1]; simp)
      · rw [d_else b hc] at hb
        have : G.O b ≠ .ext := by intro hO; rw [hO] at hb; exact hb rfl
        have := hlt b this
        omega
    · intro b
      by_cases hc : G1.O b = .fz ∧ ¬ lent b
      · rcases r4 b (by rw [hc.1]; simp) with ⟨h1, _⟩ | h1 | ⟨j, h1⟩
        · rcases c_inv b h1 with h2 | ⟨k, h2, h3⟩
          · exact .inl (by rw [d_fz b hc.1 hc.2, h2])
          · exact .inr (.inr (inv.mineA b k h3))
        · exact .inr (.inr (.inl (Nat.le_trans inv.size h1)))
        · obtain ⟨k, _, h3⟩ := c_ar b j h1
          exact .inr (.inr (inv.mineA b k h3))
      · rw [d_else b hc]
        cases hO : G.O b with
        | ext => exact .inl rfl
        | fz => exact .inr (.inl rfl)
        | bx i => exact .inl rfl
        | ar k =>
          by_cases h1 : k ∈ ok
          · exact .inr (.inl (by simp [h1]))
          · exact .inl (by simp [h1])
    · intro b
      rcases Nat.lt_or_ge b w.heap.size with hb | hb
      · by_cases hh : ∃ k ∈ ok, G.O b = .ar k
        · obtain ⟨k, _, h2⟩ := hh
          exact .inr (inv.mineA b k h2)
        · exact .inl (same b hb (fun k hk hm => hh ⟨k, hm, hk⟩))
      · exact .inr (.inl (Nat.le_trans inv.size hb))
  have hpend : ∀ j' b, G1.O b = .ar j' → G2.O b = .ext ∧ Φ.mine b ∧ b < w1.heap.size := by
    intro j' b hb
    have hne : ¬ (G1.O b = .fz ∧ ¬ lent b) := by rintro ⟨h1, _⟩; rw [hb] at h1; cases h1
    have hsz := r2 b (by rw [hb]; simp)
    rcases r4 b (by rw [hb]; simp) with ⟨_, h1⟩ | h1 | ⟨j, h1⟩
    · rw [hb] at h1; cases h1
    · have hO := inv.ext_size h1
      exact ⟨by rw [d_else b hne, hO], .inl (Nat.le_trans inv.size h1), hsz⟩
    · obtain ⟨k, h2, h3⟩ := c_ar b j h1
      exact ⟨by rw [d_else b hne, h3]; simp [h2], inv.mineA b k h3, hsz⟩
  have hkx : lend = false → Keep w1 w1 G1 G2 := fun hl => ⟨fun b hb => d_fz b hb (by rintro ⟨h1, _⟩; rw [hl] at h1; cases h1), fun _ _ => rfl⟩
  exact ⟨v, G1, G2, rfl, hres, inv2, hpend, hkx, har2, hgen, rfl⟩

set_option maxHeartbeats 800000 in
/-- A CALL: by the contract of the function -/
theorem call_old (inv : Inv T Φ σ a w G) {light lend : Bool} {f : FuncId} {us : List Value} {xs : List V} (hul : us.length = xs.length) (hrel : ∀ (i : Nat) v x, us[i]? = some v → xs[i]? = some x → Rv w G v x ∧ x.ok σ.hasB σ.hasA) {ys : List V} {r : V} (hgive : giveL T σ.ar ys xs) (hcok : callOk light lend xs ys r = true) (hspec : Spec T P f ys r)
    (hrecv : recvK σ d (reuse σ (ownKeys ys xs)) r fun v ms => K v (appR (cond lend [] (frzMods σ (viewKeys ys xs))) (appR (deadMods σ (ownKeys ys xs)) ms))) :
    Calls P f us.toArray w fun e w' => ∃ v', e = .returned v' ∧ ∃ v ms G', K v ms ∧ Inv T Φ (σ.apps ms) a w' G' ∧ Rv w' G' v' v ∧ v.ok (σ.apps ms).hasB (σ.apps ms).hasA := by
  refine (call_core inv hul hrel hgive hcok hspec.x).mono ?_
  rintro e w1 ⟨v, G1, G2, rfl, ⟨hres, _⟩, inv2, hpend, hkx, har2, hgen, hav⟩
  refine ⟨v, rfl, ?_⟩
  simp only [callOk, keysOk, Bool.and_eq_true] at hcok
  obtain ⟨⟨⟨⟨hnd, hdisj⟩, hle⟩, hflat⟩, _⟩ := hcok
  generalize hok : ownKeys ys xs = ok at *
  generalize hvk : viewKeys ys xs = vk at *
  let fm : List Mod := cond lend [] (frzMods σ vk)
  let dm : List Mod := deadMods σ ok
  have hfresh : ∀ j', 0 ≤ j' → σ.ar (d + 1000 * j') = none → (σ.apps (fm ++ dm)).ar (d + 1000 * j') = none := fun j' _ hn => by rw [har2, hn]; simp
  have hro : ∀ k g, reuse σ ok = some (k, g) → (∀ g', (σ.apps (fm ++ dm)).hasA k g' → g' < g) ∧ ∀ j', σ.ar (d + 1000 * j') = none → k ≠ d + 1000 * j' := by
    intro k g hre
    obtain ⟨en, hen, rfl⟩ := reuse_spec hre
    refine ⟨fun g' ⟨en2, q1, q2⟩ => ?_, fun j' hn e => by rw [← e, hen] at hn; cases hn⟩
    obtain ⟨en3, q3, q4⟩ := hgen k en hen
    rw [q3] at q1
    cases q1
    omega
  have hms : ∀ ms, σ.apps (appR (cond lend [] (frzMods σ vk)) (appR (deadMods σ ok) ms)) = (σ.apps (fm ++ dm)).apps ms := fun ms => by
    rw [appR_eq, appR_eq, ← List.append_assoc, apps_append]
  -- one value or several
  have common : ∀ (rs : List V) (us : List Value), us.length = rs.length → (∀ (i : Nat) u y, us[i]? = some u → rs[i]? = some y → Rb T w1 G1 i u y) → (lend = true → ∀ y ∈ rs, flatA y = true) → ∀ (K' : List V → List Mod → Prop), recvL σ d rs 0 (reuse σ ok) K' →
      ∃ vs ms G', K' vs ms ∧ Inv T Φ ((σ.apps (fm ++ dm)).apps ms) a w1 G' ∧ vs.length = rs.length ∧ (∀ (i : Nat) u v, us[i]? = some u → vs[i]? = some v → Rv w1 G' u v ∧ v.ok ((σ.apps (fm ++ dm)).apps ms).hasB ((σ.apps (fm ++ dm)).apps ms).hasA) := by
    intro rs us hul hrb hfl K' hrec
    obtain ⟨vs, ms, G', b1, b2, b3, b4, _⟩ := recvL_sound (Gx := G1) (σ0 := σ) rs 0 (reuse σ ok) (σ.apps (fm ++ dm)) G2 us K' inv2 hfresh hro hul
      (fun i u y hu hy _ => by rw [Nat.zero_add]; exact hrb i u y hu hy)
      (fun i u y hu hy hl => by
        have hb := hrb i u y hu hy
        have hb' : y.pure ∧ Rv w1 G1 u y := by
          unfold Rb at hb
          split at hb
          · simp [linear] at hl
          · simp [linear] at hl
          · exact hb
        refine ⟨?_, hb'.1⟩
        cases hle2 : lend with
        | true => exact flatA_rv (hfl hle2 y (List.mem_of_getElem? hy)) hb'.2
        | false => exact hb'.2.pure_keep (hkx hle2) hb'.1)
      (fun ⟨y, hy, hl⟩ => by
        cases hle2 : lend with
        | true => rw [flatA_linear (hfl hle2 y hy)] at hl; cases hl
        | false => exact hkx hle2)
      (fun j' b _ hb => hpend j' b hb) hrec
    exact ⟨vs, ms, G', b1, b2, b3, b4⟩
  unfold recvK at hrecv
  split at hrecv
  · rename_i rs
    obtain ⟨vs', e1, e2, e3⟩ : ∃ vs : Array Value, v = .tuple vs ∧ vs.size = rs.length ∧ ∀ (j : Nat) u y, vs[j]? = some u → rs[j]? = some y → Rb T w1 G1 j u y := hres
    obtain ⟨vs, ms, G', b1, b2, b3, b4⟩ := common rs vs'.toList (by simpa using e2) (fun i u y hu hy => e3 i u y (by simpa using hu) hy)
      (fun hl y hy => by rw [hl] at hflat; exact allR_iff.1 (hflat : allR flatA rs = true) y hy) _ hrecv
    refine ⟨.tup vs, _, G', b1, by rw [hms]; exact b2, ?_, ?_⟩
    · rw [e1]
      refine .tup vs' vs (by rw [e2, b3]) fun i c x hc hx => (b4 i c x (by simpa using hc) hx).1
    · rw [hms]
      simp only [V.ok]
      refine okL_iff.2 fun x hx => ?_
      obtain ⟨i, hi⟩ := List.getElem?_of_mem hx
      have hlt2 : i < vs'.toList.length := by rw [Array.length_toList, e2, ← b3]; exact (List.getElem?_eq_some_iff.1 hi).1
      exact (b4 i _ x (List.getElem?_eq_getElem hlt2) hi).2
  · rename_i hnt
    have hres' : Rb T w1 G1 0 v r := by
      unfold Rr at hres
      split at hres
      · exact (hnt _ rfl).elim
      · exact hres
    obtain ⟨vs, ms, G', b1, b2, b3, b4⟩ := common [r] [v] rfl (fun i u y hu hy => by
        cases i with
        | zero => simp at hu hy; subst hu; subst hy; exact hres'
        | succ i => simp at hu)
      (fun hl y hy => by
        simp at hy; subst hy
        rw [hl] at hflat
        have hf : flatV y = true := hflat
        exact flatV_flatA hf hnt) _ hrecv
    match vs, b3 with
    | [x], _ =>
      obtain ⟨q1, q2⟩ := b4 0 v x rfl rfl
      exact ⟨x, _, G', b1, by rw [hms]; exact b2, q1, by rw [hms]; exact q2⟩

set_option maxHeartbeats 800000 in
/-- A CALL that changes a slice in place -/
theorem call_io (inv : Inv T Φ σ a w G) {f : FuncId} {us : List Value} {xs : List V} (hul : us.length = xs.length) (hrel : ∀ (i : Nat) v x, us[i]? = some v → xs[i]? = some x → Rv w G v x ∧ x.ok σ.hasB σ.hasA) {ys : List V} {r : V} {j k g : Nat} {e : TypeId} {l l' : List V} (hgive : giveL T σ.ar ys xs) (hcok : callOk false false xs ys r = true) (hspec : SpecIO T P f ys r j e l')
    (hy : ys[j]? = some (.own e l)) (hx : xs[j]? = some (.arr k g)) (hfl : flatV r = true)
    (hk : K r (appR (frzMods σ (viewKeys ys xs)) (appR (deadMods σ (ownKeys ys xs)) [.a k ⟨g, .own, e, l'⟩]))) :
    Calls P f us.toArray w fun e w' => ∃ v', e = .returned v' ∧ ∃ v ms G', K v ms ∧ Inv T Φ (σ.apps ms) a w' G' ∧ Rv w' G' v' v ∧ v.ok (σ.apps ms).hasB (σ.apps ms).hasA := by
  refine (call_core (lend := false) inv hul hrel hgive hcok hspec).mono ?_
  obtain ⟨hlen, hg⟩ := giveL_spec hgive
  have hgv := hg j _ _ hx hy
  have hj : j < us.length := by rw [hul]; exact (List.getElem?_eq_some_iff.1 hx).1
  have hgiv : ∃ en, σ.ar k = some en ∧ en.gen = g ∧ en.kind = .own ∧ en.ty = e ∧ en.l = l := by
    have h' : (match σ.ar k with
      | some en => en.gen = g ∧ en.kind = .own ∧ en.ty = e ∧ en.l = l
      | none => False) := hgv
    cases hk' : σ.ar k with
    | none => rw [hk'] at h'; exact h'.elim
    | some en => rw [hk'] at h'; exact ⟨en, rfl, h'⟩
  obtain ⟨en, hen, hgen0, hkind, hty, hl0⟩ := hgiv
  have harg : us.toArray.getD j undef = G.av k g := by
    have h1 := (hrel j us[j] _ (List.getElem?_eq_getElem hj) hx).1
    have h3 : us.toArray.getD j undef = us[j] := by simp [hj]
    rw [h3, h1.arr_eq]
  have he : e < T.n e := by
    have h1 := inv.arr k en hen
    unfold ArrOk at h1
    rw [hkind] at h1
    rw [← hty]; exact h1.1
  have hko : k ∈ ownKeys ys xs := ownKeys_spec.2 ⟨j, _, _, hx, hy, rfl, by simp [akeys]⟩
  rintro ex w1 ⟨v, G1, G2, rfl, ⟨hres, hpl, tg, hio⟩, inv2, hpend, hkx, har2, hgen, hav⟩
  have hkp := hkx rfl
  rw [harg] at hio
  simp only [cond_false] at inv2 har2 hgen
  generalize hσ2 : σ.apps (frzMods σ (viewKeys ys xs) ++ deadMods σ (ownKeys ys xs)) = σ2 at *
  have hmods : σ.apps (appR (frzMods σ (viewKeys ys xs)) (appR (deadMods σ (ownKeys ys xs)) [.a k ⟨g, .own, e, l'⟩])) = σ2.apps [.a k ⟨g, .own, e, l'⟩] := by
    rw [appR_eq, appR_eq, ← List.append_assoc, apps_append, hσ2]
  let O' : Nat → Tag := fun b => match G1.O b with | .ar i => if i = tg then .ar k else G2.O b | _ => G2.O b
  have hO1 : ∀ b, G1.O b ≠ .ar tg → O' b = G2.O b := by
    intro b hb
    show (match G1.O b with | .ar i => if i = tg then Tag.ar k else G2.O b | _ => G2.O b) = _
    cases h : G1.O b with
    | ar i => have : i ≠ tg := by rintro rfl; exact hb h
              simp [this]
    | _ => rfl
  have hO2 : ∀ b, G1.O b = .ar tg → O' b = .ar k := by
    intro b hb
    show (match G1.O b with | .ar i => if i = tg then Tag.ar k else G2.O b | _ => G2.O b) = _
    rw [hb]; simp
  have hkO : Keep w1 w1 G1 { G2 with O := O' } := ⟨fun b hb => (hO1 b (by rw [hb]; simp)).trans (hkp.fz b hb), fun _ _ => rfl⟩
  have inv3 : Inv T Φ (σ2.apps [.a k ⟨g, .own, e, l'⟩]) a w1 { G2 with av := G2.av, O := O' } := by
    refine inv2.setArr (w' := w1) (k := k) (en := ⟨g, .own, e, l'⟩) (av' := G2.av) (O' := O') ?_ (fun _ _ _ => rfl) hpl ?_ ?_ ?_ (fun _ _ _ => rfl) (Nat.le_refl _) rfl rfl rfl
    · rintro g' ⟨en', q1, q2⟩
      obtain ⟨en2, q3, q4⟩ := hgen k en hen
      rw [q3] at q1; cases q1
      show g' ≤ g
      omega
    · unfold ArrOk
      refine ⟨he, ?_⟩
      show OwnOk T w1 { G2 with av := G2.av, O := O' } k (G2.av k g) e l'
      have hav' : G2.av k g = G.av k g := by rw [hav]
      rw [hav']
      rcases hio with h | ⟨b, cap, cur, h1, h2, h3, h4, h5, h6, h7, h8⟩
      · exact .inl h
      · refine .inr ⟨b, cap, cur, h1, hO2 b h2, h3, h4, h5, h6, h7, h8.keep hkO (p := fun _ => False) (q := fun _ _ => False) ?_ (fun _ h => h.elim) (fun _ _ h => h.elim)⟩
        refine okL_iff.2 fun y hy => ?_
        obtain ⟨i, hi⟩ := List.getElem?_of_mem hy
        exact ok_of_mem_flat hpl hi
    · intro b hb hb2
      by_cases h : G1.O b = .ar tg
      · exact absurd (hpend tg b h).1 hb
      · exact hO1 b h
    · intro b
      by_cases h : G1.O b = .ar tg
      · exact .inr (.inr (.inl ⟨hO2 b h, (hpend tg b h).2.1, (hpend tg b h).2.2⟩))
      · exact .inl (hO1 b h)
  refine ⟨v, rfl, r, _, _, hk, by rw [hmods]; exact inv3, ?_, ?_⟩
  · unfold Rr at hres
    split at hres
    · rename_i rs
      obtain ⟨vs, e1, e2, e3⟩ := hres
      rw [e1]
      have hfl' : allR flatA rs = true := hfl
      refine .tup vs rs e2 fun i c x hc hx => ?_
      have hfx := allR_iff.1 hfl' x (List.mem_of_getElem? hx)
      have hb := e3 i c x hc hx
      have hb' : x.pure ∧ Rv w1 G1 c x := by
        unfold Rb at hb
        split at hb
        · simp [flatA] at hfx
        · simp [flatA] at hfx
        · exact hb
      exact flatA_rv hfx hb'.2
    · rename_i hnt
      have hfx := flatV_flatA hfl hnt
      have hb' : r.pure ∧ Rv w1 G1 v r := by
        unfold Rb at hres
        split at hres
        · simp [flatA] at hfx
        · simp [flatA] at hfx
        · exact hres
      exact flatA_rv hfx hb'.2
  · have flat_ok : ∀ {x : V}, flatA x = true → ∀ p q, x.ok p q := by
      intro x hx p q
      cases x with
      | lit u => simp only [V.ok]
      | agg cs =>
        simp only [V.ok]
        refine okL_iff.2 fun y hy => ?_
        have := allR_iff.1 (hx : allR flat1 cs = true) y hy
        cases y with
        | lit u => simp only [V.ok]
        | _ => simp [flat1] at this
      | _ => simp [flatA] at hx
    cases r with
    | tup rs =>
      simp only [V.ok]
      refine okL_iff.2 fun x hx => flat_ok (allR_iff.1 (hfl : allR flatA rs = true) x hx) _ _
    | lit u => simp only [V.ok]
    | agg cs => exact flat_ok (x := .agg cs) hfl _ _
    | _ => simp [flatV] at hfl

end
end Go.Ab
namespace Go.Ab

theorem ren_agg (f : Nat → Nat) (xs : List V) : (V.agg xs).ren f = .agg (xs.map (V.ren f)) := by
  have h : ∀ l : List V, (V.agg l).ren f = .agg (l.map (V.ren f)) := by
    intro l
    induction l with
    | nil => rfl
    | cons x r ih =>
      have e1 : (V.agg (x :: r)).ren f = (match (V.agg r).ren f with | .agg l => .agg (x.ren f :: l) | y => y) := rfl
      rw [e1, ih]; rfl
  exact h xs
theorem ren_tup (f : Nat → Nat) (xs : List V) : (V.tup xs).ren f = .tup (xs.map (V.ren f)) := by
  have h : ∀ l : List V, (V.tup l).ren f = .tup (l.map (V.ren f)) := by
    intro l
    induction l with
    | nil => rfl
    | cons x r ih =>
      have e1 : (V.tup (x :: r)).ren f = (match (V.tup r).ren f with | .tup l => .tup (x.ren f :: l) | y => y) := rfl
      rw [e1, ih]; rfl
  exact h xs
theorem ren_fn (f : Nat → Nat) (g : FuncId) (xs : List V) : (V.fn g xs).ren f = .fn g (xs.map (V.ren f)) := by
  have h : ∀ l : List V, (V.fn g l).ren f = .fn g (l.map (V.ren f)) := by
    intro l
    induction l with
    | nil => rfl
    | cons x r ih =>
      have e1 : (V.fn g (x :: r)).ren f = (match (V.fn g r).ren f with | .fn g l => .fn g (x.ren f :: l) | y => y) := rfl
      rw [e1, ih]; rfl
  exact h xs

mutual
theorem V.ok.ren {p p' : Nat → Prop} {q : Nat → Nat → Prop} {f : Nat → Nat} (hp : ∀ j, p j → p' (f j)) : (x : V) → x.ok p q → (x.ren f).ok p' q
  | .bot, _ => by show V.ok _ _ .bot; simp only [V.ok]
  | .lit u, _ => by show V.ok _ _ (.lit u); simp only [V.ok]
  | .agg l, h => by
    rw [ren_agg]
    simp only [V.ok] at h ⊢
    exact V.okL.ren hp l h
  | .tup l, h => by
    rw [ren_tup]
    simp only [V.ok] at h ⊢
    exact V.okL.ren hp l h
  | .sl l, h => by show V.ok _ _ (.sl l); simp only [V.ok] at h ⊢; exact h
  | .cap l, h => by show V.ok _ _ (.cap l); simp only [V.ok] at h ⊢; exact h
  | .own e l, h => by show V.ok _ _ (.own e l); simp only [V.ok] at h ⊢; exact h
  | .ap e l, h => by show V.ok _ _ (.ap e l); simp only [V.ok] at h ⊢; exact h
  | .box j off, h => by
    show V.ok _ _ (.box (f j) off)
    simp only [V.ok] at h ⊢
    exact hp j h
  | .arr k g, h => by show V.ok _ _ (.arr k g); simp only [V.ok] at h ⊢; exact h
  | .fp l, h => by show V.ok _ _ (.fp l); simp only [V.ok] at h ⊢; exact h
  | .ae k g z i' o, h => by show V.ok _ _ (.ae k g z i' o); simp only [V.ok] at h ⊢; exact h
  | .fn g l, h => by
    rw [ren_fn]
    simp only [V.ok] at h ⊢
    exact V.okL.ren hp l h
theorem V.okL.ren {p p' : Nat → Prop} {q : Nat → Nat → Prop} {f : Nat → Nat} (hp : ∀ j, p j → p' (f j)) : (l : List V) → V.okL p q l → V.okL p' q (l.map (V.ren f))
  | [], _ => by simp only [List.map_nil, V.okL]
  | x :: r, h => by
    simp only [List.map_cons, V.okL] at h ⊢
    exact ⟨V.ok.ren hp x h.1, V.okL.ren hp r h.2⟩
end

section
variable {T : Tab} {P : Program} {Φ : Fr} {σ : St} {a : Act} {w w' : World} {G G' : Gh} {K : VK} {o : Oper} {d : Nat}

theorem Rv.ren {f : Nat → Nat} (hk : Keep w w G G') {v : Value} {x : V} (h : Rv w G v x) :
    ∀ {p : Nat → Prop}, x.ok p (fun _ _ => False) → (∀ i, p i → G'.β (f i) = G.β i) → Rv w G' v (x.ren f) := by
  induction h with
  | bot v => intros; exact .bot v
  | lit u h => intros; exact .lit u h
  | agg vs xs hl ho _ ih =>
    intro p hok hp
    simp only [V.ok] at hok
    rw [ren_agg]
    refine .agg vs _ (by simpa using hl) ho fun j c x hc hx => ?_
    rw [List.getElem?_map] at hx
    cases hy : xs[j]? with
    | none => rw [hy] at hx; cases hx
    | some y =>
      rw [hy] at hx
      simp only [Option.map_some, Option.some.injEq] at hx
      subst hx
      exact ih j c y hc hy (okL_iff.1 hok y (List.mem_of_getElem? hy)) hp
  | tup vs xs hl _ ih =>
    intro p hok hp
    simp only [V.ok] at hok
    rw [ren_tup]
    refine .tup vs _ (by simpa using hl) fun j c x hc hx => ?_
    rw [List.getElem?_map] at hx
    cases hy : xs[j]? with
    | none => rw [hy] at hx; cases hx
    | some y =>
      rw [hy] at hx
      simp only [Option.map_some, Option.some.injEq] at hx
      subst hx
      exact ih j c y hc hy (okL_iff.1 hok y (List.mem_of_getElem? hy)) hp
  | slN => intros; exact .slN
  | slS a c l sz cc h1 h2 h3 h4 h5 h6 _ =>
    intro p hok hp
    exact (Rv.slS a c l sz cc h1 h2 h3 h4 h5 h6).pure_keep hk (by simp only [V.pure, V.ok] at hok ⊢; exact hok)
  | capN => intros; exact .capN
  | capS a l sz cc h2 h3 h4 h5 h6 _ =>
    intro p hok hp
    exact (Rv.capS a l sz cc h2 h3 h4 h5 h6).pure_keep hk (by simp only [V.pure, V.ok] at hok ⊢; exact hok)
  | box j off =>
    intro p hok hp
    simp only [V.ok] at hok
    rw [← hp j hok]
    exact .box (f j) off
  | arr k g h =>
    intro p hok hp
    simp only [V.ok] at hok
  | fp a l cc h1 h2 h3 _ =>
    intro p hok hp
    exact (Rv.fp a l cc h1 h2 h3).pure_keep hk (by simp only [V.pure, V.ok] at hok ⊢; exact hok)
  | ae k g sz j off a n c h =>
    intro p hok hp
    simp only [V.ok] at hok
  | fn g lb caps hl _ ih =>
    intro p hok hp
    simp only [V.ok] at hok
    rw [ren_fn]
    refine .fn g lb _ (by simpa using hl) fun j c x hc hx => ?_
    rw [List.getElem?_map] at hx
    cases hy : caps[j]? with
    | none => rw [hy] at hx; cases hx
    | some y =>
      rw [hy] at hx
      simp only [Option.map_some, Option.some.injEq] at hx
      subst hx
      exact ih j c y hc hy (okL_iff.1 hok y (List.mem_of_getElem? hy)) hp

/-! ### groups -/
abbrev Grp := List (List V × List V)
def PosG (gs : Grp) (γ q k : Nat) : Prop := ∃ g, gs[γ]? = some g ∧ PosOf g.1 g.2 q k

theorem mem_ownKeys {ys xs : List V} {k : Nat} : k ∈ ownKeys ys xs ↔ ∃ q, PosOf xs ys q k := by
  rw [ownKeys_spec]
  constructor
  · rintro ⟨i, x, y, h⟩; exact ⟨i, x, y, h⟩
  · rintro ⟨i, x, y, h⟩; exact ⟨i, x, y, h⟩
theorem ownG_cons (g : List V × List V) (gs : Grp) : ownG (g :: gs) = ownKeys g.2 g.1 ++ ownG gs := by
  have : ownG (g :: gs) = appR (ownKeys g.2 g.1) (ownG gs) := rfl
  rw [this, appR_eq]
theorem viewG_cons (g : List V × List V) (gs : Grp) : viewG (g :: gs) = viewKeys g.2 g.1 ++ viewG gs := by
  have : viewG (g :: gs) = appR (viewKeys g.2 g.1) (viewG gs) := rfl
  rw [this, appR_eq]
theorem mem_ownG {gs : Grp} {k : Nat} : k ∈ ownG gs ↔ ∃ γ q, PosG gs γ q k := by
  induction gs with
  | nil =>
    have : ownG [] = [] := rfl
    rw [this]
    constructor
    · intro h; cases h
    · rintro ⟨γ, q, g, h, _⟩; simp at h
  | cons g gs ih =>
    rw [ownG_cons, List.mem_append, ih, mem_ownKeys]
    constructor
    · rintro (⟨q, h⟩ | ⟨γ, q, h⟩)
      · exact ⟨0, q, g, rfl, h⟩
      · obtain ⟨g', h1, h2⟩ := h
        exact ⟨γ + 1, q, g', h1, h2⟩
    · rintro ⟨γ, q, g', h1, h2⟩
      cases γ with
      | zero => simp at h1; subst h1; exact .inl ⟨q, h2⟩
      | succ γ => exact .inr ⟨γ, q, g', h1, h2⟩
theorem mem_viewG {gs : Grp} {k : Nat} : k ∈ viewG gs ↔ ∃ (γ : Nat) (g : List V × List V), gs[γ]? = some g ∧ k ∈ viewKeys g.2 g.1 := by
  induction gs with
  | nil =>
    have : viewG [] = [] := rfl
    rw [this]
    constructor
    · intro h; cases h
    · rintro ⟨γ, g, h, _⟩; simp at h
  | cons g gs ih =>
    rw [viewG_cons, List.mem_append, ih]
    constructor
    · rintro (h | ⟨γ, g', h1, h2⟩)
      · exact ⟨0, g, rfl, h⟩
      · exact ⟨γ + 1, g', h1, h2⟩
    · rintro ⟨γ, g', h1, h2⟩
      cases γ with
      | zero => simp at h1; subst h1; exact .inl h2
      | succ γ => exact .inr ⟨γ, g', h1, h2⟩
theorem posG_unique {gs : Grp} (hn : (ownG gs).Nodup) {γ q γ' q' k : Nat} (h : PosG gs γ q k) (h' : PosG gs γ' q' k) : γ = γ' ∧ q = q' := by
  induction gs generalizing γ γ' with
  | nil => obtain ⟨g, h, _⟩ := h; simp at h
  | cons g gs ih =>
    rw [ownG_cons, List.nodup_append] at hn
    obtain ⟨n1, n2, n3⟩ := hn
    have head : ∀ {γ q q'}, PosG (g :: gs) 0 q k → PosG (g :: gs) (γ + 1) q' k → False := by
      rintro γ q q' ⟨g0, a1, a2⟩ ⟨g1, b1, b2⟩
      simp at a1
      subst a1
      exact n3 k (mem_ownKeys.2 ⟨q, a2⟩) k (mem_ownG.2 ⟨γ, q', g1, by simpa using b1, b2⟩) rfl
    cases γ with
    | zero =>
      cases γ' with
      | zero =>
        obtain ⟨g0, a1, a2⟩ := h
        obtain ⟨g1, b1, b2⟩ := h'
        simp at a1 b1
        subst a1; subst b1
        exact ⟨rfl, pos_unique n1 a2 b2⟩
      | succ γ' => exact (head h h').elim
    | succ γ =>
      cases γ' with
      | zero => exact (head h' h).elim
      | succ γ' =>
        obtain ⟨g0, a1, a2⟩ := h
        obtain ⟨g1, b1, b2⟩ := h'
        obtain ⟨e1, e2⟩ := ih n2 ⟨g0, by simpa using a1, a2⟩ ⟨g1, by simpa using b1, b2⟩
        exact ⟨by rw [e1], e2⟩

theorem giveBL_spec {ar : Nat → Option AE} {is : List Nat} : ∀ {ys xs : List V}, giveBL T ar is ys xs → xs.length = ys.length ∧ ∀ (i : Nat) x y, xs[i]? = some x → ys[i]? = some y → giveB T ar is x y := by
  intro ys
  induction ys with
  | nil =>
    intro xs h
    cases xs with
    | nil => exact ⟨rfl, fun i x y hx => by simp at hx⟩
    | cons x r => exact (h : False).elim
  | cons y r ih =>
    intro xs h
    cases xs with
    | nil => exact (h : False).elim
    | cons x xr =>
      obtain ⟨h1, h2⟩ : giveB T ar is x y ∧ giveBL T ar is r xr := h
      obtain ⟨i1, i2⟩ := ih h2
      refine ⟨by simp [i1], fun i x' y' hx hy => ?_⟩
      cases i with
      | zero => simp at hx hy; subst hx; subst hy; exact h1
      | succ i => simp at hx hy; exact i2 i x' y' hx hy
theorem refL_spec {is : List Nat} : ∀ {ys xs : List V}, refL is ys xs → xs.length = ys.length ∧ ∀ (i : Nat) x y, xs[i]? = some x → ys[i]? = some y → refVC is x y := by
  intro ys
  induction ys with
  | nil =>
    intro xs h
    cases xs with
    | nil => exact ⟨rfl, fun i x y hx => by simp at hx⟩
    | cons x r => exact (h : False).elim
  | cons y r ih =>
    intro xs h
    cases xs with
    | nil => exact (h : False).elim
    | cons x xr =>
      obtain ⟨h1, h2⟩ : refVC is x y ∧ refL is r xr := h
      obtain ⟨i1, i2⟩ := ih h2
      refine ⟨by simp [i1], fun i x' y' hx hy => ?_⟩
      cases i with
      | zero => simp at hx hy; subst hx; subst hy; exact h1
      | succ i => simp at hx hy; exact i2 i x' y' hx hy
theorem giveG_spec {ar : Nat → Option AE} {is : List Nat} : ∀ {gs : Grp}, giveG T ar is gs → ∀ (γ : Nat) (g : List V × List V), gs[γ]? = some g → giveBL T ar is g.2 g.1 := by
  intro gs
  induction gs with
  | nil => intro _ γ g h; simp at h
  | cons g0 gs ih =>
    intro h γ g hg
    obtain ⟨h1, h2⟩ : giveBL T ar is g0.2 g0.1 ∧ giveG T ar is gs := h
    cases γ with
    | zero => simp at hg; subst hg; exact h1
    | succ γ => exact ih h2 γ g (by simpa using hg)

theorem grpsR_get {bx : Nat → Option (List V)} : ∀ {bs : List (List V)} {is : List Nat}, is.length = bs.length → ∀ (j : Nat) (g : List V × List V), (grpsR bx bs is)[j]? = some g ↔ ∃ (i : Nat) (b : List V), is[j]? = some i ∧ bs[j]? = some b ∧ g = ((bx i).getD [], b) := by
  intro bs
  induction bs with
  | nil =>
    intro is _ j g
    have : grpsR bx [] is = [] := rfl
    rw [this]; simp
  | cons b r ih =>
    intro is hl j g
    cases is with
    | nil => simp at hl
    | cons i ir =>
      have e : grpsR bx (b :: r) (i :: ir) = ((bx i).getD [], b) :: grpsR bx r ir := by
        show ((match bx i with | some cs => cs | none => []), b) :: grpsR bx r ir = _
        cases bx i <;> rfl
      rw [e]
      cases j with
      | zero =>
        simp only [List.getElem?_cons_zero, Option.some.injEq]
        constructor
        · intro h; exact ⟨i, b, rfl, rfl, h.symm⟩
        · rintro ⟨i', b', rfl, rfl, h⟩; exact h.symm
      | succ j =>
        simp only [List.getElem?_cons_succ]
        exact ih (by simpa using hl) j g

theorem RbB_of_Rb {n j : Nat} {v : Value} {y : V} (h : Rb T w G j v y) : RbB T w G n j v y := by
  unfold Rb at h
  unfold RbB
  split
  · exact h
  · exact h
  · rename_i h1 h2
    split at h
    · exact (h1 _ _ rfl).elim
    · exact (h2 _ _ rfl).elim
    · exact ⟨V.pure.ok h.1 _ _, h.2⟩

/-- what is handed over or lent is what the other side takes it for -/
theorem giveB_sound (inv : Inv T Φ σ a w G) (hkp : Keep w w G G') {is : List Nat} (hβ : ∀ b i, nth is (b - 100000) = some i → 100000 ≤ b → G'.β b = G.β i) {v : Value} {x y : V} {j : Nat} (h : giveB T σ.ar is x y) (hv : Rv w G v x) (hok : x.ok σ.hasB σ.hasA)
    (hlent : linear y = false → ∀ k ∈ akeys x, ∀ b, G.O b = .ar k → G'.O b = .fz) (hgiven : linear y = true → ∀ k ∈ akeys x, ∀ b, G.O b = .ar k → G'.O b = .ar j) : RbB T w G' is.length j v y := by
  have ref : ∀ {v : Value} {x y : V}, refVC is x y → Rv w G v x → x.ok σ.hasB σ.hasA → y.ok (fun i => 100000 ≤ i ∧ i < 100000 + is.length) (fun _ _ => False) ∧ Rv w G' v y := by
    intro v x y h hv hok
    unfold refVC at h
    split at h
    · rename_i b off
      split at h
      · rename_i i off'
        obtain ⟨h1, h2, rfl⟩ := h
        have hb : 100000 ≤ b := Nat.le_of_ble_eq_true h2
        have h1' : nth is (b - 100000) = some i := h1
        have hlt : b - 100000 < is.length := by rw [nth_eq] at h1'; exact (List.getElem?_eq_some_iff.1 h1').1
        refine ⟨by simp only [V.ok]; omega, ?_⟩
        rw [hv.box_eq, ← hβ b i h1' hb]
        exact .box b _
      · exact h.elim
    · split at h
      · subst h
        simp only [V.ok] at hok
        exact ⟨by simp only [V.ok]; exact hok, hv.pure_keep hkp (by simp only [V.pure, V.ok]; exact hok)⟩
      · exact h.elim
    · split at h
      · subst h
        exact ⟨by simp only [V.ok], by rw [hv.lit_eq]; exact .lit _ hv.lit_one⟩
      · exact h.elim
    · exact h.elim
  unfold giveB at h
  split at h
  · exact ⟨by simp only [V.ok], .bot v⟩
  · exact ref h hv hok
  · rename_i g ys
    split at h
    · rename_i g' xs
      obtain ⟨rfl, h⟩ := h
      obtain ⟨hl, hh⟩ := refL_spec h
      obtain ⟨lb, e1, e2, e3⟩ := hv.fn_inv
      simp only [V.ok] at hok
      have each : ∀ (i : Nat) c y, lb[i]? = some c → ys[i]? = some y → y.ok (fun i => 100000 ≤ i ∧ i < 100000 + is.length) (fun _ _ => False) ∧ Rv w G' c y := by
        intro i c y hc hy
        have hi : i < xs.length := by rw [hl]; exact (List.getElem?_eq_some_iff.1 hy).1
        have hx := List.getElem?_eq_getElem hi
        exact ref (hh i _ y hx hy) (e3 i c _ hc hx) (okL_iff.1 hok _ (List.mem_of_getElem? hx))
      refine ⟨?_, ?_⟩
      · simp only [V.ok]
        refine okL_iff.2 fun y hy => ?_
        obtain ⟨i, hi⟩ := List.getElem?_of_mem hy
        have hic : i < lb.size := by rw [e2, hl]; exact (List.getElem?_eq_some_iff.1 hi).1
        exact (each i lb[i] y (by simp [hic]) hi).1
      · rw [e1]
        exact .fn g' lb ys (by rw [e2, hl]) fun i c y hc hy => (each i c y hc hy).2
    · exact h.elim
  · exact RbB_of_Rb (give_sound inv hkp h hv hok hlent hgiven)

/-- nothing is known of what the variables hold -/
def botsL (bx : Nat → Option (List V)) (is : List Nat) : List Mod := is.map fun i => .b i (((bx i).getD []).map fun _ => V.bot)
theorem bots_bx (bx : Nat → Option (List V)) : ∀ (is : List Nat) (τ : St) (i : Nat), (τ.apps (botsL bx is)).bx i = if i ∈ is then some (((bx i).getD []).map fun _ => V.bot) else τ.bx i := by
  intro is
  induction is with
  | nil => intro τ i; simp [botsL, St.apps]
  | cons j r ih =>
    intro τ i
    have e : τ.apps (botsL bx (j :: r)) = ((Mod.b j (((bx j).getD []).map fun _ => V.bot)).app τ).apps (botsL bx r) := rfl
    rw [e, ih]
    by_cases h1 : i ∈ r
    · simp [h1]
    · by_cases h2 : i = j
      · subst h2
        simp only [h1, if_false, List.mem_cons, true_or, if_true]
        exact upd_same _ _ _
      · simp only [h1, h2, if_false, List.mem_cons, or_self]
        exact upd_ne _ _ h2
theorem bots_ar (bx : Nat → Option (List V)) : ∀ (is : List Nat) (τ : St), (τ.apps (botsL bx is)).ar = τ.ar := by
  intro is
  induction is with
  | nil => intro τ; rfl
  | cons j r ih =>
    intro τ
    have e : τ.apps (botsL bx (j :: r)) = ((Mod.b j (((bx j).getD []).map fun _ => V.bot)).app τ).apps (botsL bx r) := rfl
    rw [e, ih]
    rfl

theorem callOkB_spec {bx : Nat → Option (List V)} {gs : Grp} {is : List Nat} {bs : List (List V)} {r : V} (h : callOkB bx gs is bs r = true) :
    (ownG gs).Nodup ∧ (∀ k ∈ ownG gs, k ∉ viewG gs) ∧ is.Nodup ∧ is.length = bs.length ∧ (∀ i ∈ is, ∃ cs, bx i = some cs) ∧ (∀ b ∈ bs, b.length < 1000) ∧ is.length ≤ 8 ∧ ∀ rs, r = .tup rs → rs.length < 1000 := by
  unfold callOkB at h
  simp only [Bool.and_eq_true] at h
  obtain ⟨⟨⟨⟨⟨⟨⟨h1, h2⟩, h3⟩, h4⟩, h5⟩, h6⟩, h7⟩, h8⟩ := h
  refine ⟨nodupR_iff.1 h1, fun k hk hm => ?_, nodupR_iff.1 h3, ?_, fun i hi => ?_, fun b hb => ?_, ?_, ?_⟩
  · have := allR_iff.1 h2 k hk
    rw [memR_iff.2 hm] at this; simp at this
  · have := Nat.eq_of_beq_eq_true h4
    rwa [lenR_eq, lenR_eq] at this
  · have := allR_iff.1 h5 i hi
    unfold isS at this
    cases hb : bx i with
    | none => rw [hb] at this; cases this
    | some cs => exact ⟨cs, rfl⟩
  · have := blt (allR_iff.1 h6 b hb)
    rwa [lenR_eq] at this
  · rw [lenR_eq] at h7
    exact Nat.le_of_ble_eq_true h7
  · rintro rs rfl
    have := blt h8
    rwa [lenR_eq] at this

set_option maxHeartbeats 1600000 in
/-- A CALL WITH VARIABLES THAT ARE LENT: the world behind it, nothing taken back yet -/
theorem call_coreB (inv : Inv T Φ σ a w G) {f : FuncId} {us : List Value} {xs : List V} (hul : us.length = xs.length) (hrel : ∀ (i : Nat) v x, us[i]? = some v → xs[i]? = some x → Rv w G v x ∧ x.ok σ.hasB σ.hasA) {ys : List V} {is : List Nat} {bs : List (List V)} {r : V} {bs' : List (List V)}
    {gs : Grp} (hgs : gs = (xs, ys) :: grpsR σ.bx bs is) (hgive : giveG T σ.ar is gs) (hcok : callOkB σ.bx gs is bs r = true) (hspec : SpecB T P f ys bs r bs') :
    Calls P f us.toArray w fun e w1 => ∃ v G1 G2, e = .returned v ∧ RrB T w1 G1 bs.length v r ∧ BxOk T w1 G1 bs' ∧ Inv T Φ (σ.apps (frzMods σ (viewG gs) ++ deadMods σ (ownG gs) ++ botsL σ.bx is)) a w1 G2 ∧
      (∀ t b, G1.O b = .ar t → G2.O b = .ext ∧ Φ.mine b ∧ b < w1.heap.size) ∧ Keep w1 w1 G1 G2 ∧ (∀ (j : Nat) i, is[j]? = some i → G2.β i = G1.β (100000 + j)) ∧
      (∀ k, (σ.apps (frzMods σ (viewG gs) ++ deadMods σ (ownG gs) ++ botsL σ.bx is)).ar k = if k ∈ ownG gs then (σ.ar k).map deadE else if k ∈ viewG gs then (σ.ar k).map frzE else σ.ar k) ∧ G2.av = G.av := by
  obtain ⟨hcall, hlens, hspec⟩ := hspec
  obtain ⟨hnd, hdisj, hni, hil, hisb, hblen, hi8, _⟩ := callOkB_spec hcok
  have hbl : bs'.length = bs.length := by simpa using congrArg List.length hlens
  -- the groups
  have g0 : gs[0]? = some (xs, ys) := by rw [hgs]; rfl
  have gj : ∀ (j : Nat) (i : Nat) b, is[j]? = some i → bs[j]? = some b → gs[j + 1]? = some ((σ.bx i).getD [], b) := by
    intro j i b h1 h2
    rw [hgs, List.getElem?_cons_succ]
    exact (grpsR_get hil j _).2 ⟨i, b, h1, h2, rfl⟩
  have hgv : ∀ (γ : Nat) (g : List V × List V), gs[γ]? = some g → g.1.length = g.2.length ∧ ∀ (q : Nat) x y, g.1[q]? = some x → g.2[q]? = some y → giveB T σ.ar is x y := fun γ g hg => giveBL_spec (giveG_spec hgive γ g hg)
  generalize hok : ownG gs = ok at *
  generalize hvk : viewG gs = vk at *
  let pos : Nat → Nat := fun k => @dite _ (∃ t, ∃ γ q, t = 100000 * γ + q ∧ PosG gs γ q k) (Classical.propDecidable _) (fun h => h.choose) (fun _ => 0)
  have hpos : ∀ {γ q k}, PosG gs γ q k → pos k = 100000 * γ + q := by
    intro γ q k hp
    have hex : ∃ t, ∃ γ q, t = 100000 * γ + q ∧ PosG gs γ q k := ⟨_, γ, q, rfl, hp⟩
    have e1 : pos k = hex.choose := by simp only [pos]; rw [dif_pos hex]
    obtain ⟨γ', q', h1, h2⟩ := hex.choose_spec
    obtain ⟨e2, e3⟩ := posG_unique (by rw [hok]; exact hnd) hp h2
    rw [e1, h1, e2, e3]
  -- the tags as the callee sees them
  let bpos : Nat → Nat := fun i => @dite _ (∃ j, is[j]? = some i) (Classical.propDecidable _) (fun h => h.choose) (fun _ => 0)
  have hbpos : ∀ {j i : Nat}, is[j]? = some i → bpos i = j := by
    intro j i hj
    have hex : ∃ j, is[j]? = some i := ⟨j, hj⟩
    have e1 : bpos i = hex.choose := by simp only [bpos]; rw [dif_pos hex]
    rw [e1]
    have h2 := hex.choose_spec
    have hlt := (List.getElem?_eq_some_iff.1 hj).1
    exact (List.getElem?_inj (List.getElem?_eq_some_iff.1 h2).1 hni).1 (h2.trans hj.symm)
  let Gc : Gh := { β := fun b => if 100000 ≤ b then G.β (nthD is (b - 100000)) else G.β b, av := G.av, O := fun b => match G.O b with | .fz => .fz | .ar k => if k ∈ vk then .fz else if k ∈ ok then .ar (pos k) else .ext | .bx i => if i ∈ is ∧ b = G.β i then .bx (100000 + bpos i) else .ext | .ext => .ext }
  have c_fz : ∀ b, G.O b = .fz → Gc.O b = .fz := fun b hb => by simp only [Gc]; rw [hb]
  have c_bx : ∀ b i, G.O b = .bx i → ¬ (i ∈ is ∧ b = G.β i) → Gc.O b = .ext := fun b i hb hi => by simp only [Gc]; rw [hb]; simp only; rw [if_neg hi]
  have c_bi : ∀ b (j : Nat) i, G.O b = .bx i → is[j]? = some i → b = G.β i → Gc.O b = .bx (100000 + j) := fun b j i hb hj he => by
    simp only [Gc]; rw [hb]; simp only; rw [if_pos ⟨List.mem_of_getElem? hj, he⟩, hbpos hj]
  have c_ext : ∀ b, G.O b = .ext → Gc.O b = .ext := fun b hb => by simp only [Gc]; rw [hb]
  have c_vk : ∀ b k, G.O b = .ar k → k ∈ vk → Gc.O b = .fz := fun b k hb hk => by simp only [Gc]; rw [hb]; simp [hk]
  have c_ok : ∀ b k, G.O b = .ar k → k ∈ ok → Gc.O b = .ar (pos k) := fun b k hb hk => by
    simp only [Gc]; rw [hb]
    have : k ∉ vk := hdisj k hk
    simp [hk, this]
  have c_no : ∀ b k, G.O b = .ar k → k ∉ vk → k ∉ ok → Gc.O b = .ext := fun b k hb h1 h2 => by simp only [Gc]; rw [hb]; simp [h1, h2]
  have hβc : ∀ b i, nth is (b - 100000) = some i → 100000 ≤ b → Gc.β b = G.β i := by
    intro b i h1 h2
    simp only [Gc]
    rw [if_pos h2]
    unfold nthD
    rw [h1]
  have hβj : ∀ (j : Nat) i, is[j]? = some i → Gc.β (100000 + j) = G.β i := by
    intro j i hj
    refine hβc _ i ?_ (by omega)
    rw [nth_eq, show 100000 + j - 100000 = j by omega]
    exact hj
  have c_cases : ∀ b, (Gc.O b = .fz ∧ (G.O b = .fz ∨ ∃ k ∈ vk, G.O b = .ar k)) ∨ (∃ k ∈ ok, G.O b = .ar k ∧ Gc.O b = .ar (pos k)) ∨ (∃ (j : Nat) (i : Nat), is[j]? = some i ∧ (G.O b = .bx i ∧ b = G.β i) ∧ Gc.O b = .bx (100000 + j)) ∨ Gc.O b = .ext := by
    intro b
    cases hO : G.O b with
    | ext => exact .inr (.inr (.inr (c_ext b hO)))
    | fz => exact .inl ⟨c_fz b hO, .inl rfl⟩
    | bx i =>
      by_cases hi : i ∈ is ∧ b = G.β i
      · obtain ⟨j, hj⟩ := List.getElem?_of_mem hi.1
        exact .inr (.inr (.inl ⟨j, i, hj, ⟨rfl, hi.2⟩, c_bi b j i hO hj hi.2⟩))
      · exact .inr (.inr (.inr (c_bx b i hO hi)))
    | ar k =>
      by_cases h1 : k ∈ vk
      · exact .inl ⟨c_vk b k hO h1, .inr ⟨k, h1, rfl⟩⟩
      · by_cases h2 : k ∈ ok
        · exact .inr (.inl ⟨k, h2, rfl, c_ok b k hO h2⟩)
        · exact .inr (.inr (.inr (c_no b k hO h1 h2)))
  have hkc : Keep w w G Gc := ⟨c_fz, fun _ _ => rfl⟩
  have htagc : ∀ b, Gc.O b ≠ .ext → b < w.heap.size := fun b hb => inv.tag b (fun hO => hb (c_ext b hO))
  have hboxes : ∀ (j : Nat) i, is[j]? = some i → ∃ cs c t, σ.bx i = some cs ∧ w.heap[G.β i]? = some (.cells c t (0, 0)) ∧ RvL w G c.toList cs ∧ G.O (G.β i) = .bx i := by
    intro j i hj
    obtain ⟨cs, hcs⟩ := hisb i (List.mem_of_getElem? hj)
    obtain ⟨c, t, q1, q2, q3⟩ := inv.box i cs hcs
    exact ⟨cs, c, t, hcs, q1, q2, q3⟩
  have hbxc : ∀ b i, Gc.O b = .bx i → 100000 ≤ i ∧ i < 100000 + bs.length ∧ b = Gc.β i := by
    intro b i' hb
    rcases c_cases b with ⟨h, _⟩ | ⟨k, _, _, h⟩ | ⟨j, i, h1, h2, h3⟩ | h
    · rw [h] at hb; cases hb
    · rw [h] at hb; cases hb
    · rw [h3] at hb
      cases hb
      have hlt := (List.getElem?_eq_some_iff.1 h1).1
      refine ⟨by omega, by omega, ?_⟩
      rw [hβj j i h1]
      exact h2.2
    · rw [h] at hb; cases hb
  have give : ∀ (γ q : Nat) (g : List V × List V) (v : Value) (x y : V), gs[γ]? = some g → g.1[q]? = some x → g.2[q]? = some y → Rv w G v x → x.ok σ.hasB σ.hasA → RbB T w Gc is.length (100000 * γ + q) v y := by
    intro γ q g v x y hg hx hy hv hxo
    refine giveB_sound inv hkc hβc ((hgv γ g hg).2 q x y hx hy) hv hxo (fun hl k hk b hb => ?_) (fun hl k hk b hb => ?_)
    · exact c_vk b k hb (by rw [← hvk]; exact mem_viewG.2 ⟨γ, g, hg, viewKeys_spec.2 ⟨q, x, y, hx, hy, hl, hk⟩⟩)
    · have hp : PosG gs γ q k := ⟨g, hg, x, y, hx, hy, hl, hk⟩
      rw [c_ok b k hb (by rw [← hok]; exact mem_ownG.2 ⟨γ, q, hp⟩), hpos hp]
  have hargs : ∀ (j : Nat) v y, us.toArray[j]? = some v → ys[j]? = some y → RbB T w Gc bs.length j v y := by
    intro j v y hv hy
    have hj : j < xs.length := by rw [(hgv 0 _ g0).1]; exact (List.getElem?_eq_some_iff.1 hy).1
    have hx : xs[j]? = some xs[j] := List.getElem?_eq_getElem hj
    obtain ⟨e1, e2⟩ := hrel j v _ (by simpa using hv) hx
    have := give 0 j (xs, ys) v _ y g0 hx hy e1 e2
    rwa [Nat.mul_zero, Nat.zero_add, hil] at this
  have hbxok : BxOk T w Gc bs := by
    intro j b hb
    have hj : j < is.length := by rw [hil]; exact (List.getElem?_eq_some_iff.1 hb).1
    have hi : is[j]? = some is[j] := List.getElem?_eq_getElem hj
    obtain ⟨cs, c, t, q1, q2, q3, q4⟩ := hboxes j _ hi
    have hg := gj j _ b hi hb
    have hgl := (hgv _ _ hg).1
    rw [q1] at hg hgl
    simp only [Option.getD_some] at hg hgl
    refine ⟨?_, c, t, ?_, ?_, ?_⟩
    · rw [hβj j _ hi]; exact c_bi _ j _ q4 hi rfl
    · rw [hβj j _ hi]; exact q2
    · rw [← hgl, ← q3.len]; simp
    · intro q v y hv hy
      have hq : q < cs.length := by rw [hgl]; exact (List.getElem?_eq_some_iff.1 hy).1
      have hx : cs[q]? = some cs[q] := List.getElem?_eq_getElem hq
      have hv' : c.toList[q]? = some v := by simpa using hv
      refine ⟨q3.one v (List.mem_of_getElem? hv'), ?_⟩
      rw [← hil]
      exact give (j + 1) q _ v _ y hg hx hy (q3.rel q v _ hv' hx) (okL_iff.1 (inv.wfB _ cs q1) _ (List.mem_of_getElem? hx))
  have hlay : T.lay w (fun b => Gc.O b = .fz) := T.lay_mono (fun b hb => ⟨c_fz b (inv.F0 b hb), inv.frame b (inv.lay.2 b hb).1 (inv.lay.2 b hb).2⟩) inv.lay.1
  have hys : us.toArray.size = ys.length := by
    have := (hgv 0 _ g0).1
    simp only [List.size_toArray]
    exact hul.trans this
  refine (hspec w Gc us.toArray hys htagc hbxc hbxok hargs hlay).mono ?_
  rintro e w1 ⟨v, G1, rfl, hres, hbx1, hβ1, r1, r2, r4, r5, r6, r7, r8, r9⟩
  have hlt : ∀ b, G.O b ≠ .ext → b < w.heap.size := inv.tag
  have same : ∀ b, b < w.heap.size → (∀ k, G.O b = .ar k → k ∉ ok) → (∀ i, G.O b = .bx i → ¬ (i ∈ is ∧ b = G.β i)) → w1.heap[b]? = w.heap[b]? := fun b hb hh hh2 => r5 b hb (fun j hj => by
      rcases c_cases b with ⟨h, _⟩ | ⟨k, h1, h2, _⟩ | ⟨j, i, h1, h2, h3⟩ | h
      · rw [h] at hj; cases hj
      · exact hh k h2 h1
      · rw [h3] at hj; cases hj
      · rw [h] at hj; cases hj) (fun i' hi' => by
      rcases c_cases b with ⟨h, _⟩ | ⟨k, _, _, h⟩ | ⟨j, i, h1, h2, h3⟩ | h
      · rw [h] at hi'; cases hi'
      · rw [h] at hi'; cases hi'
      · exact hh2 i h2.1 ⟨List.mem_of_getElem? h1, h2.2⟩
      · rw [h] at hi'; cases hi')
  have g1_old : ∀ b, b < w.heap.size → Gc.O b = .ext → G1.O b = .ext := by
    intro b hb hc
    cases hO : G1.O b with
    | ext => rfl
    | _ =>
      exfalso
      rcases r4 b (by rw [hO]; simp) with ⟨h1, _⟩ | h1 | ⟨j, h1⟩ | ⟨i, h1, _⟩
      · rw [hc] at h1; cases h1
      · omega
      · rw [hc] at h1; cases h1
      · rw [hc] at h1; cases h1
  have g1_bx : ∀ b (j : Nat) i, is[j]? = some i → b = G.β i → G1.O b = .bx (100000 + j) := by
    intro b j i hj hbe
    have hjl : j < bs'.length := by rw [hbl, ← hil]; exact (List.getElem?_eq_some_iff.1 hj).1
    have := (hbx1 j bs'[j] (List.getElem?_eq_getElem hjl)).1
    rw [hβ1 j (by rw [← hbl]; exact hjl), hβj j i hj, ← hbe] at this
    exact this
  let G2 : Gh := { G with O := fun b => @ite _ (G1.O b = .fz) (Classical.propDecidable _) .fz (match G.O b with | .bx i => .bx i | .ar k => if k ∈ ok then .ext else .ar k | _ => .ext) }
  have d_fz : ∀ b, G1.O b = .fz → G2.O b = .fz := fun b h1 => by simp only [G2]; rw [if_pos h1]
  have d_else : ∀ b, G1.O b ≠ .fz → G2.O b = (match G.O b with | .bx i => .bx i | .ar k => if k ∈ ok then .ext else .ar k | _ => .ext) := fun b h => by simp only [G2]; rw [if_neg h]
  have d_Gfz : ∀ b, G.O b = .fz → G2.O b = .fz := fun b hb => d_fz b (r1 b (c_fz b hb))
  have d_bx : ∀ b i, G.O b = .bx i → G2.O b = .bx i := fun b i hb => by
    have hne : G1.O b ≠ .fz := by
      by_cases hi : i ∈ is ∧ b = G.β i
      · obtain ⟨j, hj⟩ := List.getElem?_of_mem hi.1
        rw [g1_bx b j i hj hi.2]; simp
      · rw [g1_old b (hlt b (by rw [hb]; simp)) (c_bx b i hb hi)]; simp
    rw [d_else b hne, hb]
  have d_ar : ∀ b k, G.O b = .ar k → k ∉ ok → k ∉ vk → G2.O b = .ar k := fun b k hb h1 h2 => by
    have hne : G1.O b ≠ .fz := by rw [g1_old b (hlt b (by rw [hb]; simp)) (c_no b k hb h2 h1)]; simp
    rw [d_else b hne, hb]; simp [h1]
  have hkeep : Keep w w1 G G2 := ⟨d_Gfz, fun b hb => same b (hlt b (by rw [hb]; simp)) (fun k hk => by rw [hb] at hk; cases hk) (fun i hi => by rw [hb] at hi; cases hi)⟩
  let fm : List Mod := frzMods σ vk
  let dm : List Mod := deadMods σ ok
  have hmA : ∀ m ∈ fm ++ dm, ∃ k en, m = .a k en := by
    intro m hm
    rcases List.mem_append.1 hm with hm | hm
    · exact frz_mods σ vk m hm
    · exact dead_mods σ ok m hm
  have hbx2 : ∀ i, (σ.apps (fm ++ dm ++ botsL σ.bx is)).bx i = if i ∈ is then some (((σ.bx i).getD []).map fun _ => V.bot) else σ.bx i := fun i => by
    rw [apps_append, bots_bx, apps_bx_a σ _ hmA]
  have har1 : ∀ k, (σ.apps fm).ar k = if k ∈ vk then (σ.ar k).map frzE else σ.ar k := fun k => frz_apps σ σ vk (fun _ => .inl rfl) k
  have har2 : ∀ k, (σ.apps (fm ++ dm ++ botsL σ.bx is)).ar k = if k ∈ ok then (σ.ar k).map deadE else if k ∈ vk then (σ.ar k).map frzE else σ.ar k := by
    intro k
    rw [apps_append, bots_ar, apps_append, dead_apps σ (σ.apps fm) ok (fun k' hk' hn => by rw [har1, hn]; simp) k, har1]
  have hgen : ∀ k en, σ.ar k = some en → ∃ en2, (σ.apps (fm ++ dm ++ botsL σ.bx is)).ar k = some en2 ∧ en2.gen = en.gen := by
    intro k en hen
    rw [har2, hen]
    split
    · exact ⟨_, rfl, rfl⟩
    · split
      · refine ⟨_, rfl, ?_⟩
        unfold frzE; split <;> rfl
      · exact ⟨_, rfl, rfl⟩
  have hA2 : ∀ k g, σ.hasA k g → (σ.apps (fm ++ dm ++ botsL σ.bx is)).hasA k g := fun k g ⟨en, h1, h2⟩ => by
    obtain ⟨en2, q1, q2⟩ := hgen k en h1
    exact ⟨en2, q1, by omega⟩
  have inv2 : Inv T Φ (σ.apps (fm ++ dm ++ botsL σ.bx is)) a w1 G2 := by
    refine inv.change (apps_env σ _) hkeep (fun _ _ => rfl) (fun _ _ _ => rfl) (fun i hi => ?_) hA2 ?_ ?_ ?_ ?_ ?_ r6 r7 r8 r9
    · obtain ⟨x, hx⟩ := hi
      unfold St.hasB
      rw [hbx2]
      split
      · exact ⟨_, rfl⟩
      · exact ⟨x, hx⟩
    · intro i cs hi
      rw [hbx2] at hi
      split at hi
      · rename_i him
        cases hi
        obtain ⟨j, hj⟩ := List.getElem?_of_mem him
        obtain ⟨cs, c0, t0, q1, q2, q3, q4⟩ := hboxes j i hj
        have hjl : j < bs'.length := by rw [hbl, ← hil]; exact (List.getElem?_eq_some_iff.1 hj).1
        obtain ⟨p1, c, t, p2, p3, p4⟩ := hbx1 j bs'[j] (List.getElem?_eq_getElem hjl)
        have hβe : G1.β (100000 + j) = G.β i := by rw [hβ1 j (by rw [← hbl]; exact hjl), hβj j i hj]
        rw [hβe] at p2
        have hjb : j < bs.length := by rw [← hbl]; exact hjl
        have hlen : bs'[j].length = cs.length := by
          have e1 : (bs'.map List.length)[j]? = some bs'[j].length := by simp [hjl]
          rw [hlens] at e1
          have e2 : (bs.map List.length)[j]? = some bs[j].length := by simp [hjb]
          rw [e2] at e1
          have := (hgv _ _ (gj j i bs[j] hj (List.getElem?_eq_getElem hjb))).1
          rw [q1] at this
          simp only [Option.getD_some] at this
          rw [this]
          exact (Option.some.inj e1).symm
        refine .inr ⟨⟨c, t, p2, ⟨?_, ?_, ?_⟩, d_bx _ i q4⟩, ?_⟩
        · rw [q1]; simp [p3, hlen]
        · intro u hu
          obtain ⟨q, hq⟩ := List.getElem?_of_mem hu
          have hq2 : q < bs'[j].length := by rw [← p3]; simpa using (List.getElem?_eq_some_iff.1 hq).1
          exact (p4 q u _ (by simpa using hq) (List.getElem?_eq_getElem hq2)).1
        · intro q u x hu hx
          rw [List.getElem?_map] at hx
          cases hy : ((σ.bx i).getD [])[q]? with
          | none => rw [hy] at hx; cases hx
          | some y => rw [hy] at hx; simp only [Option.map_some, Option.some.injEq] at hx; subst hx; exact .bot u
        · refine okL_iff.2 fun x hx => ?_
          obtain ⟨y, _, rfl⟩ := List.mem_map.1 hx
          simp only [V.ok]
      · rename_i him
        obtain ⟨c, t, q1, q2, q3⟩ := inv.box i cs hi
        exact .inl ⟨hi, d_bx _ i q3, same _ (hlt _ (by rw [q3]; simp)) (fun k hk => by rw [q3] at hk; cases hk) (fun i' hi' => by rw [q3] at hi'; cases hi'; exact fun h => him h.1)⟩
    · intro k en hen
      rw [har2] at hen
      by_cases hk1 : k ∈ ok
      · rw [if_pos hk1] at hen
        cases hs : σ.ar k with
        | none => rw [hs] at hen; cases hen
        | some en0 =>
          rw [hs] at hen
          simp at hen
          subst hen
          exact .inr ⟨trivial, by simp only [deadE, V.okL]⟩
      · rw [if_neg hk1] at hen
        have same_ar : ∀ b, G.O b = .ar k → w1.heap[b]? = w.heap[b]? := fun b hb => same b (hlt b (by rw [hb]; simp)) (fun k' hk' => by rw [hb] at hk'; cases hk'; exact hk1) (fun i hi => by rw [hb] at hi; cases hi)
        by_cases hk2 : k ∈ vk
        · rw [if_pos hk2] at hen
          cases hs : σ.ar k with
          | none => rw [hs] at hen; cases hen
          | some en0 =>
            rw [hs] at hen
            simp at hen
            have hp := inv.wfA k en0 hs
            have hokk := inv.arr k en0 hs
            have hfzb : ∀ b, G.O b = .ar k → G2.O b = .fz := fun b hb => d_fz b (r1 b (c_vk b k hb hk2))
            have own : ∀ {ty}, OwnOk T w G k (G.av k en0.gen) ty en0.l → Rv w1 G2 (G.av k en0.gen) (.sl en0.l) := by
              intro ty hown
              rcases hown with ⟨e1, e2⟩ | ⟨b, cap, cur, e1, e2, e3, e4, e5, e6, e7, e8⟩
              · rw [e1, e2]; exact .slN
              · obtain ⟨cc, q1, q2⟩ := (e8.here e3).out
                rw [e1]
                refine .slS _ cap en0.l _ cc e4 e5 (fun _ => hfzb b e2) e7 (fun j y hy => ?_) (fun j y hy => (q2 j y hy).pure_keep hkeep (ok_of_mem_flat hp hy))
                refine ⟨?_, (q1 j y hy).2⟩
                rw [← (q1 j y hy).1]
                exact World.cell?_of_block (by rw [add_block]; exact same_ar b e2)
            have slr : Rv w G (G.av k en0.gen) (.sl en0.l) → Rv w1 G2 (G.av k en0.gen) (.sl en0.l) := fun h => h.pure_keep hkeep (by simp only [V.pure, V.ok]; exact hp)
            subst hen
            unfold ArrOk at hokk
            unfold frzE
            cases hkd : en0.kind with
            | own => rw [hkd] at hokk; exact .inr ⟨own hokk.2, hp⟩
            | ap =>
              rw [hkd] at hokk
              refine .inr ⟨?_, hp⟩
              rcases hokk.2 with q | q
              · exact own q
              · exact slr q.1.cap_sl
            | frz =>
              rw [hkd] at hokk
              refine .inr ⟨?_, hp⟩
              simp only
              unfold ArrOk
              rw [hkd]
              exact slr hokk
            | dead =>
              refine .inr ⟨?_, hp⟩
              simp only
              unfold ArrOk
              rw [hkd]
              trivial
        · rw [if_neg hk2] at hen
          exact .inl ⟨hen, fun b hb => ⟨d_ar b k hb hk1 hk2, same_ar b hb⟩⟩
    · intro b hb
      by_cases hc : G1.O b = .fz
      · exact r2 b (by rw [hc]; simp)
      · rw [d_else b hc] at hb
        have : G.O b ≠ .ext := by intro hO; rw [hO] at hb; exact hb rfl
        have := hlt b this
        omega
    · intro b
      by_cases hc : G1.O b = .fz
      · rcases r4 b (by rw [hc]; simp) with ⟨h1, _⟩ | h1 | ⟨j, h1⟩ | ⟨i, _, h2⟩
        · rcases c_cases b with ⟨_, h2 | ⟨k, h2, h3⟩⟩ | ⟨k, _, _, h⟩ | ⟨j, i, _, _, h⟩ | h
          · exact .inl (by rw [d_fz b hc, h2])
          · exact .inr (.inr (inv.mineA b k h3))
          · rw [h1] at h; cases h
          · rw [h1] at h; cases h
          · rw [h1] at h; cases h
        · exact .inr (.inr (.inl (Nat.le_trans inv.size h1)))
        · rcases c_cases b with ⟨h, _⟩ | ⟨k, _, h3, _⟩ | ⟨j, i, _, _, h⟩ | h
          · rw [h1] at h; cases h
          · exact .inr (.inr (inv.mineA b k h3))
          · rw [h1] at h; cases h
          · rw [h1] at h; cases h
        · rw [hc] at h2; cases h2
      · rw [d_else b hc]
        cases hO : G.O b with
        | ext => exact .inl rfl
        | fz => exact .inr (.inl rfl)
        | bx i => exact .inl rfl
        | ar k =>
          by_cases h1 : k ∈ ok
          · exact .inr (.inl (by simp [h1]))
          · exact .inl (by simp [h1])
    · intro b
      rcases Nat.lt_or_ge b w.heap.size with hb | hb
      · by_cases hh : ∃ k ∈ ok, G.O b = .ar k
        · obtain ⟨k, _, h2⟩ := hh
          exact .inr (inv.mineA b k h2)
        · by_cases hh2 : ∃ i ∈ is, G.O b = .bx i
          · obtain ⟨i, _, h2⟩ := hh2
            exact .inr (inv.mineB b i h2)
          · exact .inl (same b hb (fun k hk hm => hh ⟨k, hm, hk⟩) (fun i hi hm => hh2 ⟨i, hm.1, hi⟩))
      · exact .inr (.inl (Nat.le_trans inv.size hb))
  have hpend : ∀ t b, G1.O b = .ar t → G2.O b = .ext ∧ Φ.mine b ∧ b < w1.heap.size := by
    intro t b hb
    have hne : G1.O b ≠ .fz := by rw [hb]; simp
    have hsz := r2 b (by rw [hb]; simp)
    rcases r4 b (by rw [hb]; simp) with ⟨_, h1⟩ | h1 | ⟨j, h1⟩ | ⟨i, _, h1⟩
    · rw [hb] at h1; cases h1
    · have hO := inv.ext_size h1
      exact ⟨by rw [d_else b hne, hO], .inl (Nat.le_trans inv.size h1), hsz⟩
    · rcases c_cases b with ⟨h, _⟩ | ⟨k, h2, h3, _⟩ | ⟨j, i, _, _, h⟩ | h
      · rw [h1] at h; cases h
      · exact ⟨by rw [d_else b hne, h3]; simp [h2], inv.mineA b k h3, hsz⟩
      · rw [h1] at h; cases h
      · rw [h1] at h; cases h
    · rw [hb] at h1; cases h1
  refine ⟨v, G1, G2, rfl, hres, hbx1, inv2, hpend, ⟨d_fz, fun _ _ => rfl⟩, fun j i hj => ?_, har2, rfl⟩
  have hjl : j < bs.length := by rw [← hil]; exact (List.getElem?_eq_some_iff.1 hj).1
  rw [hβ1 j hjl, hβj j i hj]

end
end Go.Ab
