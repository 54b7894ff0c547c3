/-
  A call, and what comes back.
-/
import Derived.Test.YtbmbfifobonfjaaAbCall
set_option linter.unusedVariables false
set_option linter.unusedSimpArgs false
namespace Go.Ab
section
variable {T : Tab} {P : Program} {Φ : Fr} {σ : St} {a : Act} {w w' : World} {G G' : Gh} {K : VK} {o : Oper} {d : Nat}

theorem apps_append (σ : St) (ms ns : List Mod) : σ.apps (ms ++ ns) = (σ.apps ms).apps ns := by simp [St.apps, List.foldl_append]
theorem apps_env (σ : St) (ms : List Mod) : (σ.apps ms).env = σ.env := by
  induction ms generalizing σ with
  | nil => rfl
  | cons m r ih =>
    have : σ.apps (m :: r) = (m.app σ).apps r := rfl
    rw [this, ih]
    cases m <;> rfl

/-- a slice that came back is taken over -/
theorem Inv.adopt (inv : Inv T Φ σ a w G) {k gen : Nat} (hno : ∀ g, σ.hasA k g → g < gen) {kd : AK} (hkd : kd = .own ∨ kd = .ap) {u : Value} {e : TypeId} {l : List V} (he : e < T.n e) (hp : pureL l) {Gx : Gh} {j : Nat}
    (hown : OwnOk T w Gx j u e l ∨ (kd = .ap ∧ Rv w Gx u (.cap l) ∧ ∀ x ∈ l, x.cells.length = (T.row e).size)) (hx : Keep w w Gx G) (hpend : ∀ b, Gx.O b = .ar j → G.O b = .ext ∧ Φ.mine b ∧ b < w.heap.size) :
    ∃ G', Inv T Φ (σ.apps [.a k ⟨gen, kd, e, l⟩]) a w G' ∧ G'.av k gen = u ∧ u.oneCell' = true ∧ (∀ b, Gx.O b ≠ .ar j → G'.O b = G.O b) ∧ G'.β = G.β ∧ (∀ k' g, σ.hasA k' g → G'.av k' g = G.av k' g) := by
  let av' : Nat → Nat → Value := fun k' g => if k' = k ∧ g = gen then u else G.av k' g
  have hav : av' k gen = u := by simp [av']
  have hav2 : ∀ k' g, σ.hasA k' g → av' k' g = G.av k' g := fun k' g hg => by
    have : ¬ (k' = k ∧ g = gen) := by rintro ⟨rfl, rfl⟩; exact absurd (hno g hg) (by omega)
    simp [av', this]
  let O' : Nat → Tag := fun b => match Gx.O b with | .ar i => if i = j then .ar k else G.O b | _ => G.O b
  have hO1 : ∀ b, Gx.O b ≠ .ar j → O' b = G.O b := by
    intro b hb
    show (match Gx.O b with | .ar i => if i = j then Tag.ar k else G.O b | _ => G.O b) = _
    cases h : Gx.O b with
    | ar i => have : i ≠ j := by rintro rfl; exact hb h
              simp [this]
    | _ => rfl
  have hO2 : ∀ b, Gx.O b = .ar j → O' b = .ar k := by
    intro b hb
    show (match Gx.O b with | .ar i => if i = j then Tag.ar k else G.O b | _ => G.O b) = _
    rw [hb]; simp
  let G1 : Gh := { G with av := av', O := O' }
  have hkx : Keep w w Gx G1 := ⟨fun b hb => (hO1 b (by rw [hb]; simp)).trans (hx.fz b hb), fun _ _ => rfl⟩
  refine ⟨G1, ?_, hav, ?_, hO1, rfl, hav2⟩
  · refine inv.setArr (w' := w) (k := k) (en := ⟨gen, kd, e, l⟩) (av' := av') (O' := O') (fun g hg => Nat.le_of_lt (hno g hg)) hav2 hp ?_ ?_ ?_ (fun _ _ _ => rfl) (Nat.le_refl _) rfl rfl rfl
    · have hown1 : OwnOk T w Gx j u e l → OwnOk T w G1 k (G1.av k gen) e l := by
        intro h
        have e1 : G1.av k gen = u := hav
        rw [e1]
        rcases h with h | ⟨b, cap, cur, h1, h2, h3, h4, h5, h6, h7, h8⟩
        · exact .inl h
        · refine .inr ⟨b, cap, cur, h1, hO2 b h2, h3, h4, h5, h6, h7, h8.keep hkx (p := fun _ => False) (q := fun _ _ => False) ?_ (fun _ h => h.elim) (fun _ _ h => h.elim)⟩
          refine okL_iff.2 fun y hy => ?_
          obtain ⟨i, hi⟩ := List.getElem?_of_mem hy
          exact ok_of_mem_flat hp hi
      unfold ArrOk
      rcases hown with h | ⟨rfl, h, hz⟩
      · rcases hkd with rfl | rfl
        · exact ⟨he, hown1 h⟩
        · exact ⟨he, .inl (hown1 h)⟩
      · refine ⟨he, .inr ⟨?_, hz⟩⟩
        have e1 : G1.av k gen = u := hav
        show Rv w G1 (G1.av k gen) _
        rw [e1]
        exact h.pure_keep hkx (by simp only [V.pure, V.ok]; exact hp)
    · intro b hb hb2
      by_cases h : Gx.O b = .ar j
      · exact absurd (hpend b h).1 hb
      · exact hO1 b h
    · intro b
      by_cases h : Gx.O b = .ar j
      · exact .inr (.inr (.inl ⟨hO2 b h, (hpend b h).2.1, (hpend b h).2.2⟩))
      · exact .inl (hO1 b h)
  · rcases hown with h | ⟨_, h, _⟩
    · rcases h with ⟨h, _⟩ | ⟨b, cap, cur, h, _⟩ <;> (rw [h]; rfl)
    · rcases h.cap_inv with ⟨h, _⟩ | ⟨ad, sz, cc, h, _⟩ <;> (rw [h]; rfl)

theorem apps_bx_a (σ : St) (ms : List Mod) (h : ∀ m ∈ ms, ∃ k en, m = .a k en) : (σ.apps ms).bx = σ.bx := by
  induction ms generalizing σ with
  | nil => rfl
  | cons m r ih =>
    have : σ.apps (m :: r) = (m.app σ).apps r := rfl
    rw [this, ih _ (fun m hm => h m (by simp [hm]))]
    obtain ⟨k, en, rfl⟩ := h m (by simp)
    rfl

def frzE (en : AE) : AE := match en.kind with | .own => ⟨en.gen, .frz, en.ty, en.l⟩ | .ap => ⟨en.gen, .frz, en.ty, en.l⟩ | _ => en

theorem frz_apps (σ σ' : St) (ks : List Nat) : (∀ k, σ'.ar k = σ.ar k ∨ σ'.ar k = (σ.ar k).map frzE) → ∀ k, (σ'.apps (frzMods σ ks)).ar k = if k ∈ ks then (σ.ar k).map frzE else σ'.ar k := by
  induction ks generalizing σ' with
  | nil => intro _ k; simp [frzMods, St.apps]
  | cons x r ih =>
    intro hrel k
    have hdef : frzMods σ (x :: r) = (match σ.ar x with
      | some en => match en.kind with
        | .own => Mod.a x ⟨en.gen, .frz, en.ty, en.l⟩ :: frzMods σ r
        | .ap => Mod.a x ⟨en.gen, .frz, en.ty, en.l⟩ :: frzMods σ r
        | _ => frzMods σ r
      | none => frzMods σ r) := rfl
    have skip : (σ.ar x).map frzE = σ.ar x → (σ'.apps (frzMods σ r)).ar k = if k ∈ x :: r then (σ.ar k).map frzE else σ'.ar k := by
      intro hx
      rw [ih σ' hrel k]
      by_cases h1 : k ∈ r
      · simp [h1]
      · by_cases h2 : k = x
        · subst h2
          have : σ'.ar k = (σ.ar k).map frzE := by
            rcases hrel k with h | h
            · rw [h, hx]
            · exact h
          simp [h1, this]
        · simp [h1, h2]
    have take : ∀ en, σ.ar x = some en → (σ.ar x).map frzE = some ⟨en.gen, .frz, en.ty, en.l⟩ → (σ'.apps (Mod.a x ⟨en.gen, .frz, en.ty, en.l⟩ :: frzMods σ r)).ar k = if k ∈ x :: r then (σ.ar k).map frzE else σ'.ar k := by
      intro en hen hx
      have h0 : σ'.apps (Mod.a x ⟨en.gen, .frz, en.ty, en.l⟩ :: frzMods σ r) = ((Mod.a x ⟨en.gen, .frz, en.ty, en.l⟩).app σ').apps (frzMods σ r) := rfl
      rw [h0, ih _ (fun k' => ?_) k]
      · by_cases h1 : k ∈ r
        · simp [h1]
        · by_cases h2 : k = x
          · subst h2
            simp only [h1, if_false, List.mem_cons, true_or, if_true]
            show upd σ'.ar k _ k = _
            rw [upd_same, hx]
          · simp only [h1, h2, if_false, List.mem_cons, or_self]
            show upd σ'.ar x _ k = _
            rw [upd_ne _ _ h2]
      · show upd σ'.ar x _ k' = _ ∨ upd σ'.ar x _ k' = _
        by_cases h2 : k' = x
        · subst h2; right; rw [upd_same, hx]
        · rw [upd_ne _ _ h2]; exact hrel k'
    rw [hdef]
    cases hx : σ.ar x with
    | none => simp only; exact skip (by rw [hx]; rfl)
    | some en =>
      simp only
      cases hk : en.kind with
      | own => simp only; exact take en hx (by rw [hx]; simp [frzE, hk])
      | ap => simp only; exact take en hx (by rw [hx]; simp [frzE, hk])
      | frz => simp only; exact skip (by rw [hx]; simp [frzE, hk])
      | dead => simp only; exact skip (by rw [hx]; simp [frzE, hk])

theorem frz_mods (σ : St) (ks : List Nat) : ∀ m ∈ frzMods σ ks, ∃ k en, m = .a k en := by
  induction ks with
  | nil => intro m hm; cases hm
  | cons x r ih =>
    intro m hm
    have hdef : frzMods σ (x :: r) = (match σ.ar x with
      | some en => match en.kind with
        | .own => Mod.a x ⟨en.gen, .frz, en.ty, en.l⟩ :: frzMods σ r
        | .ap => Mod.a x ⟨en.gen, .frz, en.ty, en.l⟩ :: frzMods σ r
        | _ => frzMods σ r
      | none => frzMods σ r) := rfl
    rw [hdef] at hm
    split at hm
    · split at hm
      · rcases List.mem_cons.1 hm with h | h
        · exact ⟨_, _, h⟩
        · exact ih m h
      · rcases List.mem_cons.1 hm with h | h
        · exact ⟨_, _, h⟩
        · exact ih m h
      · exact ih m hm
    · exact ih m hm

theorem recvL_cons (σ0 : St) (d : Nat) (y : V) (r : List V) (j : Nat) (ro : Option (Nat × Nat)) (K : List V → List Mod → Prop) : recvL σ0 d (y :: r) j ro K = (match y with
        | .own e l => match ro with
          | some (k, g) => recvL σ0 d r (j + 1) none fun vs ms => K (.arr k g :: vs) (.a k ⟨g, .own, e, l⟩ :: ms)
          | none => match σ0.ar (d + 1000 * j) with
            | none => recvL σ0 d r (j + 1) none fun vs ms => K (.arr (d + 1000 * j) 0 :: vs) (.a (d + 1000 * j) ⟨0, .own, e, l⟩ :: ms)
            | some _ => False
        | .ap e l => match ro with
          | some (k, g) => recvL σ0 d r (j + 1) none fun vs ms => K (.arr k g :: vs) (.a k ⟨g, .ap, e, l⟩ :: ms)
          | none => match σ0.ar (d + 1000 * j) with
            | none => recvL σ0 d r (j + 1) none fun vs ms => K (.arr (d + 1000 * j) 0 :: vs) (.a (d + 1000 * j) ⟨0, .ap, e, l⟩ :: ms)
            | some _ => False
        | y => force y fun y => recvL σ0 d r (j + 1) ro fun vs ms => K (y :: vs) ms) := rfl

theorem linear_false {y : V} (h1 : ∀ e l, y = .own e l → False) (h2 : ∀ e l, y = .ap e l → False) : linear y = false := by
  cases y with
  | own e l => exact (h1 e l rfl).elim
  | ap e l => exact (h2 e l rfl).elim
  | _ => rfl

/-- the slices among the results are taken over, one behind the other -/
theorem recvL_sound {Gx : Gh} {σ0 : St} : ∀ (rs : List V) (j : Nat) (ro : Option (Nat × Nat)) (σ : St) (G : Gh) (us : List Value) (K : List V → List Mod → Prop),
    Inv T Φ σ a w G → (∀ j', j ≤ j' → σ0.ar (d + 1000 * j') = none → σ.ar (d + 1000 * j') = none) → (∀ k g, ro = some (k, g) → (∀ g', σ.hasA k g' → g' < g) ∧ ∀ j', σ0.ar (d + 1000 * j') = none → k ≠ d + 1000 * j') → us.length = rs.length →
    (∀ (i : Nat) u y, us[i]? = some u → rs[i]? = some y → linear y = true → Rb T w Gx (j + i) u y) → (∀ (i : Nat) u y, us[i]? = some u → rs[i]? = some y → linear y = false → Rv w G u y ∧ y.pure) → ((∃ y ∈ rs, linear y = true) → Keep w w Gx G) →
    (∀ j' b, j ≤ j' → Gx.O b = .ar j' → G.O b = .ext ∧ Φ.mine b ∧ b < w.heap.size) → recvL σ0 d rs j ro K →
    ∃ vs ms G', K vs ms ∧ Inv T Φ (σ.apps ms) a w G' ∧ vs.length = rs.length ∧ (∀ (i : Nat) u v, us[i]? = some u → vs[i]? = some v → Rv w G' u v ∧ v.ok (σ.apps ms).hasB (σ.apps ms).hasA) ∧ G'.β = G.β ∧ (∀ k g, σ.hasA k g → G'.av k g = G.av k g) ∧ (∀ b, G.O b ≠ .ext → G'.O b = G.O b) ∧ (∀ k g, σ.hasA k g → (σ.apps ms).hasA k g) ∧ (σ.apps ms).bx = σ.bx := by
  intro rs
  induction rs with
  | nil =>
    intro j ro σ G us K inv _ _ hl _ _ _ _ h
    have : us = [] := List.eq_nil_of_length_eq_zero (by simpa using hl)
    subst this
    exact ⟨[], [], G, h, inv, rfl, fun i u v hu => by simp at hu, rfl, fun _ _ _ => rfl, fun _ _ => rfl, fun _ _ h => h, rfl⟩
  | cons y r ih =>
    intro j ro σ G us K inv hfresh hro hl hlin hpl hkx hpend h
    cases us with
    | nil => simp at hl
    | cons u ur =>
      have hl' : ur.length = r.length := by simpa using hl
      have hlin' : ∀ (i : Nat) u y, ur[i]? = some u → r[i]? = some y → linear y = true → Rb T w Gx (j + 1 + i) u y := fun i u y hu hy hly => by
        have := hlin (i + 1) u y (by simpa using hu) (by simpa using hy) hly
        rwa [show j + (i + 1) = j + 1 + i by omega] at this
      -- a slice is taken over under the number k, in the state g
      have take : ∀ (k g : Nat) (kd : AK) (e : TypeId) (l : List V), (kd = .own ∨ kd = .ap) → linear y = true → (∀ g', σ.hasA k g' → g' < g) → (∀ j', j + 1 ≤ j' → σ0.ar (d + 1000 * j') = none → k ≠ d + 1000 * j') → e < T.n e → pureL l →
          (OwnOk T w Gx j u e l ∨ (kd = .ap ∧ Rv w Gx u (.cap l) ∧ ∀ x ∈ l, x.cells.length = (T.row e).size)) →
          (recvL σ0 d r (j + 1) none fun vs ms => K (.arr k g :: vs) (.a k ⟨g, kd, e, l⟩ :: ms)) →
          ∃ vs ms G', K vs ms ∧ Inv T Φ (σ.apps ms) a w G' ∧ vs.length = (y :: r).length ∧ (∀ (i : Nat) u' v, (u :: ur)[i]? = some u' → vs[i]? = some v → Rv w G' u' v ∧ v.ok (σ.apps ms).hasB (σ.apps ms).hasA) ∧ G'.β = G.β ∧ (∀ k g, σ.hasA k g → G'.av k g = G.av k g) ∧ (∀ b, G.O b ≠ .ext → G'.O b = G.O b) ∧ (∀ k g, σ.hasA k g → (σ.apps ms).hasA k g) ∧ (σ.apps ms).bx = σ.bx := by
        intro k g kd e l hkd hly hno hne he hp hown hrest
        have hx := hkx ⟨y, by simp, hly⟩
        obtain ⟨G1, inv1, a1, a2, a3, a4, a5⟩ := inv.adopt (k := k) (gen := g) hno hkd he hp hown hx (fun b hb => hpend j b (Nat.le_refl _) hb)
        have hA1 : ∀ k' g', σ.hasA k' g' → (σ.apps [.a k ⟨g, kd, e, l⟩]).hasA k' g' := fun k' g' hh => by
          by_cases e1 : k' = k
          · subst e1; exact ⟨_, upd_same _ _ _, Nat.le_of_lt (hno g' hh)⟩
          · obtain ⟨x, hx, hg⟩ := hh
            exact ⟨x, by show upd σ.ar k _ k' = _; rw [upd_ne _ _ e1]; exact hx, hg⟩
        have hO1 : ∀ b, G.O b ≠ .ext → G1.O b = G.O b := fun b hb => a3 b (fun hb2 => hb (hpend j b (Nat.le_refl _) hb2).1)
        have hkp1 : Keep w w G G1 := ⟨fun b hb => (hO1 b (by rw [hb]; simp)).trans hb, fun _ _ => rfl⟩
        obtain ⟨vs, ms, G', b1, b2, b3, b4, b5, b6, b7, b8, b9⟩ := ih (j + 1) none (σ.apps [.a k ⟨g, kd, e, l⟩]) G1 ur _ inv1
          (fun j' hj' hn => by show upd σ.ar k _ _ = _; rw [upd_ne _ _ (Ne.symm (hne j' hj' hn))]; exact hfresh j' (by omega) hn)
          (fun _ _ h => by cases h) hl' hlin'
          (fun i u y hu hy hly => by
            obtain ⟨q1, q2⟩ := hpl (i + 1) u y (by simpa using hu) (by simpa using hy) hly
            exact ⟨q1.pure_keep hkp1 q2, q2⟩)
          (fun ⟨y', hy', hl'⟩ => ⟨fun b hb => (hkp1.fz b (hx.fz b hb)), fun _ _ => rfl⟩)
          (fun j' b hj' hb => by
            have := hpend j' b (by omega) hb
            refine ⟨?_, this.2⟩
            rw [a3 b (by rw [hb]; intro e; cases e; omega)]
            exact this.1) hrest
        refine ⟨_, _, G', b1, b2, by simp [b3], ?_, b5.trans a4, fun k' g' hh => (b6 k' g' (hA1 k' g' hh)).trans (a5 k' g' hh), fun b hb => ?_, fun k' g' hh => b8 k' g' (hA1 k' g' hh), b9⟩
        · intro i u' v hu hv
          cases i with
          | zero =>
            simp at hu hv
            subst hu; subst hv
            have hA : (σ.apps [.a k ⟨g, kd, e, l⟩]).hasA k g := ⟨_, upd_same _ _ _, Nat.le_refl _⟩
            have e1 : G'.av k g = u := (b6 k g hA).trans a1
            refine ⟨?_, by simp only [V.ok]; exact b8 k g hA⟩
            rw [← e1]
            exact .arr k g (by rw [e1]; exact a2)
          | succ i => exact b4 i u' v (by simpa using hu) (by simpa using hv)
        · have := hO1 b hb
          rw [b7 b (by rw [this]; exact hb)]
          exact this
      have fresh_ne : ∀ j', j + 1 ≤ j' → d + 1000 * j ≠ d + 1000 * j' := fun j' h => by omega
      -- a plain value
      have plain : linear y = false → (recvL σ0 d r (j + 1) ro fun vs ms => K (y :: vs) ms) →
          ∃ vs ms G', K vs ms ∧ Inv T Φ (σ.apps ms) a w G' ∧ vs.length = (y :: r).length ∧ (∀ (i : Nat) u' v, (u :: ur)[i]? = some u' → vs[i]? = some v → Rv w G' u' v ∧ v.ok (σ.apps ms).hasB (σ.apps ms).hasA) ∧ G'.β = G.β ∧ (∀ k g, σ.hasA k g → G'.av k g = G.av k g) ∧ (∀ b, G.O b ≠ .ext → G'.O b = G.O b) ∧ (∀ k g, σ.hasA k g → (σ.apps ms).hasA k g) ∧ (σ.apps ms).bx = σ.bx := by
        intro hly hrest
        obtain ⟨vs, ms, G', b1, b2, b3, b4, b5, b6, b7, b8, b9⟩ := ih (j + 1) ro σ G ur _ inv (fun j' hj' hn => hfresh j' (by omega) hn) hro hl' hlin' (fun i u y hu hy => hpl (i + 1) u y (by simpa using hu) (by simpa using hy)) (fun ⟨y', hy', hq⟩ => hkx ⟨y', by simp [hy'], hq⟩) (fun j' b hj' hb => hpend j' b (by omega) hb) hrest
        refine ⟨_, _, G', b1, b2, by simp [b3], ?_, b5, b6, b7, b8, b9⟩
        intro i u' v hu hv
        cases i with
        | zero =>
          simp at hu hv
          subst hu; subst hv
          obtain ⟨q1, q2⟩ := hpl 0 u y rfl rfl hly
          have hkp : Keep w w G G' := ⟨fun b hb => (b7 b (by rw [hb]; simp)).trans hb, fun _ _ => rfl⟩
          exact ⟨q1.pure_keep hkp q2, V.pure.ok q2 _ _⟩
        | succ i => exact b4 i u' v (by simpa using hu) (by simpa using hv)
      have hrb := hlin 0 u y rfl rfl
      rw [Nat.add_zero] at hrb
      rw [recvL_cons] at h
      split at h
      · rename_i e l
        obtain ⟨q1, q2, q3⟩ := hrb rfl
        split at h
        · rename_i k g
          exact take k g .own e l (.inl rfl) rfl (hro k g rfl).1 (fun j' _ hn => (hro k g rfl).2 j' hn) q1 q2 (.inl q3) h
        · split at h
          · rename_i hn
            exact take _ 0 .own e l (.inl rfl) rfl (no_arr (hfresh j (Nat.le_refl _) hn) 0) (fun j' hj' _ => fresh_ne j' hj') q1 q2 (.inl q3) h
          · exact h.elim
      · rename_i e l
        obtain ⟨q1, q2, q3⟩ := hrb rfl
        have q3' : OwnOk T w Gx j u e l ∨ (AK.ap = .ap ∧ Rv w Gx u (.cap l) ∧ ∀ x ∈ l, x.cells.length = (T.row e).size) := q3.imp id (fun h => ⟨rfl, h⟩)
        split at h
        · rename_i k g
          exact take k g .ap e l (.inr rfl) rfl (hro k g rfl).1 (fun j' _ hn => (hro k g rfl).2 j' hn) q1 q2 q3' h
        · split at h
          · rename_i hn
            exact take _ 0 .ap e l (.inr rfl) rfl (no_arr (hfresh j (Nat.le_refl _) hn) 0) (fun j' hj' _ => fresh_ne j' hj') q1 q2 q3' h
          · exact h.elim
      · rename_i h1 h2
        rw [force_eq] at h
        exact plain (linear_false h1 h2) h

end
end Go.Ab
