/-
  From one state to a weaker one: what a loop or a cut keeps.
-/
import Derived.Test.YtbmbfifobonfjaaAbFn
set_option linter.unusedVariables false
set_option linter.unusedSimpArgs false
namespace Go.Ab

def wkLit (u' u : Value) : Prop :=
  match u with
  | .int k n => match u' with | .int k' n' => k' = k ∧ n' = n | _ => False
  | .bool b => match u' with | .bool b' => b' = b | _ => False
  | u => u' = u

/-- of a value of one cell -/
def wk1 (ar r : Nat → Option AE) (x y : V) : Prop :=
  match y with
  | .bot => True
  | .lit u => match x with | .lit u' => wkLit u' u | _ => False
  | .sl l => match x with
    | .sl l' => l' = l
    | .cap l' => l' = l
    | .lit (.slice none 0 0) => l = []
    | .arr k g => match ar k with
      | some en => match en.kind with
        | .frz => en.gen = g ∧ en.l = l
        | _ => False
      | none => False
    | _ => False
  | .arr k g => match x with
    | .arr k' g' => k' = k ∧ g' = g
    | .lit (.slice none 0 0) => match ar k with
      | none => match r k with
        | some en => en.gen = g
        | none => False
      | some _ => False
    | _ => False
  | .box i o => match x with | .box i' o' => i' = i ∧ o' = o | _ => False
  | .cap l => match x with | .cap l' => l' = l | .lit (.slice none 0 0) => l = [] | _ => False
  | .fp l => match x with | .fp l' => l' = l | _ => False
  | .ae k g z i o => match x with | .ae k' g' z' i' o' => k' = k ∧ g' = g ∧ z' = z ∧ i' = i ∧ o' = o | _ => False
  | _ => False

noncomputable def wkL (ar r : Nat → Option AE) (ys : List V) : List V → Prop :=
  List.rec (motive := fun _ => List V → Prop) (fun xs => match xs with | [] => True | _ :: _ => False)
    (fun y _ ih xs => match xs with | x :: xr => wk1 ar r x y ∧ ih xr | [] => False) ys

noncomputable def wkV (ar r : Nat → Option AE) (x y : V) : Prop :=
  match y with
  | .agg ys => match x with | .agg xs => wkL ar r ys xs | _ => False
  | y => wk1 ar r x y

def kindLe (a b : AK) : Prop :=
  match b with
  | .own => match a with | .own => True | _ => False
  | .ap => match a with | .own => True | .ap => True | _ => False
  | .frz => match a with | .frz => True | _ => False
  | .dead => True

def wkAE (T : Tab) (o : Option AE) (en : AE) : Prop :=
  match o with
  | some en0 => en0.gen = en.gen ∧ kindLe en0.kind en.kind ∧ en0.ty = en.ty ∧ en0.l = en.l
  | none => kindLe .own en.kind ∧ en.l = [] ∧ Nat.blt en.ty (T.n en.ty) = true

/-- what a value names is there -/
def wf1 (b : Nat → Option (List V)) (r : Nat → Option AE) (x : V) : Prop :=
  match x with
  | .box i _ => match b i with | some _ => True | none => False
  | .arr k g => match r k with | some en => g ≤ en.gen | none => False
  | .ae k g _ _ _ => match r k with | some en => g ≤ en.gen | none => False
  | _ => True
noncomputable def wfL (b : Nat → Option (List V)) (r : Nat → Option AE) (l : List V) : Prop := List.rec (motive := fun _ => Prop) True (fun x _ ih => wf1 b r x ∧ ih) l
noncomputable def wfV (b : Nat → Option (List V)) (r : Nat → Option AE) (x : V) : Prop :=
  match x with
  | .agg cs => wfL b r cs
  | x => wf1 b r x

noncomputable def wkE (σ : St) (b : Nat → Option (List V)) (r : Nat → Option AE) (e : List (Nat × V)) : Prop :=
  List.rec (motive := fun _ => Prop) True (fun p _ ih => (wkV σ.ar r (σ.env p.1) p.2 ∧ wfV b r p.2) ∧ ih) e
noncomputable def wkB (σ : St) (b : Nat → Option (List V)) (r : Nat → Option AE) (l : List (Nat × List V)) : Prop :=
  List.rec (motive := fun _ => Prop) True (fun p _ ih => (match σ.bx p.1 with | some cs => wkL σ.ar r p.2 cs ∧ wfL b r p.2 | none => False) ∧ ih) l
noncomputable def wkA (T : Tab) (σ : St) (l : List (Nat × AE)) : Prop :=
  List.rec (motive := fun _ => Prop) True (fun p _ ih => wkAE T (σ.ar p.1) p.2 ∧ ih) l

theorem wkLit_eq {u' u : Value} (h : wkLit u' u) : u' = u := by
  unfold wkLit at h
  split at h
  · split at h
    · obtain ⟨rfl, rfl⟩ := h; rfl
    · exact h.elim
  · split at h
    · subst h; rfl
    · exact h.elim
  · exact h

section
variable {T : Tab} {Φ : Fr} {σ : St} {a : Act} {w : World} {G : Gh} {b : Nat → Option (List V)} {r : Nat → Option AE}

/-- the ghost with new empty slices -/
noncomputable def nilGh (σ : St) (G : Gh) : Gh := { G with av := fun k g => match σ.ar k with | none => .slice none 0 0 | some _ => G.av k g }

theorem nil_keep (σ : St) (w : World) (G : Gh) : Keep w w G (nilGh σ G) := ⟨fun _ h => h, fun _ _ => rfl⟩
theorem nil_av {k g : Nat} (h : σ.hasA k g) : (nilGh σ G).av k g = G.av k g := by
  obtain ⟨en, h, _⟩ := h
  simp [nilGh, h]

theorem wk1_sound (inv : Inv T Φ σ a w G) {v : Value} {x y : V} (hx : Rv w G v x) (hok : x.ok σ.hasB σ.hasA) (h : wk1 σ.ar r x y) (hw : wf1 b r y) (τ : St) (hb : τ.bx = b) (hr : τ.ar = r) :
    Rv w (nilGh σ G) v y ∧ y.ok τ.hasB τ.hasA := by
  have hx' : Rv w (nilGh σ G) v x := hx.keep (nil_keep σ w G) hok (fun _ _ => rfl) (fun k g h => nil_av h)
  subst hb hr
  unfold wk1 at h
  split at h
  · exact ⟨.bot v, by simp only [V.ok]⟩
  · split at h
    · cases wkLit_eq h; exact ⟨hx', by simp only [V.ok]⟩
    · exact h.elim
  · split at h
    · subst h; exact ⟨hx', by simp only [V.ok] at hok ⊢; exact hok⟩
    · subst h; exact ⟨hx'.cap_sl, by simp only [V.ok] at hok ⊢; exact hok⟩
    · subst h
      have := hx.lit_eq
      subst this
      exact ⟨.slN, by simp only [V.ok, V.okL]⟩
    · split at h
      · rename_i k g _ en hen
        split at h
        · rename_i hkd
          obtain ⟨rfl, rfl⟩ := h
          have ha := inv.arr k en hen
          unfold ArrOk at ha
          rw [hkd] at ha
          have hp := inv.wfA k en hen
          have hps : (V.sl en.l).pure := by simp only [V.pure, V.ok]; exact hp
          have hv := hx.arr_eq
          rw [hv]
          exact ⟨(ha : Rv w G _ _).pure_keep (nil_keep σ w G) hps, by simp only [V.ok]; exact hp⟩
        · exact h.elim
      · exact h.elim
    · exact h.elim
  · rename_i k g
    have hwr : τ.hasA k g := by
      unfold wf1 at hw
      simp only at hw
      split at hw
      · rename_i en hen; exact ⟨en, hen, hw⟩
      · exact hw.elim
    split at h
    · obtain ⟨rfl, rfl⟩ := h
      exact ⟨hx', by simp only [V.ok]; exact hwr⟩
    · split at h
      · rename_i hnone
        split at h
        · have hv := hx.lit_eq
          subst hv
          have e : (nilGh σ G).av k g = .slice none 0 0 := by simp [nilGh, hnone]
          rw [← e]
          exact ⟨.arr k g (by rw [e]; rfl), by simp only [V.ok]; exact hwr⟩
        · exact h.elim
      · exact h.elim
    · exact h.elim
  · split at h
    · obtain ⟨rfl, rfl⟩ := h
      refine ⟨hx', ?_⟩
      unfold wf1 at hw
      simp only at hw
      split at hw
      · rename_i cs hcs; simp only [V.ok]; exact ⟨cs, hcs⟩
      · exact hw.elim
    · exact h.elim
  · split at h
    · subst h; exact ⟨hx', by simp only [V.ok] at hok ⊢; exact hok⟩
    · subst h
      have := hx.lit_eq
      subst this
      exact ⟨.capN, by simp only [V.ok, V.okL]⟩
    · exact h.elim
  · split at h
    · subst h; exact ⟨hx', by simp only [V.ok] at hok ⊢; exact hok⟩
    · exact h.elim
  · rename_i k g z i o
    have hwr : τ.hasA k g := by
      unfold wf1 at hw
      simp only at hw
      split at hw
      · rename_i en hen; exact ⟨en, hen, hw⟩
      · exact hw.elim
    split at h
    · obtain ⟨rfl, rfl, rfl, rfl, rfl⟩ := h
      exact ⟨hx', by simp only [V.ok]; exact hwr⟩
    · exact h.elim
  · exact h.elim

theorem wkL_spec {ar : Nat → Option AE} {ys : List V} : ∀ {xs : List V}, wkL ar r ys xs → wfL b r ys → xs.length = ys.length ∧ ∀ (i : Nat) x y, xs[i]? = some x → ys[i]? = some y → wk1 ar r x y ∧ wf1 b r y := by
  induction ys with
  | nil =>
    intro xs h _
    cases xs with
    | nil => exact ⟨rfl, fun i x y hx => by simp at hx⟩
    | cons x xr => exact (h : False).elim
  | cons y yr ih =>
    intro xs h hw
    cases xs with
    | nil => exact (h : False).elim
    | cons x xr =>
      obtain ⟨h1, h2⟩ := (h : wk1 ar r x y ∧ wkL ar r yr xr)
      obtain ⟨w1, w2⟩ := (hw : wf1 b r y ∧ wfL b r yr)
      obtain ⟨q1, q2⟩ := ih h2 w2
      refine ⟨by simp [q1], fun i x' y' hx hy => ?_⟩
      cases i with
      | zero => simp at hx hy; subst hx hy; exact ⟨h1, w1⟩
      | succ i => simp at hx hy; exact q2 i x' y' hx hy

theorem wkV_sound (inv : Inv T Φ σ a w G) {v : Value} {x y : V} (hx : Rv w G v x) (hok : x.ok σ.hasB σ.hasA) (h : wkV σ.ar r x y) (hw : wfV b r y) (τ : St) (hb : τ.bx = b) (hr : τ.ar = r) :
    Rv w (nilGh σ G) v y ∧ y.ok τ.hasB τ.hasA := by
  unfold wkV at h
  split at h
  · rename_i ys
    split at h
    · rename_i xs
      obtain ⟨q1, q2⟩ := wkL_spec h hw
      obtain ⟨cs, rfl, hl, ho, hrel⟩ := hx.agg_inv
      simp only [V.ok] at hok
      have each : ∀ (i : Nat) c y, cs[i]? = some c → ys[i]? = some y → Rv w (nilGh σ G) c y ∧ y.ok τ.hasB τ.hasA := by
        intro i c y hc hy
        have hi : i < xs.length := by rw [q1]; exact (List.getElem?_eq_some_iff.1 hy).1
        have hxi : xs[i]? = some xs[i] := by simp [hi]
        obtain ⟨k1, k2⟩ := q2 i xs[i] y hxi hy
        exact wk1_sound inv (hrel i c xs[i] hc hxi) (okL_iff.1 hok _ (List.getElem_mem hi)) k1 k2 τ hb hr
      refine ⟨.agg cs ys (by omega) ho fun i c y hc hy => (each i c y hc hy).1, ?_⟩
      simp only [V.ok]
      rw [okL_iff]
      intro y hy
      obtain ⟨i, hi⟩ := List.getElem?_of_mem hy
      have hlt : i < cs.size := by rw [hl, q1]; exact (List.getElem?_eq_some_iff.1 hi).1
      exact (each i cs[i] y (by simp [hlt]) hi).2
    · exact h.elim
  · rename_i hna
    refine wk1_sound inv hx hok h ?_ τ hb hr
    unfold wfV at hw
    split at hw
    · exact (hna _ rfl).elim
    · exact hw

theorem ofL_cases {α : Type} {dflt : α} {l : List (Nat × α)} (s : Nat) : ofL dflt l s = dflt ∨ ∃ p ∈ l, p.1 = s ∧ ofL dflt l s = p.2 := by
  induction l with
  | nil => exact .inl rfl
  | cons p q ih =>
    have hd : ofL dflt (p :: q) s = cond (Nat.beq s p.1) p.2 (ofL dflt q s) := rfl
    rw [hd]
    cases hb : Nat.beq s p.1 with
    | true => exact .inr ⟨p, by simp, (Nat.eq_of_beq_eq_true hb).symm, rfl⟩
    | false =>
      rcases ih with h | ⟨p', hp, h1, h2⟩
      · exact .inl h
      · exact .inr ⟨p', by simp [hp], h1, h2⟩
theorem ofO_cases {α : Type} {l : List (Nat × α)} {s : Nat} {x : α} (h : ofO l s = some x) : ∃ p ∈ l, p.1 = s ∧ p.2 = x := by
  induction l with
  | nil => cases h
  | cons p q ih =>
    have hd : ofO (p :: q) s = cond (Nat.beq s p.1) (some p.2) (ofO q s) := rfl
    rw [hd] at h
    cases hb : Nat.beq s p.1 with
    | true => rw [hb] at h; exact ⟨p, by simp, (Nat.eq_of_beq_eq_true hb).symm, by simpa using h⟩
    | false =>
      rw [hb] at h
      obtain ⟨p', hp, h1, h2⟩ := ih h
      exact ⟨p', by simp [hp], h1, h2⟩

theorem wkE_spec {e : List (Nat × V)} (h : wkE σ b r e) : ∀ p ∈ e, wkV σ.ar r (σ.env p.1) p.2 ∧ wfV b r p.2 := by
  induction e with
  | nil => intro p hp; cases hp
  | cons q l ih =>
    obtain ⟨h1, h2⟩ := (h : (wkV σ.ar r (σ.env q.1) q.2 ∧ wfV b r q.2) ∧ wkE σ b r l)
    intro p hp
    rcases List.mem_cons.1 hp with rfl | hp
    · exact h1
    · exact ih h2 p hp
theorem wkB_spec {l : List (Nat × List V)} (h : wkB σ b r l) : ∀ p ∈ l, ∃ cs, σ.bx p.1 = some cs ∧ wkL σ.ar r p.2 cs ∧ wfL b r p.2 := by
  induction l with
  | nil => intro p hp; cases hp
  | cons q l ih =>
    obtain ⟨h1, h2⟩ := (h : (match σ.bx q.1 with | some cs => wkL σ.ar r q.2 cs ∧ wfL b r q.2 | none => False) ∧ wkB σ b r l)
    intro p hp
    rcases List.mem_cons.1 hp with rfl | hp
    · split at h1
      · rename_i cs hcs; exact ⟨cs, hcs, h1⟩
      · exact h1.elim
    · exact ih h2 p hp
theorem wkA_spec {l : List (Nat × AE)} (h : wkA T σ l) : ∀ p ∈ l, wkAE T (σ.ar p.1) p.2 := by
  induction l with
  | nil => intro p hp; cases hp
  | cons q l ih =>
    obtain ⟨h1, h2⟩ := (h : wkAE T (σ.ar q.1) q.2 ∧ wkA T σ l)
    intro p hp
    rcases List.mem_cons.1 hp with rfl | hp
    · exact h1
    · exact ih h2 p hp

theorem kindLe_arr (inv : Inv T Φ σ a w G) {k : Nat} {en0 en : AE} (h0 : σ.ar k = some en0) (h1 : en0.gen = en.gen) (h2 : kindLe en0.kind en.kind) (h3 : en0.ty = en.ty) (h4 : en0.l = en.l) : ArrOk T w G k en := by
  have ha := inv.arr k en0 h0
  obtain ⟨g0, k0, t0, l0⟩ := en0
  obtain ⟨g, kd, t, l⟩ := en
  simp only at h1 h2 h3 h4
  subst h1 h3 h4
  cases kd <;> cases k0 <;> simp only [kindLe] at h2 <;> first | exact h2.elim | exact trivial | exact ha | skip
  unfold ArrOk at ha ⊢
  exact ⟨ha.1, .inl ha.2⟩

/-- THE WAY DOWN TO A STATE GIVEN BY LISTS -/
theorem le_mk {e : List (Nat × V)} {lb : List (Nat × List V)} {lr : List (Nat × AE)} (hA : wkA T σ lr) (hB : wkB σ (ofO lb) (ofO lr) lb) (hE : wkE σ (ofO lb) (ofO lr) e) : Le T σ (mkSt e lb lr) := by
  unfold Le
  intro Φ a w G inv
  have bot : ∀ s, (mkSt e lb lr).env s = .bot ∨ ∃ p ∈ e, p.1 = s ∧ (mkSt e lb lr).env s = p.2 := fun s => ofL_cases s
  have hav : ∀ k g, σ.hasA k g → (nilGh σ G).av k g = G.av k g := fun k g h => nil_av h
  refine ⟨nilGh σ G, ?_⟩
  refine { nd := inv.nd, sz := inv.sz, env := ?_, wfE := ?_, box := ?_, wfB := ?_, arr := ?_, wfA := ?_, tag := inv.tag, mineB := inv.mineB, mineA := inv.mineA, fzm := inv.fzm, F0 := inv.F0, frame := inv.frame, size := inv.size, os := inv.os, tape := inv.tape, output := inv.output }
  · intro s
    rcases bot s with h | ⟨p, hp, rfl, h⟩
    · rw [h]; exact .bot _
    · rw [h]
      obtain ⟨h1, h2⟩ := wkE_spec hE p hp
      exact (wkV_sound inv (inv.env p.1) (inv.wfE p.1) h1 h2 (mkSt e lb lr) rfl rfl).1
  · intro s
    rcases bot s with h | ⟨p, hp, rfl, h⟩
    · rw [h]; simp only [V.ok]
    · rw [h]
      obtain ⟨h1, h2⟩ := wkE_spec hE p hp
      exact (wkV_sound inv (inv.env p.1) (inv.wfE p.1) h1 h2 (mkSt e lb lr) rfl rfl).2
  · intro i cs hi
    obtain ⟨p, hp, rfl, rfl⟩ := ofO_cases hi
    obtain ⟨cs0, hcs0, h1, h2⟩ := wkB_spec hB p hp
    obtain ⟨c, t, g1, g2, g3⟩ := inv.box p.1 cs0 hcs0
    obtain ⟨q1, q2⟩ := wkL_spec h1 h2
    refine ⟨c, t, g1, ⟨by rw [g2.len, q1], g2.one, fun i v y hv hy => ?_⟩, g3⟩
    have hlt : i < cs0.length := by rw [q1]; exact (List.getElem?_eq_some_iff.1 hy).1
    have hxi : cs0[i]? = some cs0[i] := by simp [hlt]
    obtain ⟨k1, k2⟩ := q2 i cs0[i] y hxi hy
    exact (wk1_sound inv (g2.rel i v cs0[i] hv hxi) (okL_iff.1 (inv.wfB p.1 cs0 hcs0) _ (List.getElem_mem hlt)) k1 k2 (mkSt e lb lr) rfl rfl).1
  · intro i cs hi
    obtain ⟨p, hp, rfl, rfl⟩ := ofO_cases hi
    obtain ⟨cs0, hcs0, h1, h2⟩ := wkB_spec hB p hp
    obtain ⟨c, t, g1, g2, g3⟩ := inv.box p.1 cs0 hcs0
    obtain ⟨q1, q2⟩ := wkL_spec h1 h2
    rw [okL_iff]
    intro y hy
    obtain ⟨i, hi'⟩ := List.getElem?_of_mem hy
    have hlt : i < cs0.length := by rw [q1]; exact (List.getElem?_eq_some_iff.1 hi').1
    have hxi : cs0[i]? = some cs0[i] := by simp [hlt]
    have hlc : i < c.toList.length := by rw [g2.len]; exact hlt
    obtain ⟨k1, k2⟩ := q2 i cs0[i] y hxi hi'
    exact (wk1_sound inv (g2.rel i c.toList[i] cs0[i] (by simp) hxi) (okL_iff.1 (inv.wfB p.1 cs0 hcs0) _ (List.getElem_mem hlt)) k1 k2 (mkSt e lb lr) rfl rfl).2
  · intro k en hk
    obtain ⟨p, hp, rfl, rfl⟩ := ofO_cases hk
    have h := wkA_spec hA p hp
    unfold wkAE at h
    split at h
    · rename_i en0 h0
      have hok := kindLe_arr inv h0 h.1 h.2.1 h.2.2.1 h.2.2.2
      refine hok.keep (nil_keep σ w G) ?_ ?_ (fun b hb => ⟨hb, rfl⟩)
      · rw [← h.2.2.2]; exact inv.wfA _ _ h0
      · exact hav _ _ ⟨en0, h0, by omega⟩
    · rename_i h0
      obtain ⟨h1, h2, h3⟩ := h
      have hnil : (nilGh σ G).av p.1 p.2.gen = .slice none 0 0 := by simp [nilGh, h0]
      have hlt := blt h3
      unfold ArrOk
      split
      · trivial
      · rename_i hkd; rw [hkd] at h1; exact h1.elim
      · rw [hnil, h2]; exact ⟨hlt, .inl ⟨rfl, rfl⟩⟩
      · rw [hnil, h2]; exact ⟨hlt, .inl (.inl ⟨rfl, rfl⟩)⟩
  · intro k en hk
    obtain ⟨p, hp, rfl, rfl⟩ := ofO_cases hk
    have h := wkA_spec hA p hp
    unfold wkAE at h
    split at h
    · rename_i en0 h0
      rw [← h.2.2.2]; exact inv.wfA _ _ h0
    · rw [h.2.1]; simp only [V.okL]
end
end Go.Ab
