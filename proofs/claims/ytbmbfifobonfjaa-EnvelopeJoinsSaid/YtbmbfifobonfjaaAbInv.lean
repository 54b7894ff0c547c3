/-
  How the relation goes on when the world changes.
-/
import Derived.Test.YtbmbfifobonfjaaAbOps1
set_option linter.unusedVariables false
set_option linter.unusedSimpArgs false
namespace Go.Ab
section
variable {T : Tab} {P : Program} {Φ : Fr} {σ σ' : St} {a : Act} {w w' : World} {G G' : Gh}

theorem OwnOk.keep {k : Nat} {u : Value} {ty : TypeId} {l : List V} (hk : Keep w w' G G') (hp : pureL l) (hO : ∀ b, G.O b = .ar k → G'.O b = .ar k ∧ w'.heap[b]? = w.heap[b]?) (h : OwnOk T w G k u ty l) : OwnOk T w' G' k u ty l := by
  rcases h with h | ⟨b, cap, cur, h1, h2, h3, h4, h5, h6, h7, h8⟩
  · exact .inl h
  · refine .inr ⟨b, cap, cur, h1, (hO b h2).1, (hO b h2).2.trans h3, h4, h5, h6, h7, h8.keep hk (p := fun _ => False) (q := fun _ _ => False) ?_ (fun _ h => h.elim) (fun _ _ h => h.elim)⟩
    rw [okL_iff]
    intro y hy
    obtain ⟨j, hj⟩ := List.getElem?_of_mem hy
    exact ok_of_mem_flat hp hj

theorem Rv.pure_keep {v : Value} {x : V} (hk : Keep w w' G G') (hp : x.pure) (h : Rv w G v x) : Rv w' G' v x := h.keep hk hp (fun _ h => h.elim) (fun _ _ h => h.elim)

theorem ArrOk.keep {k : Nat} {en : AE} (hk : Keep w w' G G') (hp : pureL en.l) (hav : G'.av k en.gen = G.av k en.gen) (hO : ∀ b, G.O b = .ar k → G'.O b = .ar k ∧ w'.heap[b]? = w.heap[b]?) (h : ArrOk T w G k en) : ArrOk T w' G' k en := by
  unfold ArrOk at *
  rw [hav]
  have hs : (V.sl en.l).pure := by simp only [V.pure, V.ok]; exact hp
  have hc : (V.cap en.l).pure := by simp only [V.pure, V.ok]; exact hp
  split
  · trivial
  · rename_i hkd; rw [hkd] at h; exact h.pure_keep hk hs
  · rename_i hkd; rw [hkd] at h; exact ⟨h.1, h.2.keep hk hp hO⟩
  · rename_i hkd; rw [hkd] at h; exact ⟨h.1, h.2.imp (·.keep hk hp hO) (fun h => ⟨h.1.pure_keep hk hc, h.2⟩)⟩

theorem Inv.change (inv : Inv T Φ σ a w G) (henv : σ'.env = σ.env) (hk : Keep w w' G G')
    (hβ : ∀ i, σ.hasB i → G'.β i = G.β i) (hav : ∀ k g, σ.hasA k g → G'.av k g = G.av k g)
    (hB : ∀ i, σ.hasB i → σ'.hasB i) (hA : ∀ k g, σ.hasA k g → σ'.hasA k g)
    (hbox : ∀ i cs, σ'.bx i = some cs → (σ.bx i = some cs ∧ G'.O (G.β i) = .bx i ∧ w'.heap[G.β i]? = w.heap[G.β i]?) ∨
      ((∃ c t, w'.heap[G'.β i]? = some (.cells c t (0, 0)) ∧ RvL w' G' c.toList cs ∧ G'.O (G'.β i) = .bx i) ∧ V.okL σ'.hasB σ'.hasA cs))
    (harr : ∀ k en, σ'.ar k = some en → (σ.ar k = some en ∧ ∀ b, G.O b = .ar k → G'.O b = .ar k ∧ w'.heap[b]? = w.heap[b]?) ∨ (ArrOk T w' G' k en ∧ pureL en.l))
    (htag : ∀ b, G'.O b ≠ .ext → b < w'.heap.size) (hO : ∀ b, G'.O b = G.O b ∨ G'.O b = .ext ∨ Φ.mine b)
    (hframe : ∀ b, w'.heap[b]? = w.heap[b]? ∨ Φ.mine b) (hsize : w.heap.size ≤ w'.heap.size) (hos : w'.os = w.os) (htape : w'.tape = w.tape) (hout : w'.output = w.output) : Inv T Φ σ' a w' G' where
  nd := inv.nd
  sz := inv.sz
  env s := by rw [henv]; exact (inv.env s).keep hk (inv.wfE s) hβ hav
  wfE s := by rw [henv]; exact V.ok.imp hB hA _ (inv.wfE s)
  box i cs hi := by
    rcases hbox i cs hi with ⟨h1, h2, h3⟩ | ⟨h1, _⟩
    · obtain ⟨c, t, g1, g2, g3⟩ := inv.box i cs h1
      refine ⟨c, t, ?_, g2.keep hk (inv.wfB i cs h1) hβ hav, ?_⟩
      · rw [hβ i ⟨cs, h1⟩, h3]; exact g1
      · rw [hβ i ⟨cs, h1⟩]; exact h2
    · exact h1
  wfB i cs hi := by
    rcases hbox i cs hi with ⟨h1, _, _⟩ | ⟨_, h2⟩
    · exact V.okL.imp hB hA _ (inv.wfB i cs h1)
    · exact h2
  arr k en hk' := by
    rcases harr k en hk' with ⟨h1, h2⟩ | ⟨h1, _⟩
    · exact (inv.arr k en h1).keep hk (inv.wfA k en h1) (hav k en.gen ⟨en, h1, Nat.le_refl _⟩) h2
    · exact h1
  wfA k en hk' := by
    rcases harr k en hk' with ⟨h1, _⟩ | ⟨_, h2⟩
    · exact inv.wfA k en h1
    · exact h2
  tag := htag
  mineB b i h := by
    rcases hO b with h1 | h1 | h1
    · exact inv.mineB b i (h1 ▸ h)
    · rw [h1] at h; cases h
    · exact h1
  mineA b k h := by
    rcases hO b with h1 | h1 | h1
    · exact inv.mineA b k (h1 ▸ h)
    · rw [h1] at h; cases h
    · exact h1
  fzm b h := by
    rcases hO b with h1 | h1 | h1
    · exact inv.fzm b (h1 ▸ h)
    · rw [h1] at h; cases h
    · exact .inr h1
  F0 b h := hk.fz b (inv.F0 b h)
  frame b hb hg := by
    rcases hframe b with h1 | h1
    · rw [h1]; exact inv.frame b hb hg
    · rcases h1 with h1 | h1
      · omega
      · exact absurd h1 hg
  size := Nat.le_trans inv.size hsize
  os := hos.trans inv.os
  tape := htape.trans inv.tape
  output := hout.trans inv.output

theorem upd_same {α : Type} (f : Nat → α) (s : Nat) (x : α) : upd f s x s = x := by simp [upd]
theorem upd_ne {α : Type} (f : Nat → α) {s t : Nat} (x : α) (h : t ≠ s) : upd f s x t = f t := by
  have : Nat.beq t s = false := by rw [← Bool.not_eq_true, Nat.beq_eq]; exact h
  simp [upd, this]

theorem Inv.ext_size (inv : Inv T Φ σ a w G) {b : Nat} (h : w.heap.size ≤ b) : G.O b = .ext := by
  cases h' : G.O b with
  | ext => rfl
  | _ => have := inv.tag b (by rw [h']; simp); omega

theorem mine_new (inv : Inv T Φ σ a w G) : Φ.mine w.heap.size := .inl inv.size

/-- a new variable -/
theorem Inv.newBox (inv : Inv T Φ σ a w G) {d : Nat} (hd : σ.bx d = none) {c : Array Value} {t : TypeId} {cs : List V} (hc : RvL w G c.toList cs) (hok : V.okL σ.hasB σ.hasA cs) :
    Inv T Φ (σ.apps [.b d cs]) a (w.alloc (.cells c t)) { G with β := upd G.β d w.heap.size, O := upd G.O w.heap.size (.bx d) } := by
  have hold : ∀ b, b < w.heap.size → (w.alloc (.cells c t)).heap[b]? = w.heap[b]? := fun b hb => heap_alloc_old w _ hb
  have hne : ∀ b, G.O b ≠ .ext → b ≠ w.heap.size := fun b hb e => by have := inv.tag b hb; omega
  have hkp : Keep w (w.alloc (.cells c t)) G { G with β := upd G.β d w.heap.size, O := upd G.O w.heap.size (.bx d) } :=
    ⟨fun b hb => by show upd G.O _ _ b = _; rw [upd_ne _ _ (hne b (by rw [hb]; simp))]; exact hb, fun b hb => hold b (inv.tag b (by rw [hb]; simp))⟩
  have hβ : ∀ i, σ.hasB i → upd G.β d w.heap.size i = G.β i := fun i ⟨x, hx⟩ => upd_ne _ _ (fun e => by subst e; rw [hd] at hx; cases hx)
  have hB : ∀ i, σ.hasB i → (σ.apps [.b d cs]).hasB i := fun i ⟨x, hx⟩ => ⟨x, by
    show upd σ.bx d _ i = _
    rw [upd_ne _ _ (fun e => by subst e; rw [hd] at hx; cases hx)]; exact hx⟩
  refine inv.change rfl hkp hβ (fun _ _ _ => rfl) hB (fun _ _ h => h) ?_ ?_ ?_ ?_ ?_ (by simp) rfl rfl rfl
  · intro i xs hi
    by_cases e : i = d
    · subst e
      refine .inr ⟨⟨c, t, ?_, ?_, ?_⟩, ?_⟩
      · show (w.alloc _).heap[upd G.β i w.heap.size i]? = _
        rw [upd_same]; exact heap_alloc_new w _
      · have : xs = cs := by
          have h2 : upd σ.bx i (some cs) i = some xs := hi
          rw [upd_same] at h2; cases h2; rfl
        subst this
        exact hc.keep hkp hok hβ (fun _ _ _ => rfl)
      · show upd G.O _ _ (upd G.β i w.heap.size i) = _
        rw [upd_same, upd_same]
      · have : xs = cs := by
          have h2 : upd σ.bx i (some cs) i = some xs := hi
          rw [upd_same] at h2; cases h2; rfl
        subst this
        exact V.okL.imp hB (fun _ _ h => h) _ hok
    · have h2 : σ.bx i = some xs := by
        have h2 : upd σ.bx d (some cs) i = some xs := hi
        rwa [upd_ne _ _ e] at h2
      obtain ⟨c', t', g1, g2, g3⟩ := inv.box i xs h2
      have hlt := inv.tag (G.β i) (by rw [g3]; simp)
      exact .inl ⟨h2, by show upd G.O _ _ _ = _; rw [upd_ne _ _ (by omega)]; exact g3, hold _ hlt⟩
  · intro k en hk
    refine .inl ⟨hk, fun b hb => ?_⟩
    have hlt := inv.tag b (by rw [hb]; simp)
    exact ⟨by show upd G.O _ _ _ = _; rw [upd_ne _ _ (by omega)]; exact hb, hold b hlt⟩
  · intro b hb
    by_cases e : b = w.heap.size
    · subst e; simp
    · have h2 : upd G.O w.heap.size (.bx d) b ≠ .ext := hb
      rw [upd_ne _ _ e] at h2
      have := inv.tag b h2
      simp; omega
  · intro b
    by_cases e : b = w.heap.size
    · subst e; exact .inr (.inr (mine_new inv))
    · exact .inl (upd_ne _ _ e)
  · intro b
    rcases Nat.lt_trichotomy b w.heap.size with h | h | h
    · exact .inl (hold b h)
    · subst h; exact .inr (mine_new inv)
    · refine .inl ?_
      rw [Array.getElem?_eq_none (by simp; omega), Array.getElem?_eq_none (by omega)]

/-- a variable is written -/
theorem Inv.setBox (inv : Inv T Φ σ a w G) {i : Nat} {old cs : List V} (hi : σ.bx i = some old) {c : Array Value} {t : TypeId} (hc : RvL w G c.toList cs) (hok : V.okL σ.hasB σ.hasA cs)
    (hw : w'.heap[G.β i]? = some (.cells c t (0, 0))) (ho : ∀ b, b ≠ G.β i → w'.heap[b]? = w.heap[b]?) (hs : w'.heap.size = w.heap.size) (hos : w'.os = w.os) (htape : w'.tape = w.tape) (hout : w'.output = w.output) :
    Inv T Φ (σ.apps [.b i cs]) a w' G := by
  obtain ⟨c0, t0, g1, g2, g3⟩ := inv.box i old hi
  have hkp : Keep w w' G G := ⟨fun _ h => h, fun b hb => ho b (fun e => by subst e; rw [g3] at hb; cases hb)⟩
  have hB : ∀ j, σ.hasB j → (σ.apps [.b i cs]).hasB j := fun j ⟨x, hx⟩ => by
    by_cases e : j = i
    · subst e; exact ⟨cs, upd_same _ _ _⟩
    · exact ⟨x, by show upd σ.bx i _ j = _; rw [upd_ne _ _ e]; exact hx⟩
  refine inv.change rfl hkp (fun _ _ => rfl) (fun _ _ _ => rfl) hB (fun _ _ h => h) ?_ ?_ ?_ (fun _ => .inl rfl) ?_ (by omega) hos htape hout
  · intro j xs hj
    by_cases e : j = i
    · subst e
      have : xs = cs := by
        have h2 : upd σ.bx j (some cs) j = some xs := hj
        rw [upd_same] at h2; cases h2; rfl
      subst this
      exact .inr ⟨⟨c, t, hw, hc.keep hkp hok (fun _ _ => rfl) (fun _ _ _ => rfl), g3⟩, V.okL.imp hB (fun _ _ h => h) _ hok⟩
    · have h2 : σ.bx j = some xs := by
        have h2 : upd σ.bx i (some cs) j = some xs := hj
        rwa [upd_ne _ _ e] at h2
      obtain ⟨c', t', q1, q2, q3⟩ := inv.box j xs h2
      exact .inl ⟨h2, q3, ho _ (fun e2 => by rw [e2, g3] at q3; cases q3; exact e rfl)⟩
  · intro k en hk
    exact .inl ⟨hk, fun b hb => ⟨hb, ho b (fun e => by subst e; rw [g3] at hb; cases hb)⟩⟩
  · intro b hb; rw [hs]; exact inv.tag b hb
  · intro b
    by_cases e : b = G.β i
    · subst e; exact .inr (inv.mineB _ i g3)
    · exact .inl (ho b e)

/-- an array of the call's own: made, or gone on to another state -/
theorem Inv.setArr (inv : Inv T Φ σ a w G) {k : Nat} {en : AE} {av' : Nat → Nat → Value} {O' : Nat → Tag}
    (hA : ∀ g, σ.hasA k g → g ≤ en.gen) (hav : ∀ k' g, σ.hasA k' g → av' k' g = G.av k' g) (hp : pureL en.l)
    (hok : ArrOk T w' { G with av := av', O := O' } k en)
    (hO : ∀ b, G.O b ≠ .ext → G.O b ≠ .ar k → O' b = G.O b) (hO' : ∀ b, O' b = G.O b ∨ O' b = .ext ∨ (O' b = .ar k ∧ Φ.mine b ∧ b < w'.heap.size) ∨ (O' b = .fz ∧ G.O b = .ar k))
    (ho : ∀ b, b < w.heap.size → G.O b ≠ .ar k → w'.heap[b]? = w.heap[b]?) (hs : w.heap.size ≤ w'.heap.size) (hos : w'.os = w.os) (htape : w'.tape = w.tape) (hout : w'.output = w.output) :
    Inv T Φ (σ.apps [.a k en]) a w' { G with av := av', O := O' } := by
  have hlt : ∀ b, G.O b ≠ .ext → b < w.heap.size := inv.tag
  have hkp : Keep w w' G { G with av := av', O := O' } := ⟨fun b hb => (hO b (by rw [hb]; simp) (by rw [hb]; simp)).trans hb, fun b hb => ho b (hlt b (by rw [hb]; simp)) (by rw [hb]; simp)⟩
  have hA' : ∀ j g, σ.hasA j g → (σ.apps [.a k en]).hasA j g := fun j g hh => by
    by_cases e : j = k
    · subst e; exact ⟨en, upd_same _ _ _, hA g hh⟩
    · obtain ⟨x, hx, hg⟩ := hh
      exact ⟨x, by show upd σ.ar k _ j = _; rw [upd_ne _ _ e]; exact hx, hg⟩
  refine inv.change rfl hkp (fun _ _ => rfl) hav (fun _ h => h) hA' ?_ ?_ ?_ ?_ ?_ hs hos htape hout
  · intro i cs hi
    obtain ⟨c, t, q1, q2, q3⟩ := inv.box i cs hi
    have hl := hlt (G.β i) (by rw [q3]; simp)
    exact .inl ⟨hi, (hO _ (by rw [q3]; simp) (by rw [q3]; simp)).trans q3, ho _ hl (by rw [q3]; simp)⟩
  · intro j x hj
    by_cases e : j = k
    · subst e
      have : x = en := by
        have h2 : upd σ.ar j (some en) j = some x := hj
        rw [upd_same] at h2; cases h2; rfl
      subst this
      exact .inr ⟨hok, hp⟩
    · have h2 : σ.ar j = some x := by
        have h2 : upd σ.ar k (some en) j = some x := hj
        rwa [upd_ne _ _ e] at h2
      refine .inl ⟨h2, fun b hb => ?_⟩
      have hl := hlt b (by rw [hb]; simp)
      have hn : G.O b ≠ .ar k := by rw [hb]; intro e2; cases e2; exact e rfl
      exact ⟨(hO b (by rw [hb]; simp) hn).trans hb, ho b hl hn⟩
  · intro b hb
    rcases hO' b with h | h | h | h
    · have : G.O b ≠ .ext := by rw [← h]; exact hb
      have := hlt b this; omega
    · exact absurd h hb
    · exact h.2.2
    · have := hlt b (by rw [h.2]; simp); omega
  · intro b
    rcases hO' b with h | h | h | h
    · exact .inl h
    · exact .inr (.inl h)
    · exact .inr (.inr h.2.1)
    · exact .inr (.inr (inv.mineA b k h.2))
  · intro b
    rcases Nat.lt_or_ge b w.heap.size with h | h
    · by_cases e : G.O b = .ar k
      · exact .inr (inv.mineA b k e)
      · exact .inl (ho b h e)
    · exact .inr (.inl (Nat.le_trans inv.size h))

/-- a slot is written -/
theorem Inv.putSlot (inv : Inv T Φ σ a w G) {d : Nat} (hd : d < Φ.n) {v' : Value} {v : V} (hv : Rv w G v' v) (hok : v.ok σ.hasB σ.hasA) : Inv T Φ (σ.set d v) (a.put (some d) v') w G where
  nd := inv.nd
  sz := by show (a.tmps.setIfInBounds d v').size = _; simp [inv.sz]
  env s := by
    show Rv w G ((a.tmps.setIfInBounds d v').getD s undef) (upd σ.env d v s)
    by_cases e : s = d
    · subst e
      rw [upd_same]
      have : (a.tmps.setIfInBounds s v').getD s undef = v' := by simp [inv.sz, hd]
      rw [this]; exact hv
    · rw [upd_ne _ _ e]
      have : (a.tmps.setIfInBounds d v').getD s undef = a.tmps.getD s undef := by
        simp [Array.getElem?_setIfInBounds_ne (Ne.symm e)]
      rw [this]; exact inv.env s
  wfE s := by
    show (upd σ.env d v s).ok _ _
    by_cases e : s = d
    · subst e; rw [upd_same]; exact hok
    · rw [upd_ne _ _ e]; exact inv.wfE s
  box := inv.box
  wfB := inv.wfB
  arr := inv.arr
  wfA := inv.wfA
  tag := inv.tag
  mineB := inv.mineB
  mineA := inv.mineA
  fzm := inv.fzm
  F0 := inv.F0
  frame := inv.frame
  size := inv.size
  os := inv.os
  tape := inv.tape
  output := inv.output

theorem Inv.drew (inv : Inv T Φ σ a w G) (n : Nat) : Inv T Φ σ a { w with drawn := n } G :=
  inv.change rfl ⟨fun _ h => h, fun _ _ => rfl⟩ (fun _ _ => rfl) (fun _ _ _ => rfl) (fun _ h => h) (fun _ _ h => h)
    (fun i cs hi => .inl ⟨hi, (inv.box i cs hi).choose_spec.choose_spec.2.2, rfl⟩) (fun _ _ hk => .inl ⟨hk, fun _ hb => ⟨hb, rfl⟩⟩) inv.tag (fun _ => .inl rfl) (fun _ => .inl rfl) (Nat.le_refl _) rfl rfl rfl
end
end Go.Ab
