/-
  What the executor's values and states say of the model's values and worlds.
-/
import Derived.Test.YtbmbfifobonfjaaAbDefs
set_option linter.unusedVariables false
set_option linter.unusedSimpArgs false
namespace Go.Ab

inductive Tag where
  | ext | fz | bx (i : Nat) | ar (k : Nat)

/-- ghost: where this call's variables lie, what its slices are, and who owns each block -/
structure Gh where
  β : Nat → Nat
  av : Nat → Nat → Value
  O : Nat → Tag

/-- cells from an address on, that hold the values cc -/
def At (w : World) (a : Addr) (cc : Nat → Value) (xs : List V) : Prop :=
  ∀ j y, xs[j]? = some y → w.cell? (a.add j) = some (cc j) ∧ (cc j).oneCell' = true

inductive Rv (w : World) (G : Gh) : Value → V → Prop
  | bot (v : Value) : Rv w G v .bot
  | lit (u : Value) (h : u.oneCell' = true) : Rv w G u (.lit u)
  | agg (cs : Array Value) (xs : List V) (hl : cs.size = xs.length) (ho : ∀ c ∈ cs, c.oneCell' = true)
      (h : ∀ (i : Nat) c x, cs[i]? = some c → xs[i]? = some x → Rv w G c x) : Rv w G (.agg cs) (.agg xs)
  | tup (cs : Array Value) (xs : List V) (hl : cs.size = xs.length)
      (h : ∀ (i : Nat) c x, cs[i]? = some c → xs[i]? = some x → Rv w G c x) : Rv w G (.tuple cs) (.tup xs)
  | slN : Rv w G (.slice none 0 0) (.sl [])
  | slS (a : Addr) (c : Nat) (l : List V) (sz : Nat) (cc : Nat → Value) (hc : l.length ≤ c) (hm : c ≤ maxLen)
      (hf : 0 < l.length → G.O a.block = .fz) (hz : ∀ x ∈ l, x.cells.length = sz)
      (hcell : At w a cc (l.flatMap V.cells))
      (h : ∀ (j : Nat) y, (l.flatMap V.cells)[j]? = some y → Rv w G (cc j) y) : Rv w G (.slice (some a) l.length c) (.sl l)
  | capN : Rv w G (.slice none 0 0) (.cap [])
  | capS (a : Addr) (l : List V) (sz : Nat) (cc : Nat → Value) (hm : l.length ≤ maxLen)
      (hf : 0 < l.length → G.O a.block = .fz) (hz : ∀ x ∈ l, x.cells.length = sz)
      (hcell : At w a cc (l.flatMap V.cells))
      (h : ∀ (j : Nat) y, (l.flatMap V.cells)[j]? = some y → Rv w G (cc j) y) : Rv w G (.slice (some a) l.length l.length) (.cap l)
  | box (i off : Nat) : Rv w G (.pointer (some ⟨G.β i, off, none⟩)) (.box i off)
  | arr (k g : Nat) (h : (G.av k g).oneCell' = true) : Rv w G (G.av k g) (.arr k g)
  | fp (a : Addr) (cs : List V) (cc : Nat → Value) (hf : cs ≠ [] → G.O a.block = .fz) (hcell : At w a cc cs)
      (h : ∀ (j : Nat) y, cs[j]? = some y → Rv w G (cc j) y) : Rv w G (.pointer (some a)) (.fp cs)
  | ae (k g sz i off : Nat) (a : Addr) (n c : Nat) (h : G.av k g = .slice (some a) n c) : Rv w G (.pointer (some (a.add (i * sz + off)))) (.ae k g sz i off)

mutual
def V.ok (p : Nat → Prop) (q : Nat → Nat → Prop) : V → Prop
  | .box i _ => p i
  | .arr k g => q k g
  | .ae k g _ _ _ => q k g
  | .agg cs => V.okL p q cs
  | .tup cs => V.okL p q cs
  | .sl l => V.okL (fun _ => False) (fun _ _ => False) l
  | .cap l => V.okL (fun _ => False) (fun _ _ => False) l
  | .fp l => V.okL (fun _ => False) (fun _ _ => False) l
  | .own _ l => V.okL (fun _ => False) (fun _ _ => False) l
  | .ap _ l => V.okL (fun _ => False) (fun _ _ => False) l
  | .bot => True
  | .lit _ => True
def V.okL (p : Nat → Prop) (q : Nat → Nat → Prop) : List V → Prop
  | [] => True
  | x :: r => V.ok p q x ∧ V.okL p q r
end

/-- no variable, no array of a call in it -/
abbrev V.pure (x : V) : Prop := x.ok (fun _ => False) (fun _ _ => False)
abbrev pureL (l : List V) : Prop := V.okL (fun _ => False) (fun _ _ => False) l

theorem okL_iff {p : Nat → Prop} {q : Nat → Nat → Prop} {l : List V} : V.okL p q l ↔ ∀ x ∈ l, x.ok p q := by
  induction l with
  | nil => simp [V.okL]
  | cons x r ih => simp [V.okL, ih]

mutual
theorem V.ok.imp {p p' : Nat → Prop} {q q' : Nat → Nat → Prop} (hp : ∀ i, p i → p' i) (hq : ∀ k g, q k g → q' k g) : (x : V) → x.ok p q → x.ok p' q'
  | .box i _, h => by simp only [V.ok] at h ⊢; exact hp _ h
  | .arr k g, h => by simp only [V.ok] at h ⊢; exact hq _ _ h
  | .ae k g _ _ _, h => by simp only [V.ok] at h ⊢; exact hq _ _ h
  | .agg cs, h => by simp only [V.ok] at h ⊢; exact V.okL.imp hp hq cs h
  | .tup cs, h => by simp only [V.ok] at h ⊢; exact V.okL.imp hp hq cs h
  | .sl l, h => by simp only [V.ok] at h ⊢; exact h
  | .cap l, h => by simp only [V.ok] at h ⊢; exact h
  | .fp l, h => by simp only [V.ok] at h ⊢; exact h
  | .own _ l, h => by simp only [V.ok] at h ⊢; exact h
  | .ap _ l, h => by simp only [V.ok] at h ⊢; exact h
  | .bot, _ => by simp only [V.ok]
  | .lit _, _ => by simp only [V.ok]
theorem V.okL.imp {p p' : Nat → Prop} {q q' : Nat → Nat → Prop} (hp : ∀ i, p i → p' i) (hq : ∀ k g, q k g → q' k g) : (l : List V) → V.okL p q l → V.okL p' q' l
  | [], _ => by simp only [V.okL]
  | x :: r, h => by simp only [V.okL] at h ⊢; exact ⟨V.ok.imp hp hq x h.1, V.okL.imp hp hq r h.2⟩
end

theorem V.pure.ok {x : V} (h : x.pure) (p : Nat → Prop) (q : Nat → Nat → Prop) : x.ok p q := V.ok.imp (fun _ h => h.elim) (fun _ _ h => h.elim) x h

/-- a step of worlds and ghosts that keeps what stays as it is -/
structure Keep (w w' : World) (G G' : Gh) : Prop where
  fz : ∀ b, G.O b = .fz → G'.O b = .fz
  heap : ∀ b, G.O b = .fz → w'.heap[b]? = w.heap[b]?

theorem Keep.refl (w : World) (G : Gh) : Keep w w G G := ⟨fun _ h => h, fun _ _ => rfl⟩

theorem At.keep {w w' : World} {G G' : Gh} (k : Keep w w' G G') {a : Addr} {cc : Nat → Value} {xs : List V} (h : At w a cc xs) (hf : xs ≠ [] → G.O a.block = .fz) : At w' a cc xs := by
  intro j y hy
  have hb : (a.add j).block = a.block := by unfold Addr.add; split <;> rfl
  have hne : xs ≠ [] := by rintro rfl; simp at hy
  refine ⟨?_, (h j y hy).2⟩
  rw [← (h j y hy).1]
  exact World.cell?_of_block (by rw [hb]; exact k.heap _ (hf hne))

theorem flat_ne {l : List V} (h : l.flatMap V.cells ≠ []) : 0 < l.length := by
  cases l with
  | nil => simp at h
  | cons x r => simp

theorem ok_of_mem_flat {l : List V} (h : pureL l) {j : Nat} {y : V} (hy : (l.flatMap V.cells)[j]? = some y) : y.pure := by
  have hm : y ∈ l.flatMap V.cells := List.mem_of_getElem? hy
  obtain ⟨x, hx, hyx⟩ := List.mem_flatMap.1 hm
  have hxp := okL_iff.1 h x hx
  cases x with
  | agg cs =>
    have : V.okL (fun _ => False) (fun _ _ => False) cs := by simpa only [V.pure, V.ok] using hxp
    exact okL_iff.1 this y hyx
  | _ => simp only [V.cells, List.mem_singleton] at hyx; subst hyx; exact hxp

theorem Rv.keep {w w' : World} {G G' : Gh} (k : Keep w w' G G') {v : Value} {x : V} (h : Rv w G v x) :
    ∀ {p : Nat → Prop} {q : Nat → Nat → Prop}, x.ok p q → (∀ i, p i → G'.β i = G.β i) → (∀ k g, q k g → G'.av k g = G.av k g) → Rv w' G' v x := by
  induction h with
  | bot v => intros; exact .bot v
  | lit u h => intros; exact .lit u h
  | agg cs xs hl ho _ ih =>
    intro p q hok hp hq
    simp only [V.ok] at hok
    exact .agg cs xs hl ho fun i c x hc hx => ih i c x hc hx (okL_iff.1 hok x (List.mem_of_getElem? hx)) hp hq
  | tup cs xs hl _ ih =>
    intro p q hok hp hq
    simp only [V.ok] at hok
    exact .tup cs xs hl fun i c x hc hx => ih i c x hc hx (okL_iff.1 hok x (List.mem_of_getElem? hx)) hp hq
  | slN => intros; exact .slN
  | slS a c l sz cc hc hm hf hz hcell _ ih =>
    intro p q hok hp hq
    simp only [V.ok] at hok
    exact .slS a c l sz cc hc hm (fun h => k.fz _ (hf h)) hz (hcell.keep k fun h => hf (flat_ne h)) fun j y hy =>
      ih j y hy (ok_of_mem_flat hok hy) (fun _ h => h.elim) (fun _ _ h => h.elim)
  | capN => intros; exact .capN
  | capS a l sz cc hm hf hz hcell _ ih =>
    intro p q hok hp hq
    simp only [V.ok] at hok
    exact .capS a l sz cc hm (fun h => k.fz _ (hf h)) hz (hcell.keep k fun h => hf (flat_ne h)) fun j y hy =>
      ih j y hy (ok_of_mem_flat hok hy) (fun _ h => h.elim) (fun _ _ h => h.elim)
  | box i off =>
    intro p q hok hp hq
    simp only [V.ok] at hok
    have := hp i hok
    rw [← this]
    exact .box i off
  | arr k g h =>
    intro p q hok hp hq
    simp only [V.ok] at hok
    have e := hq k g hok
    rw [← e] at h ⊢
    exact .arr k g h
  | fp a cs cc hf hcell _ ih =>
    intro p q hok hp hq
    simp only [V.ok] at hok
    exact .fp a cs cc (fun h => k.fz _ (hf h)) (hcell.keep k hf) fun j y hy => ih j y hy (okL_iff.1 hok y (List.mem_of_getElem? hy)) (fun _ h => h.elim) (fun _ _ h => h.elim)
  | ae k g sz i off a n c h =>
    intro p q hok hp hq
    simp only [V.ok] at hok
    exact .ae k g sz i off a n c ((hq k g hok).trans h)

/-- a list of cells -/
structure RvL (w : World) (G : Gh) (vs : List Value) (xs : List V) : Prop where
  len : vs.length = xs.length
  one : ∀ v ∈ vs, v.oneCell' = true
  rel : ∀ (i : Nat) v x, vs[i]? = some v → xs[i]? = some x → Rv w G v x

theorem RvL.keep {w w' : World} {G G' : Gh} (k : Keep w w' G G') {vs : List Value} {xs : List V} (h : RvL w G vs xs) {p : Nat → Prop} {q : Nat → Nat → Prop} (hok : V.okL p q xs)
    (hp : ∀ i, p i → G'.β i = G.β i) (hq : ∀ k g, q k g → G'.av k g = G.av k g) : RvL w' G' vs xs :=
  ⟨h.len, h.one, fun i v x hv hx => (h.rel i v x hv hx).keep k (okL_iff.1 hok x (List.mem_of_getElem? hx)) hp hq⟩

/-- the frame of a call: the world at its entry, the blocks that were handed over to it, what stays as it is, its number of slots -/
structure Fr where
  w0 : World
  given : Nat → Prop
  F0 : Nat → Prop
  n : Nat

def Fr.mine (Φ : Fr) (b : Nat) : Prop := Φ.w0.heap.size ≤ b ∨ Φ.given b

/-- a slice in a block of the call's own -/
def OwnOk (T : Tab) (w : World) (G : Gh) (k : Nat) (u : Value) (ty : TypeId) (l : List V) : Prop :=
  (u = .slice none 0 0 ∧ l = []) ∨
  ∃ b cap cur, u = .slice (some ⟨b, 0, none⟩) l.length cap ∧ G.O b = .ar k ∧ w.heap[b]? = some (.cells cur ty (0, 0)) ∧ l.length ≤ cap ∧ cap ≤ maxLen ∧ cur.size = cap * (T.row ty).size ∧
    (∀ x ∈ l, x.cells.length = (T.row ty).size) ∧ RvL w G (cur.toList.take (l.length * (T.row ty).size)) (l.flatMap V.cells)

def ArrOk (T : Tab) (w : World) (G : Gh) (k : Nat) (en : AE) : Prop :=
  match en.kind with
  | .dead => True
  | .frz => Rv w G (G.av k en.gen) (.sl en.l)
  | .own => en.ty < T.n en.ty ∧ OwnOk T w G k (G.av k en.gen) en.ty en.l
  | .ap => en.ty < T.n en.ty ∧ (OwnOk T w G k (G.av k en.gen) en.ty en.l ∨ (Rv w G (G.av k en.gen) (.cap en.l) ∧ ∀ x ∈ en.l, x.cells.length = (T.row en.ty).size))

def St.hasB (σ : St) (i : Nat) : Prop := ∃ cs, σ.bx i = some cs
def St.hasA (σ : St) (k g : Nat) : Prop := ∃ en, σ.ar k = some en ∧ g ≤ en.gen

structure Inv (T : Tab) (Φ : Fr) (σ : St) (a : Act) (w : World) (G : Gh) : Prop where
  nd : a.defers = []
  sz : a.tmps.size = Φ.n
  env : ∀ s, Rv w G (a.tmps.getD s undef) (σ.env s)
  wfE : ∀ s, (σ.env s).ok σ.hasB σ.hasA
  box : ∀ i cs, σ.bx i = some cs → ∃ c t, w.heap[G.β i]? = some (.cells c t (0, 0)) ∧ RvL w G c.toList cs ∧ G.O (G.β i) = .bx i
  wfB : ∀ i cs, σ.bx i = some cs → V.okL σ.hasB σ.hasA cs
  arr : ∀ k en, σ.ar k = some en → ArrOk T w G k en
  wfA : ∀ k en, σ.ar k = some en → pureL en.l
  tag : ∀ b, G.O b ≠ .ext → b < w.heap.size
  mineB : ∀ b i, G.O b = .bx i → Φ.mine b
  mineA : ∀ b k, G.O b = .ar k → Φ.mine b
  fzm : ∀ b, G.O b = .fz → Φ.F0 b ∨ Φ.mine b
  F0 : ∀ b, Φ.F0 b → G.O b = .fz
  frame : ∀ b, b < Φ.w0.heap.size → ¬ Φ.given b → w.heap[b]? = Φ.w0.heap[b]?
  size : Φ.w0.heap.size ≤ w.heap.size
  os : w.os = Φ.w0.os
  tape : w.tape = Φ.w0.tape
  output : w.output = Φ.w0.output

/-- whatever meets the first state meets the second -/
@[irreducible] def Le (T : Tab) (σ σ' : St) : Prop := ∀ Φ a w G, Inv T Φ σ a w G → ∃ G', Inv T Φ σ' a w G'

/-- at a call: the value v is y, its own block (if it has one) marked j -/
def Rb (T : Tab) (w : World) (G : Gh) (j : Nat) (v : Value) (y : V) : Prop :=
  match y with
  | .own e l => e < T.n e ∧ pureL l ∧ OwnOk T w G j v e l
  | .ap e l => e < T.n e ∧ pureL l ∧ (OwnOk T w G j v e l ∨ (Rv w G v (.cap l) ∧ ∀ x ∈ l, x.cells.length = (T.row e).size))
  | y => y.pure ∧ Rv w G v y

/-- what is handed back: several values are a tuple -/
def Rr (T : Tab) (w : World) (G : Gh) (v : Value) (r : V) : Prop :=
  match r with
  | .tup rs => ∃ vs : Array Value, v = .tuple vs ∧ vs.size = rs.length ∧ ∀ (j : Nat) u y, vs[j]? = some u → rs[j]? = some y → Rb T w G j u y
  | r => Rb T w G 0 v r

/-- a function of the program, with a body -/
def callable (P : Program) (f : FuncId) : Bool :=
  match P.funcs[f]? with
  | some fn => fn.body.isSome && fn.name != "runtime.NumGoroutine"
  | none => false

/-- THE CONTRACT: called with values that are ys, it returns one that is r; what stays as it is stays, and nothing that was there changes but what was handed over. -/
def Spec (T : Tab) (P : Program) (f : FuncId) (ys : List V) (r : V) : Prop :=
  callable P f = true ∧ ∀ (w : World) (G : Gh) (cs : Array Value), cs.size = ys.length → (∀ b, G.O b ≠ .ext → b < w.heap.size) → (∀ b i, G.O b ≠ .bx i) →
    (∀ (j : Nat) v y, cs[j]? = some v → ys[j]? = some y → Rb T w G j v y) →
    Calls P f cs w fun e w' => ∃ v G', e = .returned v ∧ Rr T w' G' v r ∧
      (∀ b, G.O b = .fz → G'.O b = .fz) ∧ (∀ b, G'.O b ≠ .ext → b < w'.heap.size) ∧ (∀ b i, G'.O b ≠ .bx i) ∧
      (∀ b, G'.O b ≠ .ext → (G.O b = .fz ∧ G'.O b = .fz) ∨ w.heap.size ≤ b ∨ ∃ j, G.O b = .ar j) ∧
      (∀ b, b < w.heap.size → (∀ j, G.O b ≠ .ar j) → w'.heap[b]? = w.heap[b]?) ∧
      w.heap.size ≤ w'.heap.size ∧ w'.os = w.os ∧ w'.tape = w.tape ∧ w'.output = w.output

end Go.Ab
