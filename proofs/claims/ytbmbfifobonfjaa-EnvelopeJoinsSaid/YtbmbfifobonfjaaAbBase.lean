/-
  Small laws: the recursors' functions are the usual ones; what the values' relation gives.
-/
import Derived.Test.YtbmbfifobonfjaaAbTab
set_option linter.unusedVariables false
set_option linter.unusedSimpArgs false
namespace Go.Ab

section lists
variable {α β : Type}
theorem takeR_eq (l : List α) : ∀ n, takeR l n = l.take n := by
  induction l with
  | nil => intro n; simp [takeR]
  | cons x r ih =>
    intro n
    cases n with
    | zero => rfl
    | succ n => exact congrArg (x :: ·) (ih n)
theorem dropR_eq (l : List α) : ∀ n, dropR l n = l.drop n := by
  induction l with
  | nil => intro n; simp [dropR]
  | cons x r ih =>
    intro n
    cases n with
    | zero => rfl
    | succ n => exact ih n
theorem appR_eq (l m : List α) : appR l m = l ++ m := by
  induction l with
  | nil => rfl
  | cons x r ih => exact congrArg (x :: ·) ih
theorem lenR_eq (l : List α) : lenR l = l.length := by
  induction l with
  | nil => rfl
  | cons x r ih => exact congrArg Nat.succ ih
theorem mapR_eq (f : α → β) (l : List α) : mapR f l = l.map f := by
  induction l with
  | nil => rfl
  | cons x r ih => exact congrArg (f x :: ·) ih
theorem allR_eq (f : α → Bool) (l : List α) : allR f l = l.all f := by
  induction l with
  | nil => rfl
  | cons x r ih =>
    show cond (f x) (allR f r) false = _
    rw [ih]
    cases h : f x <;> simp [h]
theorem allR_iff {f : α → Bool} {l : List α} : allR f l = true ↔ ∀ x ∈ l, f x = true := by rw [allR_eq]; exact List.all_eq_true
end lists

theorem splice_eq (cs : List V) (off : Nat) (xs : List V) : splice cs off xs = cs.take off ++ (xs ++ cs.drop (off + xs.length)) := by
  simp [splice, takeR_eq, dropR_eq, appR_eq, lenR_eq]

theorem force_eq (v : V) (K : V → Prop) : force v K = K v := by cases v <;> rfl
theorem forceL_eq (l : List V) : ∀ K : List V → Prop, forceL l K = K l := by
  induction l with
  | nil => intro K; rfl
  | cons x r ih =>
    intro K
    show force x (fun x' => forceL r fun r' => K (x' :: r')) = _
    rw [force_eq, ih]

theorem cond_F {b : Bool} {p : Prop} (h : cond b p False) : b = true ∧ p := by cases b <;> simp_all
theorem blt {a b : Nat} (h : Nat.blt a b = true) : a < b := by simpa [Nat.blt_eq] using h
theorem need_p {p K : Prop} (h : need p K) : p ∧ K := by replace h := h.out; exact h
theorem arith_p {k : IntKind} {n : Int} {K : Int → Prop} (h : arith k n K) : K (k.wrap n) := by replace h := h.out; exact h
theorem idx_p {l : List V} {i : Nat} {K : V → Prop} (h : idx l i K) : ∃ x, l[i]? = some x ∧ K x := by replace h := h.out; exact h

theorem cells_one {v : Value} (h : v.oneCell' = true) : v.cells = #[v] := by cases v <;> simp_all [Value.oneCell', Value.cells]

theorem add_block (a : Addr) (n : Nat) : (a.add n).block = a.block := by unfold Addr.add; split <;> rfl
theorem add_add' (a : Addr) (i j : Nat) : (a.add i).add j = a.add (i + j) := by
  unfold Addr.add
  by_cases hi : i = 0 <;> by_cases hj : j = 0 <;> simp [hi, hj, Nat.add_assoc]
theorem add_lit' (b o n : Nat) : (⟨b, o, none⟩ : Addr).add n = ⟨b, o + n, none⟩ := by unfold Addr.add; split <;> simp_all
theorem add_zero' (a : Addr) : a.add 0 = a := by simp [Addr.add]

theorem Rv.cells {w : World} {G : Gh} {v : Value} {x : V} (h : Rv w G v x) (h1 : ∀ y ∈ x.cells, y.one = true) : RvL w G v.cells.toList x.cells := by
  have single : x.cells = [x] → v.oneCell' = true → RvL w G v.cells.toList x.cells := by
    intro hx hv
    rw [hx, cells_one hv]
    refine ⟨rfl, by simpa using hv, fun i u y hu hy => ?_⟩
    cases i with
    | zero => simp at hu hy; subst hu; subst hy; exact h
    | succ i => simp at hu
  cases h with
  | bot v => simp [V.cells, V.one] at h1
  | lit u hu => exact single rfl hu
  | agg cs xs hl ho hh => exact ⟨by simpa [Value.cells, V.cells] using hl, by simpa [Value.cells] using ho, fun i c x hc hx => hh i c x (by simpa [Value.cells] using hc) hx⟩
  | tup cs xs hl hh => simp [V.cells, V.one] at h1
  | slN => exact single rfl rfl
  | slS => exact single rfl rfl
  | capN => exact single rfl rfl
  | capS => exact single rfl rfl
  | box i off => exact single rfl rfl
  | arr k g hh => exact single rfl hh
  | fp => exact single rfl rfl
  | ae => exact single rfl rfl

theorem Rv.lit_eq {w : World} {G : Gh} {v u : Value} (h : Rv w G v (.lit u)) : v = u := by cases h; rfl
theorem Rv.lit_one {w : World} {G : Gh} {v u : Value} (h : Rv w G v (.lit u)) : u.oneCell' = true := by cases h; assumption
theorem Rv.agg_inv {w : World} {G : Gh} {v : Value} {xs : List V} (h : Rv w G v (.agg xs)) : ∃ cs : Array Value, v = .agg cs ∧ cs.size = xs.length ∧ (∀ c ∈ cs, c.oneCell' = true) ∧ ∀ (i : Nat) c x, cs[i]? = some c → xs[i]? = some x → Rv w G c x := by
  cases h with
  | agg cs xs hl ho hh => exact ⟨cs, rfl, hl, ho, hh⟩
theorem Rv.tup_inv {w : World} {G : Gh} {v : Value} {xs : List V} (h : Rv w G v (.tup xs)) : ∃ cs : Array Value, v = .tuple cs ∧ cs.size = xs.length ∧ ∀ (i : Nat) c x, cs[i]? = some c → xs[i]? = some x → Rv w G c x := by
  cases h with
  | tup cs xs hl hh => exact ⟨cs, rfl, hl, hh⟩
theorem Rv.box_eq {w : World} {G : Gh} {v : Value} {i off : Nat} (h : Rv w G v (.box i off)) : v = .pointer (some ⟨G.β i, off, none⟩) := by cases h; rfl
theorem Rv.arr_eq {w : World} {G : Gh} {v : Value} {k g : Nat} (h : Rv w G v (.arr k g)) : v = G.av k g := by cases h; rfl
theorem Rv.fp_inv {w : World} {G : Gh} {v : Value} {cs : List V} (h : Rv w G v (.fp cs)) : ∃ (a : Addr) (cc : Nat → Value), v = .pointer (some a) ∧ (cs ≠ [] → G.O a.block = .fz) ∧ At w a cc cs ∧ ∀ (j : Nat) y, cs[j]? = some y → Rv w G (cc j) y := by
  cases h with
  | fp a cs cc hf hc hh => exact ⟨a, cc, rfl, hf, hc, hh⟩
theorem Rv.ae_inv {w : World} {G : Gh} {v : Value} {k g sz i off : Nat} (h : Rv w G v (.ae k g sz i off)) : ∃ (a : Addr) (n c : Nat), v = .pointer (some (a.add (i * sz + off))) ∧ G.av k g = .slice (some a) n c := by
  cases h with
  | ae k g sz i off a n c hh => exact ⟨a, n, c, rfl, hh⟩
theorem Rv.sl_inv {w : World} {G : Gh} {v : Value} {l : List V} (h : Rv w G v (.sl l)) : (v = .slice none 0 0 ∧ l = []) ∨ ∃ (a : Addr) (c sz : Nat) (cc : Nat → Value), v = .slice (some a) l.length c ∧ l.length ≤ c ∧ c ≤ maxLen ∧ (0 < l.length → G.O a.block = .fz) ∧ (∀ x ∈ l, x.cells.length = sz) ∧ At w a cc (l.flatMap V.cells) ∧ ∀ (j : Nat) y, (l.flatMap V.cells)[j]? = some y → Rv w G (cc j) y := by
  cases h with
  | slN => exact .inl ⟨rfl, rfl⟩
  | slS a c l sz cc hc hm hf hz hcell hh => exact .inr ⟨a, c, sz, cc, rfl, hc, hm, hf, hz, hcell, hh⟩
theorem Rv.cap_inv {w : World} {G : Gh} {v : Value} {l : List V} (h : Rv w G v (.cap l)) : (v = .slice none 0 0 ∧ l = []) ∨ ∃ (a : Addr) (sz : Nat) (cc : Nat → Value), v = .slice (some a) l.length l.length ∧ l.length ≤ maxLen ∧ (0 < l.length → G.O a.block = .fz) ∧ (∀ x ∈ l, x.cells.length = sz) ∧ At w a cc (l.flatMap V.cells) ∧ ∀ (j : Nat) y, (l.flatMap V.cells)[j]? = some y → Rv w G (cc j) y := by
  cases h with
  | capN => exact .inl ⟨rfl, rfl⟩
  | capS a l sz cc hm hf hz hcell hh => exact .inr ⟨a, sz, cc, rfl, hm, hf, hz, hcell, hh⟩
/-- a slice with cap = len is a slice -/
theorem Rv.cap_sl {w : World} {G : Gh} {v : Value} {l : List V} (h : Rv w G v (.cap l)) : Rv w G v (.sl l) := by
  cases h with
  | capN => exact .slN
  | capS a l sz cc hm hf hz hcell hh => exact .slS a l.length l sz cc (Nat.le_refl _) hm hf hz hcell hh

theorem ok_cells {p : Nat → Prop} {q : Nat → Nat → Prop} {x : V} (h : x.ok p q) : V.okL p q x.cells := by
  cases x <;> simp_all [V.cells, V.ok, V.okL]

theorem Inv.ev {T : Tab} {Φ : Fr} {σ : St} {a : Act} {w : World} {G : Gh} (inv : Inv T Φ σ a w G) (x : Operand) : Rv w G (a.eval x) (σ.ev x) ∧ (σ.ev x).ok σ.hasB σ.hasA := by
  cases x with
  | tmp t => exact ⟨inv.env t, inv.wfE t⟩
  | const v =>
    simp only [Act.eval, St.ev]
    unfold ofVal
    split
    · rename_i cs
      by_cases hc : allR Value.oneCell' cs.toList = true
      · rw [hc]
        have hall := allR_iff.1 hc
        refine ⟨Rv.agg cs _ (by simp [mapR_eq]) (by simpa using hall) fun i c x hc hx => ?_, ?_⟩
        · rw [mapR_eq, List.getElem?_map] at hx
          have : cs.toList[i]? = some c := by simpa using hc
          rw [this] at hx
          simp at hx
          subst hx
          exact .lit c (hall c (List.mem_of_getElem? this))
        · simp only [cond_true, V.ok, okL_iff, mapR_eq, List.mem_map]
          rintro x ⟨c, _, rfl⟩
          simp only [V.ok]
      · rw [Bool.not_eq_true] at hc
        rw [hc]
        exact ⟨.bot _, by simp only [cond_false, V.ok]⟩
    · exact ⟨.bot _, by simp only [V.ok]⟩
    · rename_i h1 h2
      refine ⟨.lit v ?_, by simp only [V.ok]⟩
      cases v <;> simp_all [Value.oneCell']
  | global g => exact ⟨.bot _, by simp only [St.ev, V.ok]⟩
  | func f => exact ⟨.bot _, by simp only [St.ev, V.ok]⟩

/-- what an operation comes to -/
def Out (T : Tab) (Φ : Fr) (σ : St) (a : Act) (K : VK) (res : Result Next) : Prop :=
  ∃ v' w' v ms G', (res = .ok (.value v') w' ∨ (res = .ok .skip w' ∧ v' = undef)) ∧ K v ms ∧ Inv T Φ (σ.apps ms) a w' G' ∧ Rv w' G' v' v ∧ v.ok (σ.apps ms).hasB (σ.apps ms).hasA

theorem Out.plain {T : Tab} {Φ : Fr} {σ : St} {a : Act} {w : World} {G : Gh} {K : VK} {res : Result Next} {v' : Value} {v : V} (inv : Inv T Φ σ a w G) (hr : res = .ok (.value v') w) (hk : K v []) (hv : Rv w G v' v) (ho : v.ok σ.hasB σ.hasA) : Out T Φ σ a K res :=
  ⟨v', w, v, [], G, .inl hr, hk, inv, hv, ho⟩

end Go.Ab
