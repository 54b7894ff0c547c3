/-
  How a condition of the executor is met: one lemma for each head at which 'whnf' comes to rest.
-/
import Derived.Test.YtbmbfifobonfjaaAbLe
import Derived.KernelRfl
set_option linter.unusedVariables false
set_option linter.unusedSimpArgs false
namespace Go.Ab
section
variable {T : Tab} {P : Program} {σ : St}

theorem seq_go {x y : CodeK} {Q : Exit → St → Prop} (h : x σ fun e σ' => match e with
    | .normal => y σ' Q
    | e => Q e σ') : SeqVC T x y σ Q := by refine ⟨?_⟩; exact .inl h
theorem seq_cut {x y : CodeK} {Q : Exit → St → Prop} (A : Type) (st : A → St) (inv : A → Prop) (h : x σ fun e σ' => match e with
    | .normal => ∃ p, Le T σ' (st p) ∧ inv p
    | e => Q e σ') (h2 : ∀ p, inv p → y (st p) Q) : SeqVC T x y σ Q := by refine ⟨?_⟩; exact .inr ⟨⟨A, st, inv, fun _ => 0⟩, h, h2⟩
theorem loop_i {x : CodeK} {Q : Exit → St → Prop} {A : Type} (st : A → St) (inv : A → Prop) (m : A → Nat) (p0 : A) (h0 : Le T σ (st p0)) (h1 : inv p0) (h : ∀ p, inv p → x (st p) fun e σ' => match e with
    | .normal => ∃ p', Le T σ' (st p') ∧ inv p' ∧ m p' < m p
    | e => Q e σ') : LoopVC T x σ Q := by refine ⟨?_⟩; exact ⟨⟨A, st, inv, m⟩, ⟨p0, h0, h1⟩, h⟩

theorem branch_s {b : Bool} {A B : Prop} (h1 : b = true → A) (h2 : b = false → B) : branch b A B := by
  cases b
  · exact h2 rfl
  · exact h1 rfl
theorem branch_t {b : Bool} {A B : Prop} (h : b = true) (h1 : A) : branch b A B := by subst h; exact h1
theorem branch_f {b : Bool} {A B : Prop} (h : b = false) (h1 : B) : branch b A B := by subst h; exact h1
theorem ltB_t {a b : Int} : ltB a b = true ↔ a < b := by unfold ltB; simp
theorem ltB_f {a b : Int} : ltB a b = false ↔ b ≤ a := by unfold ltB; simp
theorem leB_t {a b : Int} : leB a b = true ↔ a ≤ b := by unfold leB; simp
theorem leB_f {a b : Int} : leB a b = false ↔ b < a := by unfold leB; simp
theorem eqB_t {a b : Int} : eqB a b = true ↔ a = b := by unfold eqB; simp
theorem eqB_f {a b : Int} : eqB a b = false ↔ a ≠ b := by unfold eqB; simp
theorem andB_eq (a b : Bool) : andB a b = (a && b) := by unfold andB; rfl
theorem eqBB_eq (a b : Bool) : eqBB a b = (a == b) := by unfold eqBB; rfl
theorem br_lt {a b : Int} {A B : Prop} (h1 : a < b → A) (h2 : b ≤ a → B) : branch (ltB a b) A B := branch_s (fun h => h1 (ltB_t.1 h)) (fun h => h2 (ltB_f.1 h))
theorem br_le {a b : Int} {A B : Prop} (h1 : a ≤ b → A) (h2 : b < a → B) : branch (leB a b) A B := branch_s (fun h => h1 (leB_t.1 h)) (fun h => h2 (leB_f.1 h))
theorem br_eq {a b : Int} {A B : Prop} (h1 : a = b → A) (h2 : a ≠ b → B) : branch (eqB a b) A B := branch_s (fun h => h1 (eqB_t.1 h)) (fun h => h2 (eqB_f.1 h))
theorem br_not {b : Bool} {A B : Prop} (h : branch b B A) : branch (!b) A B := by cases b <;> exact h
theorem maxI_eq (a b : Int) : maxI a b = max a b := by unfold maxI; split <;> omega
theorem minI_eq (a b : Int) : minI a b = min a b := by unfold minI; split <;> omega

theorem arith_in {n : Int} {K : Int → Prop} (h : -9223372036854775808 ≤ n ∧ n ≤ 9223372036854775807) (hk : K n) : arith .i64 n K := by
  refine ⟨?_⟩; rw [show IntKind.wrap .i64 n = n from IntWalk.i64_in _ (by omega)]; exact hk
theorem need_i {p K : Prop} (h : p) (hk : K) : need p K := by refine ⟨?_⟩; exact ⟨h, hk⟩
theorem idx_map {α : Type} {f : α → V} {l : List α} {i : Nat} {K : V → Prop} (hi : i < l.length) (h : ∀ x, l[i]? = some x → K (f x)) : idx (l.map f) i K := by
  refine ⟨?_⟩; exact ⟨f l[i], by simp [hi], h _ (by simp [hi])⟩
theorem idx_i {l : List V} {i : Nat} {K : V → Prop} (x : V) (h : l[i]? = some x) (hk : K x) : idx l i K := by refine ⟨?_⟩; exact ⟨x, h, hk⟩
theorem draw_i {env : Nat → V} {ops : List Oper} {K : Prop} (h : regionOk ops = true) (hk : K) : drawVC env ops K := by refine ⟨?_⟩; exact ⟨[], trivial, h, hk⟩
theorem draw_c {env : Nat → V} {ops : List Oper} {K : Prop} (cl : List (Nat × Nat)) (h0 : goodL cl env) (h : regionOkC cl ops = true) (hk : K) : drawVC env ops K := by refine ⟨?_⟩; exact ⟨cl, h0, h, hk⟩

theorem call_i {light : Bool} {d : Nat} {f : FuncId} {xs ys : List V} {r : V} {K : VK} (hs : Spec T P f ys r) (lend : Bool) (hg : giveL T σ.ar ys xs) (hc : callOk light lend xs ys r = true)
    (hk : recvK σ d (reuse σ (ownKeys ys xs)) r fun v ms => K v (appR (cond lend [] (frzMods σ (viewKeys ys xs))) (appR (deadMods σ (ownKeys ys xs)) ms))) : callVC T P light σ d f xs K := by
  refine ⟨?_⟩; exact ⟨ys, r, lend, hg, hc, hs, hk⟩
theorem ret_i {rs : List ResultVar} {r : V} (h : resVC T σ rs fun xs => match xs with
    | [x] => giveL T σ.ar [r] [x] ∧ keysOk [x] [r] = true ∧ (∀ rs, r ≠ .tup rs)
    | xs => ∃ ys, r = .tup ys ∧ giveL T σ.ar ys xs ∧ keysOk xs ys = true) : retVC T σ rs r := by refine ⟨?_⟩; exact h

theorem ret_lit {ar : Nat → Option AE} {u u' : Value} (h : u' = u) : giveL T ar [.lit u] [.lit u'] ∧ keysOk [.lit u'] [.lit u] = true ∧ (∀ rs, (V.lit u) ≠ .tup rs) := ⟨⟨h, trivial⟩, rfl, fun _ h => by cases h⟩
theorem ret_int {ar : Nat → Option AE} {k : IntKind} {n n' : Int} (h : n' = n) : giveL T ar [.lit (.int k n)] [.lit (.int k n')] ∧ keysOk [.lit (.int k n')] [.lit (.int k n)] = true ∧ (∀ rs, (V.lit (.int k n)) ≠ .tup rs) := ret_lit (by rw [h])
theorem ret_bool {ar : Nat → Option AE} {n n' : Bool} (h : n' = n) : giveL T ar [.lit (.bool n)] [.lit (.bool n')] ∧ keysOk [.lit (.bool n')] [.lit (.bool n)] = true ∧ (∀ rs, (V.lit (.bool n)) ≠ .tup rs) := ret_lit (by rw [h])

theorem live_i {en : AE} {g : Nat} {K : Prop} (h1 : en.gen = g) (h2 : en.kind ≠ .dead) (hk : K) : need (en.gen = g ∧ en.kind ≠ .dead) K := need_i ⟨h1, h2⟩ hk
/-- an append to a slice of this call's own -/
theorem need_app {en : AE} {g e bytes size : Nat} {xs : List V} {K : Prop} (h1 : en.gen = g) (h2 : en.kind = .own ∨ en.kind = .ap) (h3 : en.ty = e) (hb : bytes ≤ 10000) (h5 : ∀ x ∈ xs, x.cells.length = size) (h4 : en.l.length + xs.length ≤ 1000000000) (hk : K) :
    need (en.gen = g ∧ (en.kind = .own ∨ en.kind = .ap) ∧ en.ty = e ∧ (en.l.length + xs.length) * bytes ≤ 140737488355328 ∧ en.l.length + xs.length ≤ 140737488355328 ∧ ∀ x ∈ xs, x.cells.length = size) K :=
  need_i ⟨h1, h2, h3, Nat.le_trans (Nat.mul_le_mul h4 hb) (by decide), by omega, h5⟩ hk
theorem need_nil {bytes size : Nat} {xs : List V} {K : Prop} (hb : bytes ≤ 10000) (h5 : ∀ x ∈ xs, x.cells.length = size) (h4 : xs.length ≤ 1000000000) (hk : K) :
    need (xs.length * bytes ≤ 140737488355328 ∧ xs.length ≤ 140737488355328 ∧ ∀ x ∈ xs, x.cells.length = size) K :=
  need_i ⟨Nat.le_trans (Nat.mul_le_mul h4 hb) (by decide), by omega, h5⟩ hk
theorem one_cells {x : V} {n : Nat} (h : x.cells.length = n) : ∀ y ∈ [x], y.cells.length = n := fun y hy => by cases List.mem_singleton.1 hy; exact h
end
end Go.Ab
