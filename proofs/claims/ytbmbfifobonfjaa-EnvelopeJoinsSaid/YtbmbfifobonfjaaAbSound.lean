/-
  Regions in the order of the text, code, functions.
-/
import Derived.Test.YtbmbfifobonfjaaAbCall3
set_option linter.unusedVariables false
set_option linter.unusedSimpArgs false
namespace Go.Ab
section
variable {T : Tab} {P : Program} {Φ : Fr} {σ : St} {a : Act} {w w' : World} {G G' : Gh} {K : VK} {o : Oper} {d : Nat}

theorem Inv.put' (ms : List Mod) (inv : Inv T Φ (σ.apps ms) a w G) {dst : Option Nat} (hd : ∀ d, dst = some d → d < Φ.n) {v' : Value} {v : V} (hv : Rv w G v' v) (hok : v.ok (σ.apps ms).hasB (σ.apps ms).hasA) : Inv T Φ (σ.put dst v ms) (a.put dst v') w G := by
  cases dst with
  | none => exact inv
  | some d => exact inv.putSlot (hd d rfl) hv hok

theorem run_call {f : FuncId} {as : List Operand} {ts : Array TypeId} (ho : o.op = .call ⟨.value (.func f), ⟨as⟩, ts⟩) (hc : callable P f = true) : (execOp a.eval o).run P w = .ok (.enter f (as.map a.eval).toArray) w := by
  unfold callable at hc
  split at hc
  · rename_i fn hfn
    simp only [Bool.and_eq_true, bne_iff_ne] at hc
    have hb : fn.body ≠ none := by intro h; rw [h] at hc; simp at hc
    simp [execOp, ho, resolve, Act.eval, Deferred.ofValue, invoke, callFunc, hfn, hb, hc.2]
  · cases hc

theorem oper_wp (hT : TabOk T P) (inv : Inv T Φ σ a w G) (o : Oper) (hd : ∀ d, o.dst = some d → d < Φ.n) {light : Bool} (h : operVC T P light σ d o.op K) {Q : Exit → Act → World → Prop} :
    o.wp P a w (fun a' w' => ∃ v ms G', K v ms ∧ Inv T Φ (σ.put o.dst v ms) a' w' G') Q := by
  unfold operVC at h
  split at h
  · rename_i f as ts ho
    rw [forceL_eq, mapR_eq] at h
    obtain ⟨hc, hcalls⟩ := call_sound inv as h
    unfold Oper.wp
    rw [run_call ho hc, Oper.upon_enter]
    refine hcalls.mono ?_
    rintro e w1 ⟨v', rfl, v, ms, G', hk, inv', hv, hvo⟩
    refine ⟨v, ms, G', hk, ?_⟩
    exact Inv.put' ms inv' hd hv hvo
  · obtain ⟨v', w1, v, ms, G', hr, hk, inv', hv, hvo⟩ := op_sound hT inv o h
    unfold Oper.wp
    rcases hr with hr | ⟨hr, rfl⟩
    · rw [hr, Oper.upon_value]
      refine ⟨v, ms, G', hk, ?_⟩
      exact Inv.put' ms inv' hd hv hvo
    · rw [hr, Oper.upon_skip]
      refine ⟨v, ms, G', hk, ?_⟩
      exact Inv.put' ms inv' hd hv hvo

theorem appsS_eq (ms : List Mod) : ∀ (σ : St) (K : (Nat → V) → (Nat → Option (List V)) → (Nat → Option AE) → Prop), appsS ms σ.env σ.bx σ.ar K = K (σ.apps ms).env (σ.apps ms).bx (σ.apps ms).ar := by
  induction ms with
  | nil => intro σ K; rfl
  | cons m r ih =>
    intro σ K
    have h1 : σ.apps (m :: r) = (m.app σ).apps r := rfl
    rw [h1, ← ih (m.app σ) K]
    cases m <;> rfl

/-- one operation of a region, carried out or not -/
def Step (T : Tab) (P : Program) (light : Bool) (n : Nat) (ops : List Oper) (o : Oper) (σ : St) (K : St → Prop) : Prop :=
  match o.guard with
  | none => (∀ d, o.dst = some d → d < n) ∧ operVC T P light σ (o.dst.getD n) o.op fun v ms => K (σ.put o.dst v ms)
  | some (j, want) => ∃ s, guardSlot ops j = some s ∧ (∀ d, o.dst = some d → d < n) ∧
      ((∃ b, σ.env s = .lit (.bool b) ∧ if b = want then operVC T P light σ (o.dst.getD n) o.op fun v ms => K (σ.put o.dst v ms) else K (σ.put o.dst (.tup []) [])) ∨ (∃ cs, σ.env s = .tup cs ∧ K (σ.put o.dst (.tup []) [])))

theorem runOp_step {light : Bool} {n : Nat} {dst : Option Nat} {op : Op} {ih : OpsK} {K : St → Prop} (h : runOp T P light n dst op ih σ.env σ.bx σ.ar K) :
    (∀ d, dst = some d → d < n) ∧ operVC T P light σ (dst.getD n) op fun v ms => ih (σ.put dst v ms).env (σ.put dst v ms).bx (σ.put dst v ms).ar K := by
  unfold runOp at h
  cases dst with
  | none =>
    refine ⟨(fun _ h => by cases h), ?_⟩
    have h' := h
    simp only [appsS_eq _ σ] at h'
    exact h'
  | some d =>
    obtain ⟨hd, h2⟩ := cond_F h
    refine ⟨(fun d' h => by cases h; exact blt hd), ?_⟩
    simp only [appsS_eq _ σ] at h2
    exact h2
theorem skipOp_step {n : Nat} {dst : Option Nat} {ih : OpsK} {K : St → Prop} (h : skipOp n dst ih σ.env σ.bx σ.ar K) :
    (∀ d, dst = some d → d < n) ∧ ih (σ.put dst (.tup []) []).env (σ.put dst (.tup []) []).bx (σ.put dst (.tup []) []).ar K := by
  unfold skipOp at h
  cases dst with
  | none => exact ⟨(fun _ h => by cases h), h⟩
  | some d =>
    obtain ⟨hd, h2⟩ := cond_F h
    exact ⟨(fun d' h => by cases h; exact blt hd), h2⟩

theorem upd_self {α : Type} (f : Nat → α) (s : Nat) (x : α) (h : f s = x) : upd f s x = f := by
  funext t
  by_cases e : t = s
  · subst e; rw [upd_same]; exact h.symm
  · exact upd_ne f x e

theorem opStep_step {light : Bool} {n : Nat} {ops : List Oper} {ih : OpsK} {K : St → Prop} (h : opStep T P light n ops o ih σ.env σ.bx σ.ar K) :
    Step T P light n ops o σ fun σ' => ih σ'.env σ'.bx σ'.ar K := by
  unfold opStep at h
  obtain ⟨dst, op, ty, pos, after, guard⟩ := o
  unfold Step
  simp only at h ⊢
  cases guard with
  | none => exact runOp_step h
  | some g =>
    obtain ⟨j, want⟩ := g
    simp only at h ⊢
    split at h
    · rename_i s hs
      refine ⟨s, hs, ?_⟩
      split at h
      · rename_i b hb
        cases b with
        | true =>
          rw [show upd σ.env s (B true) = σ.env from upd_self _ _ _ hb] at h
          cases want with
          | true =>
            obtain ⟨h1, h2⟩ := runOp_step (σ := σ) h
            exact ⟨h1, .inl ⟨true, hb, by simpa using h2⟩⟩
          | false =>
            obtain ⟨h1, h2⟩ := skipOp_step (σ := σ) h
            exact ⟨h1, .inl ⟨true, hb, by simpa using h2⟩⟩
        | false =>
          rw [show upd σ.env s (B false) = σ.env from upd_self _ _ _ hb] at h
          cases want with
          | true =>
            obtain ⟨h1, h2⟩ := skipOp_step (σ := σ) h
            exact ⟨h1, .inl ⟨false, hb, by simpa using h2⟩⟩
          | false =>
            obtain ⟨h1, h2⟩ := runOp_step (σ := σ) h
            exact ⟨h1, .inl ⟨false, hb, by simpa using h2⟩⟩
      · rename_i cs hb
        obtain ⟨h1, h2⟩ := skipOp_step (σ := σ) h
        exact ⟨h1, .inr ⟨cs, hb, h2⟩⟩
      · exact h.elim
    · exact h.elim

/-- the whole region, one operation behind the other -/
def Run (T : Tab) (P : Program) (light : Bool) (n : Nat) (ops : List Oper) : List Oper → St → (St → Prop) → Prop
  | [], σ, K => K σ
  | o :: r, σ, K => Step T P light n ops o σ fun σ' => Run T P light n ops r σ' K

theorem Step.mono {light : Bool} {n : Nat} {ops : List Oper} {K K' : St → Prop} (hm : ∀ K1 K2 : VK, (∀ v ms, K1 v ms → K2 v ms) → operVC T P light σ (o.dst.getD n) o.op K1 → operVC T P light σ (o.dst.getD n) o.op K2) (h : Step T P light n ops o σ K) (hk : ∀ σ', K σ' → K' σ') : Step T P light n ops o σ K' := by
  unfold Step at *
  split at h
  · exact ⟨h.1, hm _ _ (fun v ms => hk _) h.2⟩
  · obtain ⟨s, h1, h2, h3⟩ := h
    refine ⟨s, h1, h2, ?_⟩
    rcases h3 with ⟨b, q1, q2⟩ | ⟨cs, q1, q2⟩
    · refine .inl ⟨b, q1, ?_⟩
      split at q2
      · rename_i hb; rw [if_pos hb]; exact hm _ _ (fun v ms => hk _) q2
      · rename_i hb; rw [if_neg hb]; exact hk _ q2
    · exact .inr ⟨cs, q1, hk _ q2⟩

theorem undef_rv (w : World) (G : Gh) : Rv w G undef (.tup []) := .tup #[] [] rfl (fun i c x hc => by simp at hc)

/-- the guard, as the model reads it -/
theorem step_wp (hT : TabOk T P) (inv : Inv T Φ σ a w G) {light : Bool} {ops : List Oper} {K : St → Prop} {opsA : Array Oper} (hA : opsA.toList = ops) (h : Step T P light Φ.n ops o σ K) {Q : Exit → Act → World → Prop} :
    if Region.wanted o (yielded opsA a.tmps) = true then o.wp P a w (fun a' w' => ∃ σ' G', K σ' ∧ Inv T Φ σ' a' w' G') Q else ∃ G', ∃ σ', K σ' ∧ Inv T Φ σ' (a.put o.dst undef) w G' := by
  unfold Step at h
  have run : (∀ d, o.dst = some d → d < Φ.n) → (operVC T P light σ (o.dst.getD Φ.n) o.op fun v ms => K (σ.put o.dst v ms)) → o.wp P a w (fun a' w' => ∃ σ' G', K σ' ∧ Inv T Φ σ' a' w' G') Q := by
    intro hd hop
    refine Oper.wp_mono ?_ (oper_wp hT inv o hd hop (Q := Q))
    rintro a' w' ⟨v, ms, G', hk, inv'⟩
    exact ⟨_, G', hk, inv'⟩
  have skip : (∀ d, o.dst = some d → d < Φ.n) → K (σ.put o.dst (.tup []) []) → ∃ G', ∃ σ', K σ' ∧ Inv T Φ σ' (a.put o.dst undef) w G' := by
    intro hd hk
    refine ⟨G, _, hk, ?_⟩
    exact Inv.put' [] inv hd (undef_rv w G) (by simp only [V.ok, V.okL])
  split at h
  · rename_i hg
    rw [if_pos (by simp [Region.wanted, hg])]
    exact run h.1 h.2
  · rename_i j want hg
    obtain ⟨s, h1, h2, h3⟩ := h
    have hslot : (opsA[j]?).bind (·.dst) = some s := by
      unfold guardSlot at h1
      rw [nth_eq, ← hA] at h1
      simpa using h1
    have hw : Region.wanted o (yielded opsA a.tmps) = (yielded opsA a.tmps j == some want) := by simp [Region.wanted, hg]
    have he := inv.env s
    rcases h3 with ⟨b, q1, q2⟩ | ⟨cs, q1, q2⟩
    · rw [q1] at he
      have hv := he.lit_eq
      have hs : a.tmps[s]? = some (.bool b) := by
        cases h : a.tmps[s]? with
        | none => simp [h, undef] at hv
        | some u => simp [h] at hv; rw [hv]
      have hy : yielded opsA a.tmps j = some b := by simp [yielded, hslot, hs]
      rw [hw, hy]
      by_cases hb : b = want
      · subst hb
        simp only [if_true] at q2
        rw [if_pos (by simp)]
        exact run h2 q2
      · rw [if_neg hb] at q2
        rw [if_neg (by simpa using hb)]
        exact skip h2 q2
    · rw [q1] at he
      obtain ⟨vs, hv, _⟩ := he.tup_inv
      have hy : yielded opsA a.tmps j = none := by
        simp only [yielded, hslot, Option.bind_some]
        cases h : a.tmps[s]? with
        | none => rfl
        | some u =>
          simp [h] at hv
          rw [hv]
      rw [hw, hy, if_neg (by simp)]
      exact skip h2 q2

theorem run_list (hT : TabOk T P) {light : Bool} {ops : List Oper} {K : St → Prop} {opsA : Array Oper} (hA : opsA.toList = ops) {Q : Exit → Act → World → Prop} (hQ : ∀ σ' a' w' G', K σ' → Inv T Φ σ' a' w' G' → Q .normal a' w') :
    ∀ (l : List Oper) (σ : St) (a : Act) (w : World) (G : Gh), Inv T Φ σ a w G → Run T P light Φ.n ops l σ K → wpList P opsA Q l a w := by
  intro l
  induction l with
  | nil => intro σ a w G inv h; exact hQ σ a w G h inv
  | cons o r ih =>
    intro σ a w G inv h
    have := step_wp hT inv hA (o := o) (Q := Q) h
    unfold wpList
    split
    · rename_i hw
      rw [if_pos hw] at this
      exact .inl (Oper.wp_mono (fun a' w' ⟨σ', G', hk, inv'⟩ => ih σ' a' w' G' inv' hk) this)
    · rename_i hw
      rw [if_neg hw] at this
      obtain ⟨G', σ', hk, inv'⟩ := this
      exact ih σ' _ w G' inv' hk

end
end Go.Ab
