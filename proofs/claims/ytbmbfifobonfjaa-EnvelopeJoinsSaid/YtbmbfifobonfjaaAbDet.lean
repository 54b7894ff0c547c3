/-
  An operation comes to one end.
-/
import Derived.Test.YtbmbfifobonfjaaAbSound
set_option linter.unusedVariables false
set_option linter.unusedSimpArgs false
namespace Go.Ab

/-- one outcome, whatever is asked of it -/
def Det (Φ : VK → Prop) : Prop := ∀ K, Φ K → ∃ v ms, K v ms ∧ ∀ K', K' v ms → Φ K'
def DetL (Φ : (List V → Prop) → Prop) : Prop := ∀ K, Φ K → ∃ l, K l ∧ ∀ K', K' l → Φ K'

theorem Det.ret (v : V) (ms : List Mod) : Det (fun K => K v ms) := fun _ h => ⟨v, ms, h, fun _ h => h⟩
theorem Det.false : Det (fun _ => False) := fun _ h => h.elim
theorem Det.need {p : Prop} {Φ : VK → Prop} (h : Det Φ) : Det (fun K => need p (Φ K)) := fun K hk => by
  obtain ⟨hp, hk⟩ := need_p hk
  obtain ⟨v, ms, h1, h2⟩ := h K hk
  exact ⟨v, ms, h1, fun K' hk' => by refine ⟨?_⟩; exact ⟨hp, h2 K' hk'⟩⟩
theorem Det.arith {k : IntKind} {n : Int} {Φ : Int → VK → Prop} (h : ∀ m, Det (Φ m)) : Det (fun K => arith k n fun m => Φ m K) := fun K hk => by
  obtain ⟨v, ms, h1, h2⟩ := h _ K (arith_p hk)
  exact ⟨v, ms, h1, fun K' hk' => by refine ⟨?_⟩; exact h2 K' hk'⟩
theorem Det.idx {l : List V} {i : Nat} {Φ : V → VK → Prop} (h : ∀ x, Det (Φ x)) : Det (fun K => idx l i fun x => Φ x K) := fun K hk => by
  obtain ⟨x, hx, hk⟩ := idx_p hk
  obtain ⟨v, ms, h1, h2⟩ := h x K hk
  exact ⟨v, ms, h1, fun K' hk' => by refine ⟨?_⟩; exact ⟨x, hx, h2 K' hk'⟩⟩
theorem Det.force {x : V} {Φ : V → VK → Prop} (h : ∀ x, Det (Φ x)) : Det (fun K => force x fun y => Φ y K) := fun K hk => by
  have hk' : Ab.force x (fun y => Φ y K) := hk
  rw [force_eq] at hk'
  obtain ⟨v, ms, h1, h2⟩ := h x K hk'
  exact ⟨v, ms, h1, fun K' hk' => by show Ab.force x (fun y => Φ y K'); rw [force_eq]; exact h2 K' hk'⟩
theorem Det.forceL {l : List V} {Φ : List V → VK → Prop} (h : ∀ l, Det (Φ l)) : Det (fun K => forceL l fun y => Φ y K) := fun K hk => by
  have hk' : Ab.forceL l (fun y => Φ y K) := hk
  rw [forceL_eq] at hk'
  obtain ⟨v, ms, h1, h2⟩ := h l K hk'
  exact ⟨v, ms, h1, fun K' hk' => by show Ab.forceL l (fun y => Φ y K'); rw [forceL_eq]; exact h2 K' hk'⟩
theorem Det.cond {b : Bool} {Φ Ψ : VK → Prop} (h : Det Φ) (h' : Det Ψ) : Det (fun K => cond b (Φ K) (Ψ K)) := by
  cases b
  · exact h'
  · exact h
theorem Det.branch {b : Bool} {Φ Ψ : VK → Prop} (h : Det Φ) (h' : Det Ψ) : Det (fun K => branch b (Φ K) (Ψ K)) := by
  cases b
  · exact h'
  · exact h
theorem Det.conts {σ : St} {x : V} {Φ : List V → VK → Prop} (h : ∀ l, Det (Φ l)) : Det (fun K => conts σ x fun l => Φ l K) := by
  unfold Ab.conts
  cases x with
  | sl l => exact h l
  | cap l => exact h l
  | lit u =>
    cases u with
    | slice b n c =>
      cases b with
      | none =>
        cases n with
        | zero =>
          cases c with
          | zero => exact h []
          | succ c => exact Det.false
        | succ n => exact Det.false
      | some b => exact Det.false
    | _ => exact Det.false
  | arr k g =>
    simp only
    cases σ.ar k with
    | none => exact Det.false
    | some en => exact Det.need (h _)
  | _ => exact Det.false
theorem Det.bound {o : Option V} {dflt : Int} {Φ : Int → VK → Prop} (h : ∀ n, Det (Φ n)) : Det (fun K => bound o dflt fun n => Φ n K) := by
  unfold Ab.bound
  cases o with
  | none => exact h _
  | some v =>
    cases v with
    | lit u =>
      cases u with
      | int k n => exact h n
      | _ => exact Det.false
    | _ => exact Det.false

theorem det_pickK (r : Row) (cs : List V) : Det (pickK r cs) := by
  unfold pickK
  cases r.agg with
  | true => exact Det.forceL fun l => Det.cond (Det.ret _ _) Det.false
  | false =>
    cases cs with
    | nil => exact Det.false
    | cons x r => exact Det.force fun v => Det.ret _ _

theorem det_fillK (place : Nat → Option (Nat × Nat)) (σ : St) (ps : List (Nat × Operand)) : ∀ (cs : List V) (Φ : List V → VK → Prop), (∀ l, Det (Φ l)) → Det (fun K => fillK place σ ps cs fun l => Φ l K) := by
  induction ps with
  | nil =>
    intro cs Φ h
    exact Det.forceL (l := cs) h
  | cons p r ih =>
    intro cs Φ h
    have hdef : ∀ K, fillK place σ (p :: r) cs K = (match place p.1 with
      | some (o, z) => cond (Nat.beq (lenR (σ.ev p.2).cells) z && Nat.ble (o + z) (lenR cs) && allR V.one (σ.ev p.2).cells) (fillK place σ r (splice cs o (σ.ev p.2).cells) K) False
      | none => False) := fun K => rfl
    simp only [hdef]
    cases place p.1 with
    | none => exact Det.false
    | some q => exact Det.cond (ih _ Φ h) Det.false

theorem det_op (T : Tab) (σ : St) (d : Nat) (o : Op) : Det (opVC T σ d o) := by
  unfold opVC
  split
  · exact Det.force fun v => Det.ret _ _
  · exact Det.force fun v => Det.ret _ _
  · unfold pickVC
    split
    · exact Det.branch (Det.force fun v => Det.ret _ _) (Det.force fun v => Det.ret _ _)
    · exact Det.false
  · unfold unVC
    split
    · exact Det.ret _ _
    · exact Det.arith fun m => Det.ret _ _
    · exact Det.false
  · unfold binVC
    split
    · refine Det.cond ?_ Det.false
      unfold intVC
      split <;> first | exact Det.arith fun m => Det.ret _ _ | exact Det.need (Det.arith fun m => Det.ret _ _) | exact Det.need (Det.ret _ _) | exact Det.ret _ _ | exact Det.false
    · unfold strVC
      split <;> first | exact Det.need (Det.ret _ _) | exact Det.ret _ _ | exact Det.false
    · refine Det.cond ?_ Det.false
      unfold boolVC
      split <;> first | exact Det.ret _ _ | exact Det.false
    · refine Det.cond ?_ Det.false
      unfold aggVC
      split
      · refine Det.need ?_
        split <;> first | exact Det.ret _ _ | exact Det.false
      · refine Det.need ?_
        split <;> first | exact Det.ret _ _ | exact Det.false
      · exact Det.false
    · exact Det.false
  · unfold newBox
    split
    · exact Det.forceL fun l => Det.cond (Det.ret _ _) Det.false
    · exact Det.false
  · refine Det.cond ?_ Det.false
    unfold newBox
    split
    · exact Det.forceL fun l => Det.cond (Det.ret _ _) Det.false
    · exact Det.false
  · refine Det.cond ?_ Det.false
    unfold fieldAddrVC
    split
    · refine Det.cond Det.false ?_
      split
      · exact Det.ret _ _
      · exact Det.forceL fun l => Det.ret _ _
      · exact Det.ret _ _
      · exact Det.false
    · exact Det.false
  · refine Det.cond ?_ Det.false
    unfold fieldVC
    split
    · exact Det.cond (det_pickK _ _) Det.false
    · exact Det.false
  · refine Det.cond ?_ Det.false
    unfold loadVC
    split
    · split
      · exact det_pickK _ _
      · exact Det.false
    · exact det_pickK _ _
    · split
      · exact Det.need (Det.idx fun x => Det.cond (det_pickK _ _) Det.false)
      · exact Det.false
    · exact Det.false
  · refine Det.cond ?_ Det.false
    unfold storeVC
    split
    · split
      · exact Det.cond (Det.forceL fun l => Det.ret _ _) Det.false
      · exact Det.false
    · split
      · exact Det.need (Det.idx fun x => Det.cond (Det.forceL fun l => Det.ret _ _) Det.false)
      · exact Det.false
    · exact Det.false
  · refine Det.cond ?_ Det.false
    unfold indexAddrVC
    split
    · split
      · exact Det.need (Det.idx fun x => Det.forceL fun l => Det.cond (Det.ret _ _) Det.false)
      · exact Det.need (Det.idx fun x => Det.forceL fun l => Det.cond (Det.ret _ _) Det.false)
      · split
        · exact Det.need (Det.cond (Det.ret _ _) Det.false)
        · exact Det.false
      · exact Det.false
    · split
      · exact Det.cond (Det.ret _ _) Det.false
      · exact Det.cond (Det.forceL fun l => Det.ret _ _) Det.false
      · exact Det.false
    · exact Det.false
  · refine Det.cond ?_ Det.false
    unfold indexVC
    split
    · exact Det.need (Det.ret _ _)
    · exact Det.cond (det_pickK _ _) Det.false
    · exact Det.false
  · unfold extractVC
    split
    · split
      · exact Det.force fun v => Det.ret _ _
      · exact Det.false
    · exact Det.false
  · refine Det.cond ?_ Det.false
    unfold buildVC
    split
    · exact det_fillK _ _ _ _ (fun cs K => K (.agg cs) []) fun l => Det.ret _ _
    · exact Det.cond (det_fillK _ _ _ _ (fun cs K => K (.agg cs) []) fun l => Det.ret _ _) Det.false
    · exact Det.false
  · refine Det.cond ?_ Det.false
    unfold buildSliceVC
    split
    · refine Det.cond ?_ Det.false
      exact det_fillK _ _ _ _ (fun cs K => cond (allR V.atom cs) (K _ _) False) fun l => Det.cond (Det.ret _ _) Det.false
    · exact Det.false
  · refine Det.cond ?_ Det.false
    unfold makeSliceVC
    split
    · exact Det.need (Det.cond (Det.ret _ _) Det.false)
    · exact Det.false
  · refine Det.cond ?_ Det.false
    unfold sliceVC
    split
    · split
      · exact Det.bound (Φ := fun l K => bound _ _ fun h => need _ (K _ _)) fun l => Det.bound (Φ := fun h K => need _ (K _ _)) fun h => Det.need (Det.ret _ _)
      · exact Det.false
    · exact Det.false
    · refine Det.cond ?_ Det.false
      refine Det.conts fun xs => Det.bound fun l => Det.bound fun h => ?_
      split
      · exact Det.need (Det.ret _ _)
      · split
        · exact Det.false
        · exact Det.bound fun m => Det.need (Det.ret _ _)
    · exact Det.false
  · unfold convVC
    split
    · exact Det.arith fun m => Det.ret _ _
    · exact Det.ret _ _
    · exact Det.false
  · refine Det.cond ?_ Det.false
    split
    · unfold lenVC
      split <;> first | exact Det.ret _ _ | exact Det.false | (split <;> first | exact Det.need (Det.ret _ _) | exact Det.false)
    · unfold slenVC
      split <;> first | exact Det.ret _ _ | exact Det.false
    · exact Det.false
  · refine Det.cond ?_ Det.false
    unfold appendVC
    split
    · refine Det.cond ?_ Det.false
      refine Det.conts fun xs => ?_
      split
      · split <;> first | exact Det.need (Det.ret _ _) | exact Det.false
      · split <;> first | exact Det.need (Det.ret _ _) | exact Det.false
      · split <;> first | exact Det.need (Det.ret _ _) | exact Det.false
      · exact Det.false
    · exact Det.false
  · unfold maxminVC
    split <;> first | exact Det.ret _ _ | exact Det.false
  · unfold maxminVC
    split <;> first | exact Det.ret _ _ | exact Det.false
  · exact Det.false

theorem det_recvL (σ : St) (d : Nat) (rs : List V) : ∀ (j : Nat) (ro : Option (Nat × Nat)) (Φ : List V → List Mod → VK → Prop), (∀ vs ms, Det (Φ vs ms)) → Det (fun K => recvL σ d rs j ro fun vs ms => Φ vs ms K) := by
  induction rs with
  | nil => intro j ro Φ h; exact h [] []
  | cons y r ih =>
    intro j ro Φ h
    simp only [recvL_cons]
    split
    · split
      · exact ih _ _ (fun vs ms K => Φ _ _ K) fun vs ms => h _ _
      · split
        · exact ih _ _ (fun vs ms K => Φ _ _ K) fun vs ms => h _ _
        · exact Det.false
    · split
      · exact ih _ _ (fun vs ms K => Φ _ _ K) fun vs ms => h _ _
      · split
        · exact ih _ _ (fun vs ms K => Φ _ _ K) fun vs ms => h _ _
        · exact Det.false
    · exact Det.force fun y => ih _ _ (fun vs ms K => Φ _ _ K) fun vs ms => h _ _

theorem det_recvK (σ : St) (d : Nat) (ro : Option (Nat × Nat)) (r : V) (f : List Mod → List Mod) : Det (fun K => recvK σ d ro r fun v ms => K v (f ms)) := by
  unfold recvK
  split
  · exact det_recvL _ _ _ _ _ (fun vs ms K => K (.tup vs) (f ms)) fun vs ms => Det.ret _ _
  · refine det_recvL _ _ _ _ _ (fun vs ms K => match vs with | v :: _ => K v (f ms) | [] => False) fun vs ms => ?_
    cases vs with
    | nil => exact Det.false
    | cons v r => exact Det.ret _ _

theorem det_call (T : Tab) (P : Program) (light : Bool) (σ : St) (d : Nat) (f : FuncId) (xs : List V) : Det (callVC T P light σ d f xs) := by
  intro K h
  replace h := h.out
  obtain ⟨ys, r, lend, h1, h2, h3, h4⟩ := h
  obtain ⟨v, ms, q1, q2⟩ := det_recvK σ d (reuse σ (ownKeys ys xs)) r (fun ms => appR (cond lend [] (frzMods σ (viewKeys ys xs))) (appR (deadMods σ (ownKeys ys xs)) ms)) K h4
  refine ⟨v, ms, q1, fun K' hk => ?_⟩
  refine ⟨?_⟩
  exact ⟨ys, r, lend, h1, h2, h3, q2 K' hk⟩

theorem det_oper (T : Tab) (P : Program) (light : Bool) (σ : St) (d : Nat) (op : Op) : Det (operVC T P light σ d op) := by
  unfold operVC
  split
  · exact Det.forceL fun xs => det_call _ _ _ _ _ _ _
  · exact det_op _ _ _ _

theorem oper_mono {T : Tab} {P : Program} {light : Bool} {σ : St} {d : Nat} {op : Op} {K1 K2 : VK} (hk : ∀ v ms, K1 v ms → K2 v ms) (h : operVC T P light σ d op K1) : operVC T P light σ d op K2 := by
  obtain ⟨v, ms, q1, q2⟩ := det_oper T P light σ d op K1 h
  exact q2 K2 (hk v ms q1)

end Go.Ab
