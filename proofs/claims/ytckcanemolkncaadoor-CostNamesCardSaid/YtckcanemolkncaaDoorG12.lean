/-
  A load from one variable of the call, and a store to another one or an append, may change places.
  Regions that draw their order.
-/
import Derived.Test.YtckcanemolkncaaDoorG11
set_option linter.unusedVariables false
set_option linter.unusedSimpArgs false
namespace Go.Ab

def Good (cl : List (Nat × Nat)) (σ : St) : Prop := ∀ u i, claim cl u = some i → (σ.env u).ok (fun j => j = i) (fun _ _ => False)

section
variable {T : Tab} {P : Program} {σ σ' : St} {n d : Nat} {v v' : V} {ms ms' : List Mod} {ops : List Oper} {o p : Oper} {K : St → Prop} {cl : List (Nat × Nat)} {hv : List (Nat × List Nat)}

theorem good_of {env : Nat → V} {bx : Nat → Option (List V)} {ar : Nat → Option AE} {p : Nat → Prop} {q : Nat → Nat → Prop} (wf : ∀ s, (env s).ok p q) (h : goodL cl env) : Good cl ⟨env, bx, ar⟩ := by
  induction cl with
  | nil => intro u i hu; cases hu
  | cons q r ih =>
    intro u i hu
    have h' : okB q.2 (env q.1) ∧ goodL r env := h
    unfold claim at hu
    rw [List.find?_cons] at hu
    cases hq : Nat.beq q.1 u with
    | true =>
      rw [hq] at hu
      have := Nat.eq_of_beq_eq_true hq
      subst this
      cases hu
      have h1 := h'.1
      show (env q.1).ok _ _
      have hwf := wf q.1
      generalize env q.1 = x at h1 hwf ⊢
      unfold okB at h1
      split at h1
      · subst h1; simp only [V.ok]
      · simp only [V.ok]
      · simp only [V.ok, V.okL]
      · simp only [V.ok]
      · simp only [V.ok] at hwf ⊢; exact hwf
      · simp only [V.ok] at hwf ⊢; exact hwf
      · simp only [V.ok] at hwf ⊢; exact hwf
      · exact h1.elim
    | false =>
      rw [hq] at hu
      exact ih h'.2 u i hu

theorem field_box {r : Row} {x : V} {f : Nat} {i : Nat} (hx : x.ok (fun j => j = i) (fun _ _ => False)) (h : fieldAddrVC r x f (Is v ms)) : v.ok (fun j => j = i) (fun _ _ => False) := by
  unfold fieldAddrVC at h
  split at h
  · rename_i o z q _ _
    cases hz : Nat.beq z 0 with
    | true => rw [hz] at h; exact h.elim
    | false =>
      rw [hz] at h
      simp only [cond_false] at h
      split at h
      · obtain ⟨rfl, _⟩ := h
        simp only [V.ok] at hx ⊢
        exact hx
      · rw [forceL_eq] at h
        obtain ⟨rfl, _⟩ := h
        simp only [V.ok] at hx ⊢
        rw [dropR_eq, okL_iff]
        exact fun y hy => okL_iff.1 hx y (List.mem_of_mem_drop hy)
      · simp only [V.ok] at hx
      · exact h.elim
  · exact h.elim

theorem ofVal_ok (u : Value) (p : Nat → Prop) (q : Nat → Nat → Prop) : (ofVal u).ok p q := by
  unfold ofVal
  split
  · rename_i cs
    cases allR Value.oneCell' cs.toList with
    | false => simp only [cond_false, V.ok]
    | true =>
      simp only [cond_true, V.ok]
      rw [mapR_eq, okL_iff]
      intro x hx
      obtain ⟨v, _, rfl⟩ := List.mem_map.1 hx
      simp only [V.ok]
  · simp only [V.ok]
  · simp only [V.ok]
theorem claim_ev (hg : Good cl σ) {x : Operand} {i : Nat} (h : claimIs cl x i = true) : (σ.ev x).ok (fun j => j = i) (fun _ _ => False) := by
  unfold claimIs at h
  split at h
  · rename_i u
    split at h
    · rename_i j hj
      have := Nat.eq_of_beq_eq_true h
      subst this
      exact hg u i hj
    · cases h
  · exact ofVal_ok _ _ _
  · cases h
theorem index_box {r : Row} {x y : V} {i : Nat} (hx : x.ok (fun j => j = i) (fun _ _ => False)) (h : indexAddrVC T r σ x y (Is v ms)) : v.ok (fun j => j = i) (fun _ _ => False) := by
  have el : ∀ {l : List V} {z : V} {k : Nat}, V.okL (fun _ => False) (fun _ _ => False) l → l[k]? = some z → V.okL (fun _ => False) (fun _ _ => False) z.cells := by
    intro l z k hl hz
    have hp : z.pure := okL_iff.1 hl z (List.mem_of_getElem? hz)
    cases z with
    | agg cs => simp only [V.pure, V.ok] at hp; exact hp
    | _ => simp only [V.cells, V.okL, and_true]; exact hp
  unfold indexAddrVC at h
  split at h
  · split at h
    · obtain ⟨_, z, hz, h⟩ := h
      rw [forceL_eq] at h
      simp only [V.ok] at hx
      cases hb : (Nat.beq (lenR z.cells) (T.row r.elem).size && Nat.blt r.elem (T.n r.elem)) with
      | false => rw [hb] at h; exact h.elim
      | true =>
        rw [hb] at h
        obtain ⟨rfl, _⟩ := h
        simp only [V.ok]
        exact el hx hz
    · obtain ⟨_, z, hz, h⟩ := h
      rw [forceL_eq] at h
      simp only [V.ok] at hx
      cases hb : (Nat.beq (lenR z.cells) (T.row r.elem).size && Nat.blt r.elem (T.n r.elem)) with
      | false => rw [hb] at h; exact h.elim
      | true =>
        rw [hb] at h
        obtain ⟨rfl, _⟩ := h
        simp only [V.ok]
        exact el hx hz
    · simp only [V.ok] at hx
    · exact h.elim
  · split at h
    · rename_i k off
      cases hb : (Nat.blt _ r.alen && Nat.blt r.elem (T.n r.elem)) with
      | false => rw [hb] at h; exact h.elim
      | true =>
        rw [hb] at h
        obtain ⟨rfl, _⟩ := h
        simp only [V.ok] at hx ⊢
        exact hx
    · cases hb : (Nat.blt _ r.alen && Nat.blt r.elem (T.n r.elem)) with
      | false => rw [hb] at h; exact h.elim
      | true =>
        rw [hb] at h
        simp only [cond_true] at h
        rw [forceL_eq] at h
        obtain ⟨rfl, _⟩ := h
        simp only [V.ok] at hx ⊢
        rw [dropR_eq, okL_iff]
        exact fun y hy => okL_iff.1 hx y (List.mem_of_mem_drop hy)
    · exact h.elim
  · exact h.elim
theorem good_put (hg : Good cl σ) (hc : claimOk cl o = true) (h : Eff T P hv n ops o σ v ms) : Good cl (σ.put o.dst v ms) := by
  intro u i hu
  by_cases e : o.dst = some u
  · rw [e, put_env_same]
    unfold claimOk at hc
    rw [e] at hc
    simp only [hu] at hc
    have key : operVC T P (.drawn hv) σ (o.dst.getD n) o.op (Is v ms) → v.ok (fun j => j = i) (fun _ _ => False) := by
      intro h
      split at hc
      · rename_i s x f hop
        rw [hop] at h
        have h' : opVC T σ (o.dst.getD n) (.fieldAddr s x f) (Is v ms) := h
        unfold opVC at h'
        simp only at h'
        cases hb : Nat.blt s (T.n s) with
        | false => rw [hb] at h'; exact h'.elim
        | true =>
          rw [hb] at h'
          exact field_box (claim_ev hg hc) h'
      · rename_i s x f hop
        rw [hop] at h
        have h' : opVC T σ (o.dst.getD n) (.indexAddr s x f) (Is v ms) := h
        unfold opVC at h'
        simp only at h'
        cases hb : Nat.blt s (T.n s) with
        | false => rw [hb] at h'; exact h'.elim
        | true =>
          rw [hb] at h'
          exact index_box (claim_ev hg hc) h'
      · rename_i x hop
        rw [hop] at h
        have h' : opVC T σ (o.dst.getD n) (.move x) (Is v ms) := h
        unfold opVC at h'
        simp only at h'
        rw [force_eq] at h'
        obtain ⟨rfl, _⟩ := h'
        exact claim_ev hg hc
      · cases hc
    unfold Eff at h
    obtain ⟨_, h⟩ := h
    split at h
    · exact key h
    · obtain ⟨s, _, h⟩ := h
      rcases h with ⟨_, h⟩ | ⟨_, rfl, _⟩
      · exact key h
      · simp only [V.ok, V.okL]
  · rw [put_env_ne _ _ _ _ e]
    exact hg u i hu

theorem index_mods {t : TypeId} {x y : Operand} (h : operVC T P (.drawn hv) σ d (.indexAddr t x y) (Is v ms)) : ms = [] := by
  have h' : opVC T σ d (.indexAddr t x y) (Is v ms) := h
  unfold opVC at h'
  have hm : Mo (fun ms => ms = []) (fun K => cond (Nat.blt t (T.n t)) (indexAddrVC T (T.row t) σ (σ.ev x) (σ.ev y) K) False) := by
    refine Mo.cond ?_ Mo.false
    unfold indexAddrVC
    split
    · split
      · exact Mo.need fun _ => Mo.idx fun x => Mo.forceL fun l => Mo.cond (Mo.ret _ rfl) Mo.false
      · exact Mo.need fun _ => Mo.idx fun x => Mo.forceL fun l => Mo.cond (Mo.ret _ rfl) Mo.false
      · split
        · exact Mo.need fun _ => Mo.cond (Mo.ret _ rfl) Mo.false
        · exact Mo.false
      · exact Mo.false
    · split
      · exact Mo.cond (Mo.ret _ rfl) Mo.false
      · exact Mo.cond (Mo.forceL fun l => Mo.ret _ rfl) Mo.false
      · exact Mo.false
    · exact Mo.false
  obtain ⟨v1, ms1, ⟨_, h2⟩, h3⟩ := hm _ h'
  rw [← h2, h3]

theorem load_mods {t : TypeId} {x : Operand} (h : operVC T P (.drawn hv) σ d (.load t x) (Is v ms)) : ms = [] := by
  have h' : opVC T σ d (.load t x) (Is v ms) := h
  unfold opVC at h'
  have hm : Mo (fun ms => ms = []) (fun K => cond (Nat.blt t (T.n t)) (loadVC (T.row t) σ (σ.ev x) K) False) := by
    refine Mo.cond ?_ Mo.false
    unfold loadVC
    split
    · split
      · exact mo_pickK (R := fun ms => ms = []) rfl _ _
      · exact Mo.false
    · exact mo_pickK (R := fun ms => ms = []) rfl _ _
    · split
      · exact Mo.need fun _ => Mo.idx fun x => Mo.cond (mo_pickK (R := fun ms => ms = []) rfl _ _) Mo.false
      · exact Mo.false
    · exact Mo.false
  obtain ⟨v1, ms1, ⟨_, h2⟩, h3⟩ := hm _ h'
  rw [← h2, h3]

theorem store_mods {t : TypeId} {x y : Operand} {i : Nat} (hx : (σ.ev x).ok (fun j => j = i) (fun _ _ => False)) (h : operVC T P (.drawn hv) σ d (.store t x y) (Is v ms)) : ∀ m ∈ ms, ∀ j, j ≠ i → ¬ m.isB j := by
  have h' : opVC T σ d (.store t x y) (Is v ms) := h
  unfold opVC at h'
  have hm : Mo (fun ms => ∀ m ∈ ms, ∀ j, j ≠ i → ¬ m.isB j) (fun K => cond (Nat.blt t (T.n t)) (storeVC (T.row t) σ (σ.ev x) (σ.ev y) K) False) := by
    refine Mo.cond ?_ Mo.false
    unfold storeVC
    split
    · rename_i k off hk
      rw [hk] at hx
      simp only [V.ok] at hx
      subst hx
      split
      · refine Mo.cond (Mo.forceL fun l => Mo.ret _ ?_) Mo.false
        intro m hm j hj hb
        cases List.mem_singleton.1 hm
        exact hj hb.symm
      · exact Mo.false
    · split
      · refine Mo.need fun _ => Mo.idx fun x => Mo.cond (Mo.forceL fun l => Mo.ret _ ?_) Mo.false
        intro m hm j hj hb
        cases List.mem_singleton.1 hm
        exact hb
      · exact Mo.false
    · exact Mo.false
  obtain ⟨v1, ms1, ⟨_, h2⟩, h3⟩ := hm _ h'
  rw [← h2]; exact h3

theorem append_mods {as : Array Operand} {ts : Array TypeId} (h : operVC T P (.drawn hv) σ d (.call ⟨.builtin .append, as, ts⟩) (Is v ms)) : ∀ m ∈ ms, ∀ j, ¬ m.isB j := by
  have one : ∀ (k : Nat) (en : AE), ∀ m ∈ [Mod.a k en], ∀ j, ¬ m.isB j := fun k en m hm j hb => by cases List.mem_singleton.1 hm; exact hb
  have h' : opVC T σ d (.call ⟨.builtin .append, as, ts⟩) (Is v ms) := h
  unfold opVC at h'
  split at h' <;> rename_i heq <;> try (cases heq; done)
  · rename_i s x t t'
    have hm : Mo (fun ms => ∀ m ∈ ms, ∀ j, ¬ m.isB j) (fun K => cond (Nat.blt t (T.n t) && Nat.beq t t') (appendVC T (T.row t) σ d (σ.ev s) (σ.ev x) K) False) := by
      refine Mo.cond ?_ Mo.false
      unfold appendVC
      split
      · refine Mo.cond (Mo.conts fun xs => ?_) Mo.false
        split
        · split
          · exact Mo.need fun _ => Mo.ret _ (one _ _)
          · exact Mo.false
        · split
          · exact Mo.need fun _ => Mo.ret _ (one _ _)
          · exact Mo.false
        · split
          · exact Mo.need fun _ => Mo.ret _ (one _ _)
          · exact Mo.false
        · exact Mo.false
      · exact Mo.false
    obtain ⟨v1, ms1, ⟨_, h2⟩, h3⟩ := hm _ h'
    rw [← h2]; exact h3
  all_goals exact h'.elim

/-- what a cut of a slice looks at stays as it is -/
theorem slice_ok {t : TypeId} {x : Operand} {lo hi mx : Option Operand} (wf : ∀ x : Operand, (σ.ev x).ok σ.hasB σ.hasA) (h : operVC T P (.drawn hv) σ d (.slice t x lo hi mx) (Is v ms)) :
    ms = [] ∧ ∀ y ∈ (Op.slice t x lo hi mx).operands, (σ.ev y).ok (fun _ => False) (fun k _ => ∃ en, σ.ar k = some en ∧ en.kind = .frz) := by
  have h' : opVC T σ d (.slice t x lo hi mx) (Is v ms) := by
    cases x <;> exact h
  unfold opVC at h'
  simp only at h'
  have hop : ∀ y, y ∈ (Op.slice t x lo hi mx).operands → y = x ∨ lo = some y ∨ hi = some y ∨ mx = some y := by
    intro y hy
    cases lo <;> cases hi <;> cases mx <;> simp [Op.operands] at hy ⊢ <;> grind
  have lit : ∀ {o : Option Operand} {y : Operand} {dflt : Int} {K : Int → Prop}, o = some y → bound (o.map σ.ev) dflt K → (σ.ev y).ok (fun _ => False) (fun k _ => ∃ en, σ.ar k = some en ∧ en.kind = .frz) := by
    intro o y dflt K e hb
    subst e
    simp only [Option.map] at hb
    generalize σ.ev y = yv at hb
    unfold bound at hb
    split at hb
    · rename_i e; cases e
    · rename_i e; cases e; trivial
    · exact hb.elim
  have bget : ∀ {o : Option V} {dflt : Int} {K : Int → Prop}, bound o dflt K → ∃ n, K n := by
    intro o dflt K hb
    unfold bound at hb
    split at hb
    · exact ⟨_, hb⟩
    · exact ⟨_, hb⟩
    · exact hb.elim
  have cget : ∀ {K : List V → Prop}, contsF σ (σ.ev x) K → (σ.ev x).ok (fun _ => False) (fun k _ => ∃ en, σ.ar k = some en ∧ en.kind = .frz) ∧ ∃ xs, K xs := by
    intro K hc
    have wx := wf x
    generalize σ.ev x = xv at hc wx
    unfold contsF at hc
    split at hc
    · exact ⟨by simpa only [V.ok] using wx, _, hc⟩
    · exact ⟨by simpa only [V.ok] using wx, _, hc⟩
    · exact ⟨trivial, _, hc⟩
    · split at hc
      · rename_i en he
        have q := need_p hc
        exact ⟨by simp only [V.ok]; exact ⟨en, he, q.1.2⟩, _, q.2⟩
      · exact hc.elim
    · exact hc.elim
  cases hb : Nat.blt t (T.n t) with
  | false => rw [hb] at h'; exact h'.elim
  | true =>
    rw [hb] at h'
    simp only [cond] at h'
    unfold sliceVC at h'
    split at h'
    · rename_i s hk hx
      split at h'
      · rename_i hmx
        obtain ⟨l, h1⟩ := bget h'
        obtain ⟨hh, h2⟩ := bget h1
        have h3 := (need_p h2).2
        refine ⟨h3.2.symm, fun y hy => ?_⟩
        rcases hop y hy with rfl | e | e | e
        · rw [hx]; trivial
        · exact lit e h'
        · exact lit e h1
        · subst e; cases hmx
      · exact h'.elim
    · rename_i hk _
      cases hb2 : Nat.blt (T.row t).elem (T.n (T.row t).elem) with
      | false => rw [hb2] at h'; exact h'.elim
      | true =>
        rw [hb2] at h'
        simp only [cond] at h'
        obtain ⟨hx, xs, h0⟩ := cget h'
        obtain ⟨l, h1⟩ := bget h0
        obtain ⟨hh, h2⟩ := bget h1
        split at h2
        · rename_i hmx
          have h3 := (need_p h2).2
          refine ⟨h3.2.symm, fun y hy => ?_⟩
          rcases hop y hy with rfl | e | e | e
          · exact hx
          · exact lit e h0
          · exact lit e h1
          · subst e; cases hmx
        · rename_i m hmx
          split at h2
          · exact h2.elim
          · obtain ⟨mm, h3⟩ := bget h2
            have h4 := (need_p h3).2
            refine ⟨h4.2.symm, fun y hy => ?_⟩
            rcases hop y hy with rfl | e | e | e
            · exact hx
            · exact lit e h0
            · exact lit e h1
            · rw [← hmx] at h2
              exact lit e h2
    · exact h'.elim
theorem append_ar {as : Array Operand} {ts : Array TypeId} (h : operVC T P (.drawn hv) σ d (.call ⟨.builtin .append, as, ts⟩) (Is v ms)) : ∀ m ∈ ms, ∀ k en, σ.ar k = some en → en.kind = .frz → ¬ m.isA k := by
  have one : ∀ (k : Nat) (en' : AE), (∀ en, σ.ar k = some en → en.kind ≠ .frz) → ∀ m ∈ [Mod.a k en'], ∀ j en, σ.ar j = some en → en.kind = .frz → ¬ m.isA j := fun k en' hk m hm j en h1 h2 hb => by
    cases List.mem_singleton.1 hm
    cases hb
    exact hk en h1 h2
  have h' : opVC T σ d (.call ⟨.builtin .append, as, ts⟩) (Is v ms) := h
  unfold opVC at h'
  split at h' <;> rename_i heq <;> try (cases heq; done)
  · rename_i s x t t'
    have hm : Mo (fun ms => ∀ m ∈ ms, ∀ j en, σ.ar j = some en → en.kind = .frz → ¬ m.isA j) (fun K => cond (Nat.blt t (T.n t) && Nat.beq t t') (appendVC T (T.row t) σ d (σ.ev s) (σ.ev x) K) False) := by
      refine Mo.cond ?_ Mo.false
      unfold appendVC
      split
      · refine Mo.cond (Mo.conts fun xs => ?_) Mo.false
        split
        · split
          · rename_i hd
            exact Mo.need fun _ => Mo.ret _ (one _ _ (fun en he => by rw [hd] at he; cases he))
          · exact Mo.false
        · split
          · rename_i hd
            exact Mo.need fun _ => Mo.ret _ (one _ _ (fun en he => by rw [hd] at he; cases he))
          · exact Mo.false
        · split
          · rename_i en0 hd
            exact Mo.need fun hn => Mo.ret _ (one _ _ (fun en he => by rw [hd] at he; cases he; rcases hn.2.1 with h | h <;> rw [h] <;> simp))
          · exact Mo.false
        · exact Mo.false
      · exact Mo.false
    obtain ⟨v1, ms1, ⟨_, h2⟩, h3⟩ := hm _ h'
    rw [← h2]; exact h3
  all_goals exact h'.elim

theorem eff_loc' (hno : hvO hv o = false) (he : ∀ t ∈ o.looksAt ops.toArray, σ'.env t = σ.env t) (ha : (∃ d, operVC T P (.drawn hv) σ d o.op (Is v ms)) → 1 < cls o.op → ∀ x ∈ o.op.operands, (σ.ev x).agr σ σ') (hm : ∀ m ∈ ms, m.same σ σ') (h : Eff T P hv n ops o σ v ms) : Eff T P hv n ops o σ' v ms := by
  have hev : ∀ x ∈ o.op.operands, σ'.ev x = σ.ev x := by
    intro x hx
    cases x with
    | tmp t =>
      refine he t ?_
      unfold Oper.looksAt
      rw [List.mem_append]
      left
      rw [List.mem_filterMap]
      exact ⟨.tmp t, Array.mem_toList_iff.2 hx, rfl⟩
    | const v => rfl
    | global g => rfl
    | func f => rfl
  unfold Eff at *
  obtain ⟨h1, h2⟩ := h
  refine ⟨h1, ?_⟩
  split at h2
  · rename_i hg
    exact loc_oper (fun hq => by rw [hvO_hvy hno] at hq; cases hq) hev (ha ⟨_, h2⟩) hm h2
  · rename_i j want hg
    obtain ⟨s, q1, q2⟩ := h2
    have hs : σ'.env s = σ.env s := by
      refine he s ?_
      unfold Oper.looksAt
      rw [List.mem_append]
      right
      unfold guardSlot at q1
      rw [nth_eq] at q1
      simp [hg, q1]
    refine ⟨s, q1, ?_⟩
    rw [hs]
    rcases q2 with ⟨q2, q3⟩ | q2
    · exact .inl ⟨q2, loc_oper (fun hq => by rw [hvO_hvy hno] at hq; cases hq) hev (ha ⟨_, q3⟩) hm q3⟩
    · exact .inr q2

theorem swap_slice (hnp : hvO hv p = false) (hno : hvO hv o = false) (wf : ∀ x : Operand, (σ.ev x).ok σ.hasB σ.hasA) (hpo : Oper.apart ops.toArray p o = true) {t : TypeId} {x0 : Operand} {lo hi mx : Option Operand} (hp : p.op = .slice t x0 lo hi mx) (ho : isApp o.op = true)
    (h1 : Eff T P hv n ops p σ v ms) (h2 : Eff T P hv n ops o (σ.put p.dst v ms) v' ms') :
    Eff T P hv n ops o σ v' ms' ∧ Eff T P hv n ops p (σ.put o.dst v' ms') v ms ∧ (σ.put p.dst v ms).put o.dst v' ms' = (σ.put o.dst v' ms').put p.dst v ms := by
  obtain ⟨hp1, hp2, hp3⟩ := Oper.apart_spec hpo
  have hms : ms = [] := by
    unfold Eff at h1
    obtain ⟨_, h1⟩ := h1
    rw [hp] at h1
    split at h1
    · exact (slice_ok wf h1).1
    · obtain ⟨s, _, h1⟩ := h1
      rcases h1 with ⟨_, h1⟩ | ⟨_, _, h1⟩
      · exact (slice_ok wf h1).1
      · exact h1
  subst hms
  have b1 : (σ.put p.dst v []).bx = σ.bx := by rw [put_bx]; rfl
  have a1 : (σ.put p.dst v []).ar = σ.ar := by rw [put_ar]; rfl
  have s1 : Eff T P hv n ops o σ v' ms' := by
    refine eff_loc (σ := σ.put p.dst v []) (fun hq => by rw [hno] at hq; cases hq) ?_ ?_ ?_ h2
    · intro t ht
      exact (put_env_ne _ _ _ _ (fun e => hp1 t e ht)).symm
    · intro _ x hx
      have e : (σ.put p.dst v []).ev x = σ.ev x := by
        cases x with
        | tmp t =>
          refine put_env_ne _ _ _ _ (fun e => hp1 t e ?_)
          unfold Oper.looksAt
          rw [List.mem_append]
          left
          rw [List.mem_filterMap]
          exact ⟨.tmp t, Array.mem_toList_iff.2 hx, rfl⟩
        | const v => rfl
        | global g => rfl
        | func f => rfl
      rw [e]
      exact V.ok.imp (fun j _ => by rw [b1]) (fun j _ _ => by rw [a1]) _ (wf x)
    · intro m _
      cases m with
      | b j cs => show σ.bx j = _; rw [b1]
      | a j cs => show σ.ar j = _; rw [a1]
  have hA : ∀ m ∈ ms', ∀ k en, σ.ar k = some en → en.kind = .frz → ¬ m.isA k := by
    have h2 := s1
    unfold Eff at h2
    obtain ⟨_, h2⟩ := h2
    have key : operVC T P (.drawn hv) σ (o.dst.getD n) o.op (Is v' ms') → ∀ m ∈ ms', ∀ k en, σ.ar k = some en → en.kind = .frz → ¬ m.isA k := by
      intro h
      unfold isApp at ho
      split at ho
      · rename_i hop
        rw [hop] at h
        exact append_ar h
      · cases ho
    split at h2
    · exact key h2
    · obtain ⟨s, _, h2⟩ := h2
      rcases h2 with ⟨_, h2⟩ | ⟨_, _, h2⟩
      · exact key h2
      · subst h2; intro m hm; cases hm
  refine ⟨s1, ?_, ?_⟩
  · refine eff_loc' hnp (σ := σ) ?_ ?_ ?_ h1
    · intro t ht
      exact put_env_ne _ _ _ _ (fun e => hp3 t e ht)
    · rintro ⟨d, hd⟩ _ x hx
      rw [hp] at hd hx
      refine V.ok.imp ?_ ?_ _ ((slice_ok wf hd).2 x hx)
      · intro _ h; exact h.elim
      · rintro k _ ⟨en, e1, e2⟩
        rw [put_ar]
        exact apps_ar_ne _ _ _ (fun m hm => hA m hm k en e1 e2)
    · intro m hm; cases hm
  · exact put_comm (fun t e => hp2 t e) (fun j ⟨m, hm, _⟩ => by cases hm) (fun j ⟨m, hm, _⟩ => by cases hm)

theorem swap_load (hnp : hvO hv p = false) (hno : hvO hv o = false) (wf : ∀ x : Operand, (σ.ev x).ok σ.hasB σ.hasA) (hg : Good cl σ) (hpo : Oper.apart ops.toArray p o = true) (hs : loadSep cl p.op o.op = true)
    (h1 : Eff T P hv n ops p σ v ms) (h2 : Eff T P hv n ops o (σ.put p.dst v ms) v' ms') :
    Eff T P hv n ops o σ v' ms' ∧ Eff T P hv n ops p (σ.put o.dst v' ms') v ms ∧ (σ.put p.dst v ms).put o.dst v' ms' = (σ.put o.dst v' ms').put p.dst v ms := by
  by_cases hsl : ∃ t x lo hi mx, p.op = .slice t x lo hi mx
  · obtain ⟨t, x, lo, hi, mx, hsl⟩ := hsl
    rw [hsl] at hs
    exact swap_slice hnp hno wf hpo hsl hs h1 h2
  obtain ⟨hp1, hp2, hp3⟩ := Oper.apart_spec hpo
  obtain ⟨i, hs, hpx, hpm⟩ : ∃ i, sepO cl i o.op = true ∧ (∀ x ∈ p.op.operands, (σ.ev x).ok (fun j => j = i) (fun _ _ => False)) ∧ (∀ d v ms, operVC T P (.drawn hv) σ d p.op (Is v ms) → ms = []) := by
    unfold loadSep at hs
    split at hs
    · rename_i t u hpop
      split at hs
      · rename_i i hi
        refine ⟨i, hs, fun x hx => ?_, fun d v ms h => ?_⟩
        · rw [hpop] at hx
          have : x = .tmp u := by simpa [Op.operands] using hx
          subst this
          exact hg u i hi
        · rw [hpop] at h; exact load_mods h
      · cases hs
    · rename_i t u y hpop
      split at hs
      · rename_i i hi
        rw [Bool.and_eq_true] at hs
        refine ⟨i, hs.2, fun x hx => ?_, fun d v ms h => ?_⟩
        · rw [hpop] at hx
          have : x = .tmp u ∨ x = y := by simpa [Op.operands] using hx
          rcases this with rfl | rfl
          · exact hg u i hi
          · exact claim_ev hg hs.1
        · rw [hpop] at h; exact index_mods h
      · cases hs
    · rename_i hpop
      exact absurd ⟨_, _, _, _, _, hpop⟩ hsl
    · cases hs
  have hms : ms = [] := by
    unfold Eff at h1
    obtain ⟨_, h1⟩ := h1
    split at h1
    · exact hpm _ _ _ h1
    · obtain ⟨s, _, h1⟩ := h1
      rcases h1 with ⟨_, h1⟩ | ⟨_, _, h1⟩
      · exact hpm _ _ _ h1
      · exact h1
  subst hms
  have b1 : (σ.put p.dst v []).bx = σ.bx := by rw [put_bx]; rfl
  have a1 : (σ.put p.dst v []).ar = σ.ar := by rw [put_ar]; rfl
  have s1 : Eff T P hv n ops o σ v' ms' := by
    refine eff_loc (σ := σ.put p.dst v []) (fun hq => by rw [hno] at hq; cases hq) ?_ ?_ ?_ h2
    · intro t ht
      exact (put_env_ne _ _ _ _ (fun e => hp1 t e ht)).symm
    · intro _ x hx
      have e : (σ.put p.dst v []).ev x = σ.ev x := by
        cases x with
        | tmp t =>
          refine put_env_ne _ _ _ _ (fun e => hp1 t e ?_)
          unfold Oper.looksAt
          rw [List.mem_append]
          left
          rw [List.mem_filterMap]
          exact ⟨.tmp t, Array.mem_toList_iff.2 hx, rfl⟩
        | const v => rfl
        | global g => rfl
        | func f => rfl
      rw [e]
      exact V.ok.imp (fun j _ => by rw [b1]) (fun j _ _ => by rw [a1]) _ (wf x)
    · intro m _
      cases m with
      | b j cs => show σ.bx j = _; rw [b1]
      | a j cs => show σ.ar j = _; rw [a1]
  have hB : ∀ m ∈ ms', ¬ m.isB i := by
    have h2 := s1
    unfold Eff at h2
    obtain ⟨_, h2⟩ := h2
    have key : operVC T P (.drawn hv) σ (o.dst.getD n) o.op (Is v' ms') → ∀ m ∈ ms', ¬ m.isB i := by
      intro h
      unfold sepO at hs
      split at hs
      · rename_i t' u' y hop
        rw [hop] at h
        split at hs
        · rename_i j hj
          refine fun m hm => store_mods (σ := σ) (x := .tmp u') (i := j) (hg u' j hj) h m hm i (fun e => ?_)
          subst e
          simp at hs
        · cases hs
      · rename_i hop
        rw [hop] at h
        exact fun m hm => append_mods h m hm i
      · cases hs
    split at h2
    · exact key h2
    · obtain ⟨s, _, h2⟩ := h2
      rcases h2 with ⟨_, h2⟩ | ⟨_, _, h2⟩
      · exact key h2
      · subst h2; intro m hm; cases hm
  refine ⟨s1, ?_, ?_⟩
  · refine eff_loc (σ := σ) (fun hq => by rw [hnp] at hq; cases hq) ?_ ?_ ?_ h1
    · intro t ht
      exact put_env_ne _ _ _ _ (fun e => hp3 t e ht)
    · intro _ x hx
      refine V.ok.imp ?_ ?_ _ (hpx x (by simpa using hx))
      · rintro j rfl
        rw [put_bx]
        exact apps_bx_ne _ _ _ hB
      · intro _ _ h; exact h.elim
    · intro m hm; cases hm
  · exact put_comm (fun t e => hp2 t e) (fun j ⟨m, hm, _⟩ => by cases hm) (fun j ⟨m, hm, _⟩ => by cases hm)
mutual
theorem ok_both {p p' : Nat → Prop} {q q' : Nat → Nat → Prop} : {x : V} → x.ok p q → x.ok p' q' → x.ok (fun i => p i ∧ p' i) (fun k g => q k g ∧ q' k g)
  | .box i _, h, h' => by simp only [V.ok] at h h' ⊢; exact ⟨h, h'⟩
  | .arr k g, h, h' => by simp only [V.ok] at h h' ⊢; exact ⟨h, h'⟩
  | .ae k g _ _ _, h, h' => by simp only [V.ok] at h h' ⊢; exact ⟨h, h'⟩
  | .agg cs, h, h' => by simp only [V.ok] at h h' ⊢; exact okL_both h h'
  | .tup cs, h, h' => by simp only [V.ok] at h h' ⊢; exact okL_both h h'
  | .sl l, h, _ => by simp only [V.ok] at h ⊢; exact h
  | .cap l, h, _ => by simp only [V.ok] at h ⊢; exact h
  | .fp l, h, _ => by simp only [V.ok] at h ⊢; exact h
  | .fn _ l, h, h' => by simp only [V.ok] at h h' ⊢; exact okL_both h h'
  | .own _ l, h, _ => by simp only [V.ok] at h ⊢; exact h
  | .ap _ l, h, _ => by simp only [V.ok] at h ⊢; exact h
  | .bot, _, _ => by simp only [V.ok]
  | .lit _, _, _ => by simp only [V.ok]
theorem okL_both {p p' : Nat → Prop} {q q' : Nat → Nat → Prop} : {l : List V} → V.okL p q l → V.okL p' q' l → V.okL (fun i => p i ∧ p' i) (fun k g => q k g ∧ q' k g) l
  | [], _, _ => by simp only [V.okL]
  | x :: r, h, h' => by simp only [V.okL] at h h' ⊢; exact ⟨ok_both h.1 h'.1, okL_both h.2 h'.2⟩
end
/-! ### calls that change variables -/
theorem backL_mods {ar : Nat → Option AE} {is : List Nat} : ∀ {ys xs : List V} {N : Nat} {K : List V → List Mod → Prop}, backL ar is [] ys xs N K → ∃ vs ms, K vs ms ∧ ∀ m ∈ ms, ∃ k en, m = .a k en ∧ ar k = none := by
  intro ys
  induction ys with
  | nil =>
    intro xs N K h
    cases xs with
    | nil => exact ⟨[], [], h, fun m hm => by cases hm⟩
    | cons x r => exact (h : False).elim
  | cons y r ih =>
    intro xs N K h
    cases xs with
    | nil => exact (h : False).elim
    | cons x xr =>
      have go : ∀ (kd : AK) (e : TypeId) (l : List V), (backA ar [] N kd e l x fun v m => backL ar is [] r xr (N + 1000) fun vs ms => K (v :: vs) (m :: ms)) → ∃ vs ms, K vs ms ∧ ∀ m ∈ ms, ∃ k en, m = .a k en ∧ ar k = none := by
        intro kd e l hA
        rcases backA_cases hA with ⟨k, g, en, _, hk, _⟩ | ⟨hn, hK⟩
        · cases hk
        · obtain ⟨vs, ms, q1, q2⟩ := ih hK
          refine ⟨_, _, q1, fun m hm => ?_⟩
          rcases List.mem_cons.1 hm with rfl | hm
          · exact ⟨_, _, rfl, hn⟩
          · exact q2 m hm
      rw [backL_cons] at h
      split at h
      · exact go _ _ _ h
      · exact go _ _ _ h
      · rw [force_eq] at h
        obtain ⟨vs, ms, q1, q2⟩ := ih h
        exact ⟨_, _, q1, q2⟩
theorem backB_mods {bx : Nat → Option (List V)} {ar : Nat → Option AE} {is0 : List Nat} : ∀ {bs : List (List V)} {is : List Nat} {N : Nat} {K : List Mod → Prop}, backB bx ar is0 [] bs is N K → ∃ ms, K ms ∧ ∀ m ∈ ms, (∃ k en, m = .a k en ∧ ar k = none) ∨ ∃ i ∈ is, m.isB i := by
  intro bs
  induction bs with
  | nil =>
    intro is N K h
    cases is with
    | nil => exact ⟨[], h, fun m hm => by cases hm⟩
    | cons x r => exact (h : False).elim
  | cons b r ih =>
    intro is N K h
    cases is with
    | nil => exact (h : False).elim
    | cons i ir =>
      rw [backB_cons] at h
      split at h
      · obtain ⟨vs, ms, h, q⟩ := backL_mods h
        obtain ⟨ns, h, q'⟩ := ih h
        refine ⟨_, h, fun m hm => ?_⟩
        rw [appR_eq] at hm
        rcases List.mem_append.1 hm with hm | hm
        · exact .inl (q m hm)
        · rcases List.mem_cons.1 hm with rfl | hm
          · exact .inr ⟨i, by simp, rfl⟩
          · rcases q' m hm with h | ⟨j, hj, h⟩
            · exact .inl h
            · exact .inr ⟨j, by simp [hj], h⟩
      · exact h.elim
theorem heavy_mods {bl : List Nat} (hd : hvOf hv d = some bl) {f : FuncId} {xs : List V} (h : callVC T P (.drawn hv) σ d f xs (Is v ms)) : ∀ m ∈ ms, m.fresh σ ∨ ∃ i ∈ bl, m.isB i := by
  rcases h.out with ⟨ys, r, lend, h1, h2, h3, h4⟩ | ⟨h0, _⟩ | ⟨ys, is, bs, r, bs', h0, h1, h2, h3, h4⟩
  · have hc := h2
    simp only [callOk, Md.light, Bool.and_eq_true, cond_true, Bool.or_eq_true] at hc
    have ho : ownKeys ys xs = [] := by
      have := hc.2.1
      rw [Nat.beq_eq, lenR_eq] at this
      exact List.length_eq_zero_iff.1 this
    have hf : cond lend [] (frzMods σ (viewKeys ys xs)) = [] := by
      rcases hc.2.2 with h | h
      · rw [h]; rfl
      · rw [Nat.beq_eq, lenR_eq] at h
        rw [List.length_eq_zero_iff.1 h]
        cases lend <;> rfl
    have hk : ∀ (ms : List Mod), appR (cond lend [] (frzMods σ (viewKeys ys xs))) (appR (deadMods σ (ownKeys ys xs)) ms) = ms := fun ms => by
      rw [hf, ho]; rfl
    have hre : reuse σ (ownKeys ys xs) = none := by rw [ho]; rfl
    simp only [hk, hre] at h4
    obtain ⟨v1, ms1, ⟨_, q1⟩, q2, q3⟩ := loc_recvK h4
    subst q1
    exact fun m hm => .inl (q2 m hm)
  · cases h0
  · unfold Md.may at h0
    simp only [hd, Bool.and_eq_true] at h0
    obtain ⟨⟨i1, i2⟩, i3⟩ := h0
    have ho : ownG ((xs, ys) :: grpsR σ.bx bs is) = [] := by rw [Nat.beq_eq, lenR_eq] at i2; exact List.length_eq_zero_iff.1 i2
    have hw : viewG ((xs, ys) :: grpsR σ.bx bs is) = [] := by rw [Nat.beq_eq, lenR_eq] at i3; exact List.length_eq_zero_iff.1 i3
    have his : ∀ i ∈ is, i ∈ bl := fun i hi => memR_iff.1 (allR_iff.1 i1 i hi)
    rw [ho, hw] at h4
    have hfin : ∀ (a b : List Mod), (∀ m ∈ a, ∃ k en, m = .a k en ∧ σ.ar k = none) → (∀ m ∈ b, (∃ k en, m = .a k en ∧ σ.ar k = none) ∨ ∃ i ∈ is, m.isB i) → ∀ m ∈ appR (frzMods σ []) (appR (deadMods σ []) (appR a b)), m.fresh σ ∨ ∃ i ∈ bl, m.isB i := by
      intro a b ha hb m hm
      have hm' : m ∈ appR a b := hm
      rw [appR_eq] at hm'
      rcases List.mem_append.1 hm' with h | h
      · obtain ⟨k, en, rfl, hk⟩ := ha m h
        exact .inl hk
      · rcases hb m h with ⟨k, en, rfl, hk⟩ | ⟨i, hi, hib⟩
        · exact .inl hk
        · exact .inr ⟨i, his i hi, hib⟩
    unfold backK at h4
    split at h4
    · obtain ⟨vs, ms1, h4, q1⟩ := backL_mods h4
      obtain ⟨ns, ⟨_, h4⟩, q2⟩ := backB_mods h4
      rw [← h4]
      exact hfin _ _ q1 q2
    · obtain ⟨vs, ms1, h4, q1⟩ := backL_mods h4
      cases vs with
      | nil => exact h4.elim
      | cons x xr =>
        obtain ⟨ns, ⟨_, h4⟩, q2⟩ := backB_mods h4
        rw [← h4]
        exact hfin _ _ q1 q2

theorem field_mods {t : TypeId} {x : Operand} {f : Nat} (h : operVC T P (.drawn hv) σ d (.fieldAddr t x f) (Is v ms)) : ms = [] := by
  have h' : opVC T σ d (.fieldAddr t x f) (Is v ms) := h
  unfold opVC at h'
  have hm : Mo (fun ms => ms = []) (fun K => cond (Nat.blt t (T.n t)) (fieldAddrVC (T.row t) (σ.ev x) f K) False) := by
    refine Mo.cond ?_ Mo.false
    unfold fieldAddrVC
    split
    · refine Mo.cond Mo.false ?_
      split
      · exact Mo.ret _ rfl
      · exact Mo.forceL fun l => Mo.ret _ rfl
      · exact Mo.ret _ rfl
      · exact Mo.false
    · exact Mo.false
  obtain ⟨v1, ms1, ⟨_, h2⟩, h3⟩ := hm _ h'
  rw [← h2, h3]
theorem move_mods {x : Operand} (h : operVC T P (.drawn hv) σ d (.move x) (Is v ms)) : ms = [] := by
  have h' : force (σ.ev x) (fun v' => Is v ms v' []) := h
  rw [force_eq] at h'
  exact h'.2.symm

/-- what an operation that is quiet looks at -/
theorem quiet_spec {bl : List Nat} (hq : quietB cl bl p.op = true) : (∀ (σ : St) d v ms, operVC T P (.drawn hv) σ d p.op (Is v ms) → ms = []) ∧ hvO hv p = false ∧
    (cls p.op ≤ 1 ∨ ∃ i, i ∉ bl ∧ ∀ σ : St, Good cl σ → ∀ x ∈ p.op.operands, (σ.ev x).ok (fun j => j = i) (fun _ _ => False)) := by
  unfold quietB at hq
  split at hq
  · rename_i t u hop
    split at hq
    · rename_i i hi
      refine ⟨fun σ d v ms h => by rw [hop] at h; exact load_mods h, by unfold hvO; rw [hop]; rfl, .inr ⟨i, fun hm => by simp [hm] at hq, fun σ hg x hx => ?_⟩⟩
      rw [hop] at hx
      have : x = .tmp u := by simpa [Op.operands] using hx
      subst this
      exact hg u i hi
    · cases hq
  · rename_i hop
    exact ⟨fun σ d v ms h => by rw [hop] at h; exact field_mods h, by unfold hvO; rw [hop]; rfl, .inl (by rw [hop]; simp [cls])⟩
  · rename_i hop
    exact ⟨fun σ d v ms h => by rw [hop] at h; exact move_mods h, by unfold hvO; rw [hop]; rfl, .inl (by rw [hop]; simp [cls])⟩
  · cases hq

theorem eff_quiet {bl : List Nat} (hq : quietB cl bl p.op = true) (h : Eff T P hv n ops p σ v ms) : ms = [] := by
  unfold Eff at h
  obtain ⟨_, h⟩ := h
  split at h
  · exact (quiet_spec (T := T) (P := P) (hv := hv) hq).1 _ _ _ _ h
  · obtain ⟨s, _, h⟩ := h
    rcases h with ⟨_, h⟩ | ⟨_, _, h⟩
    · exact (quiet_spec (T := T) (P := P) (hv := hv) hq).1 _ _ _ _ h
    · exact h
theorem eff_heavy {bl : List Nat} (hb : blOf hv o = some bl) (h : Eff T P hv n ops o σ v ms) : ∀ m ∈ ms, m.fresh σ ∨ ∃ i ∈ bl, m.isB i := by
  unfold blOf at hb
  split at hb
  · rename_i d hc hd
    have key : operVC T P (.drawn hv) σ (o.dst.getD n) o.op (Is v ms) → ∀ m ∈ ms, m.fresh σ ∨ ∃ i ∈ bl, m.isB i := by
      intro h
      rw [hd] at h
      simp only [Option.getD_some] at h
      unfold isCallV at hc
      split at hc
      · rename_i cal as ts hop
        rw [hop] at h
        cases cal with
        | func f =>
          have h' : forceL (mapR σ.ev as.toList) (fun xs => callVC T P (.drawn hv) σ d f xs (Is v ms)) := h
          rw [forceL_eq] at h'
          exact heavy_mods hb h'
        | tmp t =>
          have h' : (match σ.env t with
            | .fn g caps => forceL (mapR σ.ev as.toList) fun xs => callVC T P (.drawn hv) σ d g (appR xs caps) (Is v ms)
            | _ => False) := h
          split at h'
          · rw [forceL_eq] at h'
            exact heavy_mods hb h'
          · exact h'.elim
        | const c => exact (h : False).elim
        | global g => exact (h : False).elim
      · cases hc
    unfold Eff at h
    obtain ⟨_, h⟩ := h
    split at h
    · exact key h
    · obtain ⟨s, _, h⟩ := h
      rcases h with ⟨_, h⟩ | ⟨_, _, h⟩
      · exact key h
      · subst h; intro m hm; cases hm
  · cases hb

theorem ev_put {x : Operand} (hx : x ∈ o.op.operands) (h : ∀ t, p.dst = some t → t ∉ o.looksAt ops.toArray) : (σ.put p.dst v ms).ev x = σ.ev x := by
  cases x with
  | tmp t =>
    refine put_env_ne _ _ _ _ (fun e => h t e ?_)
    unfold Oper.looksAt
    rw [List.mem_append]
    left
    rw [List.mem_filterMap]
    exact ⟨.tmp t, Array.mem_toList_iff.2 hx, rfl⟩
  | const v => rfl
  | global g => rfl
  | func f => rfl

/-- one that is quiet ahead of a call that changes variables -/
theorem swap_qh (wf : ∀ x : Operand, (σ.ev x).ok σ.hasB σ.hasA) (hg : Good cl σ) (hpo : Oper.apart ops.toArray p o = true) {bl : List Nat} (hb : blOf hv o = some bl) (hq : quietB cl bl p.op = true)
    (h1 : Eff T P hv n ops p σ v ms) (h2 : Eff T P hv n ops o (σ.put p.dst v ms) v' ms') :
    Eff T P hv n ops o σ v' ms' ∧ Eff T P hv n ops p (σ.put o.dst v' ms') v ms ∧ (σ.put p.dst v ms).put o.dst v' ms' = (σ.put o.dst v' ms').put p.dst v ms := by
  obtain ⟨hp1, hp2, hp3⟩ := Oper.apart_spec hpo
  have hms := eff_quiet hq h1
  subst hms
  obtain ⟨_, hnp, hlk⟩ := quiet_spec (T := T) (P := P) (hv := hv) hq
  have b1 : (σ.put p.dst v []).bx = σ.bx := by rw [put_bx]; rfl
  have a1 : (σ.put p.dst v []).ar = σ.ar := by rw [put_ar]; rfl
  have s1 : Eff T P hv n ops o σ v' ms' := by
    refine eff_loc (σ := σ.put p.dst v []) (fun _ => ⟨b1.symm, a1.symm⟩) ?_ ?_ ?_ h2
    · intro t ht
      exact (put_env_ne _ _ _ _ (fun e => hp1 t e ht)).symm
    · intro _ x hx
      rw [ev_put hx hp1]
      exact V.ok.imp (fun j _ => by rw [b1]) (fun j _ _ => by rw [a1]) _ (wf x)
    · intro m _
      cases m with
      | b j cs => show σ.bx j = _; rw [b1]
      | a j cs => show σ.ar j = _; rw [a1]
  have hmo := eff_heavy hb s1
  refine ⟨s1, ?_, ?_⟩
  · refine eff_loc (σ := σ) (fun hq => by rw [hnp] at hq; cases hq) ?_ ?_ ?_ h1
    · intro t ht
      exact put_env_ne _ _ _ _ (fun e => hp3 t e ht)
    · intro hc x hx
      rcases hlk with hlk | ⟨i, hi, hlk⟩
      · omega
      · have hok := hlk σ hg x hx
        have hwf := wf x
        refine V.ok.imp ?_ ?_ _ (ok_both hok hwf)
        · rintro j ⟨rfl, cs, hj⟩
          rw [put_bx]
          refine apps_bx_ne _ _ _ (fun m hm hbm => ?_)
          rcases hmo m hm with h | ⟨i', hi', h⟩
          · cases m with
            | b j' cs' => cases hbm; have h' : σ.bx j = none := h; rw [h'] at hj; cases hj
            | a j' en => exact hbm
          · cases m with
            | b j' cs' => cases hbm; cases h; exact hi hi'
            | a j' en => exact hbm
        · rintro k g ⟨h, _⟩; exact h.elim
    · intro m hm; cases hm
  · exact put_comm (fun t e => hp2 t e) (fun j ⟨m, hm, _⟩ => by cases hm) (fun j ⟨m, hm, _⟩ => by cases hm)

/-- a call that changes variables ahead of one that is quiet -/
theorem swap_hq (wf : ∀ x : Operand, (σ.ev x).ok σ.hasB σ.hasA) (hg : Good cl σ) (hpo : Oper.apart ops.toArray p o = true) {bl : List Nat} (hb : blOf hv p = some bl) (hq : quietB cl bl o.op = true)
    (h1 : Eff T P hv n ops p σ v ms) (h2 : Eff T P hv n ops o (σ.put p.dst v ms) v' ms') :
    Eff T P hv n ops o σ v' ms' ∧ Eff T P hv n ops p (σ.put o.dst v' ms') v ms ∧ (σ.put p.dst v ms).put o.dst v' ms' = (σ.put o.dst v' ms').put p.dst v ms := by
  obtain ⟨hp1, hp2, hp3⟩ := Oper.apart_spec hpo
  have hms := eff_quiet hq h2
  subst hms
  obtain ⟨_, hno, hlk⟩ := quiet_spec (T := T) (P := P) (hv := hv) hq
  have hmo := eff_heavy hb h1
  have b1 : (σ.put o.dst v' []).bx = σ.bx := by rw [put_bx]; rfl
  have a1 : (σ.put o.dst v' []).ar = σ.ar := by rw [put_ar]; rfl
  refine ⟨?_, ?_, ?_⟩
  · refine eff_loc (σ := σ.put p.dst v ms) (fun hq => by rw [hno] at hq; cases hq) ?_ ?_ ?_ h2
    · intro t ht
      exact (put_env_ne _ _ _ _ (fun e => hp1 t e ht)).symm
    · intro hc x hx
      rw [ev_put hx hp1]
      rcases hlk with hlk | ⟨i, hi, hlk⟩
      · omega
      · have hok := hlk σ hg x hx
        refine V.ok.imp ?_ ?_ _ (ok_both hok (wf x))
        · rintro j ⟨rfl, cs, hj⟩
          rw [put_bx]
          refine (apps_bx_ne _ _ _ (fun m hm hbm => ?_)).symm
          rcases hmo m hm with h | ⟨i', hi', h⟩
          · cases m with
            | b j' cs' => cases hbm; have h' : σ.bx j = none := h; rw [h'] at hj; cases hj
            | a j' en => exact hbm
          · cases m with
            | b j' cs' => cases hbm; cases h; exact hi hi'
            | a j' en => exact hbm
        · rintro k g ⟨h, _⟩; exact h.elim
    · intro m hm; cases hm
  · refine eff_loc (σ := σ) (fun _ => ⟨b1, a1⟩) ?_ ?_ ?_ h1
    · intro t ht
      exact put_env_ne _ _ _ _ (fun e => hp3 t e ht)
    · intro _ x hx
      exact V.ok.imp (fun j _ => by rw [b1]) (fun j _ _ => by rw [a1]) _ (wf x)
    · intro m _
      cases m with
      | b j cs => show _ = σ.bx j; rw [b1]
      | a j cs => show _ = σ.ar j; rw [a1]
  · exact put_comm (fun t e => hp2 t e) (fun j _ m hm => by cases hm) (fun j _ m hm => by cases hm)
end
end Go.Ab
namespace Go.Ab

def Real (T : Tab) (Φ : Fr) (σ : St) : Prop := ∃ a w G, Inv T Φ σ a w G

section
variable {T : Tab} {P : Program} {Φ : Fr} {σ : St} {a : Act} {w w' : World} {G G' : Gh} {o : Oper} {d : Nat} {v : V} {ms : List Mod} {ops : List Oper} {K : St → Prop} {hv : List (Nat × List Nat)}

theorem Real.wf (h : Real T Φ σ) (x : Operand) : (σ.ev x).ok σ.hasB σ.hasA := by
  obtain ⟨a, w, G, inv⟩ := h
  exact (inv.ev x).2

theorem oper_real (hT : TabOk T P) (hr : Real T Φ σ) (hd : ∀ d, o.dst = some d → Φ.wr d) (h : operVC T P (.drawn hv) σ d o.op (Is v ms)) : Real T Φ (σ.put o.dst v ms) := by
  obtain ⟨a, w, G, inv⟩ := hr
  unfold operVC at h
  split at h
  · rename_i f as ts ho
    rw [forceL_eq, mapR_eq] at h
    obtain ⟨hc, hcalls⟩ := call_sound inv as h
    obtain ⟨e, w', fr, ⟨v', rfl, v1, ms1, G', ⟨rfl, rfl⟩, inv', hv, hvo⟩, _⟩ := hcalls []
    exact ⟨_, _, _, Inv.put' _ inv' hd hv hvo⟩
  · split at h
    · rename_i g caps hfn
      rw [forceL_eq, mapR_eq, appR_eq] at h
      obtain ⟨lb, e1, hc, hcalls⟩ := callv_sound inv hfn h
      obtain ⟨e, w', fr, ⟨v', rfl, v1, ms1, G', ⟨rfl, rfl⟩, inv', hv, hvo⟩, _⟩ := hcalls []
      exact ⟨_, _, _, Inv.put' _ inv' hd hv hvo⟩
    · exact h.elim
  · rename_i t x lo hi mx ho
    have h1 : opVC T σ d o.op (Is v ms) := by
      rw [ho]
      split at h
      · rename_i h0 _; cases h0
      · exact h
    obtain ⟨v', w1, v1, ms1, G', hr, ⟨rfl, rfl⟩, inv', hv, hvo⟩ := op_sound hT inv o h1
    exact ⟨_, _, _, Inv.put' _ inv' hd hv hvo⟩
  · rename_i bop t x c t' ho
    have h1 : opVC T σ d o.op (Is v ms) := by
      rw [ho]
      split at h
      · rename_i h0 _; cases h0
      · exact h
    obtain ⟨v', w1, v1, ms1, G', hr, ⟨rfl, rfl⟩, inv', hv, hvo⟩ := op_sound hT inv o h1
    exact ⟨_, _, _, Inv.put' _ inv' hd hv hvo⟩
  · obtain ⟨v', w1, v1, ms1, G', hr, ⟨rfl, rfl⟩, inv', hv, hvo⟩ := op_sound hT inv o h
    exact ⟨_, _, _, Inv.put' _ inv' hd hv hvo⟩

theorem eff_real (hT : TabOk T P) (hr : Real T Φ σ) (hkp : ∀ d, o.dst = some d → Φ.keep d = none) (h : Eff T P hv Φ.n ops o σ v ms) : Real T Φ (σ.put o.dst v ms) := by
  unfold Eff at h
  obtain ⟨h0, h2⟩ := h
  have h1 : ∀ d, o.dst = some d → Φ.wr d := fun d h => ⟨h0 d h, hkp d h⟩
  split at h2
  · exact oper_real hT hr h1 h2
  · obtain ⟨s, q1, q2⟩ := h2
    rcases q2 with ⟨q2, q3⟩ | ⟨q2, rfl, rfl⟩
    · exact oper_real hT hr h1 q3
    · obtain ⟨a, w, G, inv⟩ := hr
      exact ⟨_, _, _, Inv.put' [] inv h1 (undef_rv w G) (by simp only [V.ok, V.okL])⟩

/-- operations by their numbers -/
def RunI (T : Tab) (P : Program) (hv : List (Nat × List Nat)) (n : Nat) (ops : List Oper) : List Nat → St → (St → Prop) → Prop
  | [], σ, K => K σ
  | i :: r, σ, K => ∃ o v ms, ops[i]? = some o ∧ Eff T P hv n ops o σ v ms ∧ RunI T P hv n ops r (σ.put o.dst v ms) K

def Compat (cl : List (Nat × Nat)) (hv : List (Nat × List Nat)) (ops : List Oper) (j i : Nat) : Prop := ∀ p o, ops[j]? = some p → ops[i]? = some o → Oper.apart ops.toArray p o = true ∧ (clash (clsH hv p) (clsH hv o) = false ∨ (loadSep cl p.op o.op = true ∧ hvO hv p = false ∧ hvO hv o = false) ∨ hvSep cl hv p o = true)

theorem front (hT : TabOk T P) (hkp : ∀ o ∈ ops, ∀ d, o.dst = some d → Φ.keep d = none) {cl : List (Nat × Nat)} (hcl : ∀ o ∈ ops, claimOk cl o = true) {i : Nat} {l2 : List Nat} : ∀ (l1 : List Nat) (σ : St), Real T Φ σ → Good cl σ → (∀ j ∈ l1, Compat cl hv ops j i) → RunI T P hv Φ.n ops (l1 ++ i :: l2) σ K →
    ∃ o v ms, ops[i]? = some o ∧ Eff T P hv Φ.n ops o σ v ms ∧ RunI T P hv Φ.n ops (l1 ++ l2) (σ.put o.dst v ms) K := by
  intro l1
  induction l1 with
  | nil => intro σ _ _ _ h; exact h
  | cons j r ih =>
    intro σ hr hg hc h
    obtain ⟨p, v, ms, hp, he, h⟩ := h
    obtain ⟨o, v', ms', ho, he', h⟩ := ih _ (eff_real hT hr (hkp p (List.mem_of_getElem? hp)) he) (good_put hg (hcl p (List.mem_of_getElem? hp)) he) (fun k hk => hc k (by simp [hk])) h
    obtain ⟨c1, c2⟩ := hc j (by simp) p o hp ho
    obtain ⟨s1, s2, s3⟩ : Eff T P hv Φ.n ops o σ v' ms' ∧ Eff T P hv Φ.n ops p (σ.put o.dst v' ms') v ms ∧ (σ.put p.dst v ms).put o.dst v' ms' = (σ.put o.dst v' ms').put p.dst v ms := by
      rcases c2 with c2 | ⟨c2, c3, c4⟩ | c2
      · exact swap hr.wf c1 c2 he he'
      · exact swap_load c3 c4 hr.wf hg c1 c2 he he'
      · unfold hvSep at c2
        rw [Bool.or_eq_true] at c2
        rcases c2 with c2 | c2
        · split at c2
          · rename_i bl hbl
            exact swap_qh hr.wf hg c1 hbl c2 he he'
          · cases c2
        · split at c2
          · rename_i bl hbl
            exact swap_hq hr.wf hg c1 hbl c2 he he'
          · cases c2
    refine ⟨o, v', ms', ho, s1, p, v, ms, hp, s2, ?_⟩
    rw [← s3]
    exact h

theorem run_runI (K : St → Prop) : ∀ (l : List Oper) (k : Nat) (σ : St), (∀ j, l[j]? = ops[k + j]?) → Run T P (.drawn hv) Φ.n ops l σ K → RunI T P hv Φ.n ops (List.range' k l.length) σ K := by
  intro l
  induction l with
  | nil => intro k σ _ h; exact h
  | cons o r ih =>
    intro k σ hl h
    obtain ⟨v, ms, he, h⟩ := step_eff h
    have h0 := hl 0
    simp only [List.getElem?_cons_zero, Nat.add_zero] at h0
    refine ⟨o, v, ms, h0.symm, he, ?_⟩
    refine ih (k + 1) _ (fun j => ?_) h
    have := hl (j + 1)
    simp only [List.getElem?_cons_succ] at this
    rw [this]; congr 1; omega

/-! ### who waits for whom -/
theorem testBit_maskOf {ms : List Nat} {o : Oper} {j : Nat} (h : (maskOf ms o).testBit j = true) : ∃ e ∈ o.after, Region.binds .any e = true ∧ (j = e.on ∨ (ms.getD e.on 0).testBit j = true) := by
  unfold maskOf at h
  rw [← Array.foldl_toList] at h
  have gen : ∀ (l : List Edge) (m : Nat), (l.foldl (fun m e => if Region.binds .any e then m ||| 2 ^ e.on ||| ms.getD e.on 0 else m) m).testBit j = true → m.testBit j = true ∨ ∃ e ∈ l, Region.binds .any e = true ∧ (j = e.on ∨ (ms.getD e.on 0).testBit j = true) := by
    intro l
    induction l with
    | nil => intro m h; exact .inl h
    | cons e r ih =>
      intro m h
      rw [List.foldl_cons] at h
      rcases ih _ h with h | ⟨e', he', h⟩
      · split at h
        · rename_i hb
          rw [Nat.testBit_or, Nat.testBit_or, Bool.or_eq_true, Bool.or_eq_true] at h
          rcases h with (h | h) | h
          · exact .inl h
          · rw [Nat.testBit_two_pow] at h
            exact .inr ⟨e, by simp, hb, .inl (of_decide_eq_true h).symm⟩
          · exact .inr ⟨e, by simp, hb, .inr h⟩
        · exact .inl h
      · exact .inr ⟨e', by simp [he'], h⟩
  rcases gen _ _ h with h | ⟨e, he, h⟩
  · simp at h
  · exact ⟨e, Array.mem_toList_iff.1 he, h⟩

/-- whatever must come before one that is listed or ready is listed -/
theorem mask_listed {L R : Nat → Prop} (hc : ∀ i o, ops[i]? = some o → R i → ∀ e ∈ o.after, Region.binds .any e = true → L e.on) (hLR : ∀ i, L i → R i) :
    ∀ (l pre : List Oper) (ms : List Nat), ops = pre ++ l → ms.length = pre.length → (∀ k j, R k → (ms.getD k 0).testBit j = true → L j) →
      ∀ k j, R k → ((l.foldl (fun ms o => ms ++ [maskOf ms o]) ms).getD k 0).testBit j = true → L j := by
  intro l
  induction l with
  | nil => intro pre ms _ _ h; exact h
  | cons o r ih =>
    intro pre ms hops hlen h
    rw [List.foldl_cons]
    refine ih (pre ++ [o]) _ (by simp [hops]) (by simp [hlen]) ?_
    intro k j hk hb
    by_cases e : k = ms.length
    · subst e
      simp at hb
      obtain ⟨e, he, hbi, hor⟩ := testBit_maskOf hb
      have hL := hc ms.length o (by rw [hops, hlen]; simp) hk e he hbi
      rcases hor with rfl | hor
      · exact hL
      · exact h e.on j (hLR _ hL) hor
    · refine h k j hk ?_
      rcases Nat.lt_or_ge k ms.length with hlt | hge
      · rw [List.getD_eq_getElem?_getD, List.getElem?_append_left hlt] at hb; rw [List.getD_eq_getElem?_getD]; exact hb
      · rw [List.getD_eq_getElem?_getD, List.getElem?_eq_none (by simp; omega)] at hb; simp at hb

theorem regionOk_spec {cl : List (Nat × Nat)} (h : regionOkC cl hv ops = true) : (∀ o ∈ ops, claimOk cl o = true) ∧ ∀ (k : Nat) (o : Oper), ops[k]? = some o → (∀ e ∈ o.after, Region.binds .any e = true → e.on < k) ∧
    ∀ (i : Nat) (p : Oper), i < k → ops[i]? = some p → ((masks ops).getD k 0).testBit i = true ∨ (Oper.apart ops.toArray p o = true ∧ (clash (clsH hv p) (clsH hv o) = false ∨ (loadSep cl p.op o.op = true ∧ hvO hv p = false ∧ hvO hv o = false) ∨ hvSep cl hv p o = true)) := by
  unfold regionOkC at h
  simp only [List.all_eq_true, Bool.and_eq_true] at h
  refine ⟨h.1, ?_⟩
  intro k o hk
  have h1 := h.2 (o, k) (List.mem_zipIdx_iff_getElem?.2 hk)
  simp only [Bool.and_eq_true, List.all_eq_true, Array.all_eq_true_iff_forall_mem] at h1
  refine ⟨fun e he hb => ?_, fun i p hi hp => ?_⟩
  · have := h1.1.1 e he
    simp [hb] at this
    exact this
  · have := h1.2 (p, i) (List.mem_zipIdx_iff_getElem?.2 (by rw [List.getElem?_take_of_lt hi]; exact hp))
    simp only [Bool.or_eq_true, Bool.and_eq_true, Bool.not_eq_true'] at this
    rcases this with h | h
    · exact .inl h
    · refine .inr ⟨h.1.1, ?_⟩
      rcases h.2 with (h | h) | h
      · exact .inl h
      · exact .inr (.inl ⟨h.1.1, h.1.2, h.2⟩)
      · exact .inr (.inr h)

/-! ### the orders -/
def rem (n : Nat) (listed : Array Bool) : List Nat := (List.range n).filter fun i => !listed.getD i true

theorem mem_rem {n : Nat} {listed : Array Bool} {i : Nat} : i ∈ rem n listed ↔ i < n ∧ listed.getD i true = false := by
  simp [rem]

theorem getD_set {listed : Array Bool} {i j : Nat} {b : Bool} (hi : i < listed.size) : (listed.setIfInBounds i true).getD j b = if j = i then true else listed.getD j b := by
  rw [Array.getD_eq_getD_getElem?, Array.getD_eq_getD_getElem?, Array.getElem?_setIfInBounds]
  by_cases e : i = j
  · subst e; simp [hi]
  · simp [e, Ne.symm e]

theorem rem_set {n : Nat} {listed : Array Bool} {i : Nat} (hi : i < listed.size) {l1 l2 : List Nat} (h : rem n listed = l1 ++ i :: l2) : rem n (listed.setIfInBounds i true) = l1 ++ l2 := by
  have h1 : rem n (listed.setIfInBounds i true) = (rem n listed).filter fun j => !decide (j = i) := by
    unfold rem
    rw [List.filter_filter]
    apply List.filter_congr
    intro j _
    rw [getD_set hi]
    by_cases e : j = i <;> simp [e]
  have hnd : (rem n listed).Nodup := List.Pairwise.filter _ List.nodup_range
  rw [h] at hnd
  rw [h1, h, List.filter_append, List.filter_cons]
  have hn := List.nodup_append.1 hnd
  have ha : l1.filter (fun j => !decide (j = i)) = l1 := List.filter_eq_self.2 fun j hj => by
    have := hn.2.2 j hj i (by simp)
    simp [this]
  have hb : l2.filter (fun j => !decide (j = i)) = l2 := List.filter_eq_self.2 fun j hj => by
    have := (List.nodup_cons.1 hn.2.1).1
    have : j ≠ i := fun e => this (e ▸ hj)
    simp [this]
  rw [ha, hb]
  simp

theorem any_sound (hT : TabOk T P) (ro : Option Nat) (hkp : ∀ o ∈ ops, ∀ d, o.dst = some d → Φ.keep d = none) {opsA : Array Oper} (hA : opsA.toList = ops) {cl : List (Nat × Nat)} (hr : regionOkC cl hv ops = true) {Q : Exit → Act → World → Prop} (hQ : ∀ σ' a' w' G', K σ' → Inv T Φ σ' a' w' G' → Q .normal a' w') :
    ∀ (fuel : Nat) (listed : Array Bool) (σ : St) (a : Act) (w : World) (G : Gh), Inv T Φ σ a w G → Good cl σ → listed.size = ops.length →
      (∀ i o, ops[i]? = some o → listed.getD i true = true → ∀ e ∈ o.after, Region.binds .any e = true → listed.getD e.on false = true) →
      (rem ops.length listed).length ≤ fuel → RunI T P hv Φ.n ops (rem ops.length listed) σ K → wpAnyIn (FW ro) 0 P .any opsA Q fuel listed a w := by
  have hsz : opsA.size = ops.length := by rw [← hA]; simp
  have hget : ∀ i, opsA[i]? = ops[i]? := fun i => by rw [← hA, Array.getElem?_toList]
  have hready : ∀ (listed : Array Bool) i, i ∈ Region.ready .any opsA listed ↔ (i ∈ rem ops.length listed ∧ ∃ o, ops[i]? = some o ∧ ∀ e ∈ o.after, Region.binds .any e = true → listed.getD e.on false = true) := by
    intro listed i
    unfold Region.ready
    rw [List.mem_filter, List.mem_range, mem_rem, hsz, hget]
    cases h : ops[i]? with
    | none => simp
    | some o =>
      simp only [Bool.and_eq_true, Bool.not_eq_true', Option.map_some, Option.getD_some, Array.all_eq_true_iff_forall_mem]
      constructor
      · rintro ⟨h1, h2, h3⟩
        refine ⟨⟨h1, h2⟩, o, rfl, fun e he hb => ?_⟩
        have := h3 e he
        simpa [hb] using this
      · rintro ⟨⟨h1, h2⟩, o', ho', h3⟩
        cases ho'
        refine ⟨h1, h2, fun e he => ?_⟩
        cases hb : Region.binds .any e with
        | false => rfl
        | true => simp [h3 e he hb]
  have hne : ∀ (listed : Array Bool), listed.size = ops.length → Region.ready .any opsA listed = [] → rem ops.length listed = [] := by
    intro listed hls hnil
    cases hrem : rem ops.length listed with
    | nil => rfl
    | cons i r =>
      exfalso
      have hi : i ∈ rem ops.length listed := by rw [hrem]; simp
      obtain ⟨h1, h2⟩ := mem_rem.1 hi
      have hpw : (rem ops.length listed).Pairwise (· < ·) := List.Pairwise.filter _ List.pairwise_lt_range
      rw [hrem] at hpw
      have hmem : i ∈ Region.ready .any opsA listed := by
        rw [hready]
        refine ⟨hi, ops[i], by simp [h1], fun e he hb => ?_⟩
        have hlt := ((regionOk_spec hr).2 i ops[i] (by simp [h1])).1 e he hb
        cases hl : listed.getD e.on false with
        | true => rfl
        | false =>
          exfalso
          have hm : e.on ∈ rem ops.length listed := mem_rem.2 ⟨by omega, by
            have hlt' : e.on < listed.size := by omega
            simp [hlt'] at hl ⊢
            exact hl⟩
          rw [hrem] at hm
          rcases List.mem_cons.1 hm with h | h
          · omega
          · have := (List.pairwise_cons.1 hpw).1 _ h; omega
      rw [hnil] at hmem
      cases hmem
  intro fuel
  induction fuel with
  | zero =>
    intro listed σ a w G inv _ hls hcl hlen h
    have h0 : rem ops.length listed = [] := List.length_eq_zero_iff.1 (by omega)
    rw [h0] at h
    refine ⟨?_, hQ σ a w G h inv⟩
    rw [List.eq_nil_iff_forall_not_mem]
    intro i hi
    have := ((hready listed i).1 hi).1
    rw [h0] at this
    cases this
  | succ fuel ih =>
    intro listed σ a w G inv hgd hls hcl hlen h
    refine ⟨fun hnil => ?_, fun i hi => ?_⟩
    · rw [hne listed hls hnil] at h
      exact hQ σ a w G h inv
    · obtain ⟨him, o, ho, hpre⟩ := (hready listed i).1 hi
      obtain ⟨hil, hiu⟩ := mem_rem.1 him
      obtain ⟨l1, l2, hsp⟩ := List.append_of_mem him
      have hpw : (rem ops.length listed).Pairwise (· < ·) := List.Pairwise.filter _ List.pairwise_lt_range
      rw [hsp] at hpw
      have hcomp : ∀ j ∈ l1, Compat cl hv ops j i := by
        intro j hj p o' hp ho'
        rw [ho] at ho'; cases ho'
        have hji : j < i := (List.pairwise_append.1 hpw).2.2 j hj i (by simp)
        rcases ((regionOk_spec hr).2 i o ho).2 j p hji hp with hb | hb
        · exfalso
          have hjm : j ∈ rem ops.length listed := by rw [hsp]; simp [hj]
          have hju := (mem_rem.1 hjm).2
          have := mask_listed (ops := ops) (L := fun k => listed.getD k false = true) (R := fun k => listed.getD k false = true ∨ k = i) (by
            rintro k o' hk (hR | rfl) e he hbi
            · refine hcl k o' hk ?_ e he hbi
              have : k < listed.size := by
                rcases Nat.lt_or_ge k listed.size with h | h
                · exact h
                · simp [Array.getD, Nat.not_lt.2 h] at hR
              simp [this] at hR ⊢
              exact hR
            · rw [ho] at hk; cases hk
              exact hpre e he hbi) (fun k hk => .inl hk) ops [] [] rfl rfl (by simp) i j (.inr rfl) hb
          have hjl : j < listed.size := by have := (mem_rem.1 hjm).1; omega
          simp [hjl] at this hju
          rw [this] at hju; cases hju
        · exact hb
      rw [hsp] at h
      obtain ⟨o', v, ms, ho', he, hrest⟩ := front hT hkp (regionOk_spec hr).1 l1 σ ⟨a, w, G, inv⟩ hgd hcomp h
      rw [ho] at ho'; cases ho'
      have hst := eff_step (K := fun σ' => RunI T P hv Φ.n ops (l1 ++ l2) σ' K ∧ Good cl σ') he ⟨hrest, good_put hgd ((regionOk_spec hr).1 o (List.mem_of_getElem? ho)) he⟩
      have hwp := step_wp hT inv hA (hkp o (List.mem_of_getElem? ho)) hst (Q := Q) ro
      have hrs := rem_set (n := ops.length) (by omega : i < listed.size) hsp
      have next : ∀ a' w' σ' G', (RunI T P hv Φ.n ops (l1 ++ l2) σ' K ∧ Good cl σ') → Inv T Φ σ' a' w' G' → wpAnyIn (FW ro) 0 P .any opsA Q fuel (listed.setIfInBounds i true) a' w' := by
        intro a' w' σ' G' hk inv'
        refine ih _ σ' a' w' G' inv' hk.2 (by simp [hls]) ?_ ?_ ?_
        · intro k ok hk' hl e he' hb
          rw [getD_set (by omega)] at hl ⊢
          split
          · rfl
          · split at hl
            · rename_i hki
              subst hki
              rw [ho] at hk'; cases hk'
              exact hpre e he' hb
            · exact hcl k ok hk' hl e he' hb
        · rw [hrs]
          rw [hsp] at hlen
          simp at hlen ⊢
          omega
        · rw [hrs]; exact hk.1
      unfold wpOpIn
      rw [hget, ho]
      simp only
      split
      · rename_i hw
        rw [if_pos hw] at hwp
        exact Oper.wpIn_mono (fun a' w' ⟨σ', G', hk, inv'⟩ => next a' w' σ' G' hk inv') hwp
      · rename_i hw
        rw [if_neg hw] at hwp
        obtain ⟨G', σ', hk, inv'⟩ := hwp
        exact ⟨fun _ _ => trivial, next _ _ σ' G' hk inv'⟩

theorem draw_sound (hT : TabOk T P) (ro : Option Nat) (hm : P.follows .mixedOrders = true) {ops : List Oper} {K : St → Prop} {opsA : Array Oper} (hA : opsA.toList = ops) (hkp : ∀ o ∈ ops, ∀ d, o.dst = some d → Φ.keep d = none) {cl : List (Nat × Nat)} (hr : regionOkC cl hv ops = true) (hgd : Good cl σ) {Q : Exit → Act → World → Prop} (hQ : ∀ σ' a' w' G', K σ' → Inv T Φ σ' a' w' G' → Q .normal a' w') (id : Nat)
    (inv : Inv T Φ σ a w G) (h : Run T P (.drawn hv) Φ.n ops ops σ K) : (Code.region id opsA true).wpIn (FW ro) 0 P Q a w := by
  have hsz : opsA.size = ops.length := by rw [← hA]; simp
  refine wpIn_region_any hm (any_sound hT ro hkp hA hr hQ _ _ σ a _ G (inv.drew _) hgd (by simp [hsz]) ?_ ?_ ?_)
  · intro i o hi hl
    have : i < ops.length := (List.getElem?_eq_some_iff.1 hi).1
    simp [hsz, this] at hl
  · refine Nat.le_trans (List.length_filter_le _ _) ?_
    simp [hsz]
  · have : rem ops.length (Array.replicate opsA.size false) = List.range' 0 ops.length := by
      unfold rem
      rw [List.range_eq_range']
      refine List.filter_eq_self.2 fun i hi => ?_
      have : i < ops.length := by simpa using hi
      simp [hsz, this]
    rw [this]
    exact run_runI K ops 0 σ (fun j => by simp) h
end
end Go.Ab
