/-
  Code and functions.
  From one state to a weaker one: what a loop or a cut keeps.
  How a condition of the executor is met: one lemma for each head at which 'whnf' comes to rest.
-/
import Derived.Test.YtckcanemolkncaaDoorG6
import Derived.Deep.LoopGhost
import Derived.KernelRfl
set_option linter.unusedVariables false
set_option linter.unusedSimpArgs false
namespace Go.Ab
section
variable {T : Tab} {P : Program} {Φ : Fr} {σ : St} {a : Act} {w w' : World} {G G' : Gh} {K : VK} {o : Oper} {d : Nat}

theorem opsVC_run {light : Bool} {n : Nat} {ops : List Oper} {K : St → Prop} : ∀ (l : List Oper) (σ : St), opsVC T P light n ops l σ.env σ.bx σ.ar K → Run T P light n ops l σ K := by
  intro l
  induction l with
  | nil => intro σ h; exact h
  | cons o r ih =>
    intro σ h
    have h' : opStep T P light n ops o (opsVC T P light n ops r) σ.env σ.bx σ.ar K := h
    exact (opStep_step h').mono (fun _ _ hk => oper_mono hk) (fun σ' hk => ih σ' hk)

theorem Le.out {σ σ' : St} (h : Le T σ σ') (inv : Inv T Φ σ a w G) : ∃ G', Inv T Φ σ' a w G' := by unfold Le at h; exact h Φ a w G inv

/-- what the executor's end says of the model's -/
def Lift (T : Tab) (Φ : Fr) (Q : Exit → St → Prop) (e : Exit) (a : Act) (w : World) : Prop := ∃ σ G, Q e σ ∧ Inv T Φ σ a w G

theorem code_sound (hT : TabOk T P) (hm : P.follows .mixedOrders = true) (c : Code) : ∀ (σ : St) (a : Act) (w : World) (G : Gh) (Q : Exit → St → Prop), Inv T Φ σ a w G → codeVC T P Φ.n c σ Q → c.wp P (Lift T Φ Q) a w := by
  induction c with
  | skip => intro σ a w G Q inv h; exact wp_skip ⟨σ, G, h, inv⟩
  | region id ops draw =>
    intro σ a w G Q inv h
    obtain ⟨env, bx, ar⟩ := σ
    cases draw with
    | false =>
      have h' : opsVC T P false Φ.n ops.toList ops.toList env bx ar (Q .normal) := h
      have hr := opsVC_run ops.toList ⟨env, bx, ar⟩ h'
      exact wp_region_list (run_list hT rfl (fun σ' a' w' G' hk inv' => ⟨σ', G', hk, inv'⟩) ops.toList _ a w G inv hr)
    | true =>
      have h' : drawVC env ops.toList (opsVC T P true Φ.n ops.toList ops.toList env bx ar (Q .normal)) := h
      replace h' := h'.out
      obtain ⟨cl, h0, h1, h2⟩ := h'
      have hr := opsVC_run ops.toList ⟨env, bx, ar⟩ h2
      exact draw_sound hT hm rfl h1 (good_of inv.wfE h0) (fun σ' a' w' G' hk inv' => ⟨σ', G', hk, inv'⟩) id inv hr
  | seq x y ihx ihy =>
    intro σ a w G Q inv h
    have h' : SeqVC T (codeVC T P Φ.n x) (codeVC T P Φ.n y) σ Q := h
    replace h' := h'.out
    refine wp_seq ?_
    rcases h' with h1 | ⟨C, h1, h2⟩
    · refine wp_mono (ihx σ a w G _ inv h1) ?_
      rintro e a' w' ⟨σ', G', hq, inv'⟩
      cases e with
      | normal => exact ihy σ' a' w' G' Q inv' hq
      | _ => exact ⟨σ', G', hq, inv'⟩
    · refine wp_mono (ihx σ a w G _ inv h1) ?_
      rintro e a' w' ⟨σ', G', hq, inv'⟩
      cases e with
      | normal =>
        obtain ⟨p, hle, hinv⟩ := hq
        obtain ⟨G2, inv2⟩ := hle.out inv'
        exact ihy _ a' w' G2 Q inv2 (h2 p hinv)
      | _ => exact ⟨σ', G', hq, inv'⟩
  | cond c x y ihx ihy =>
    intro σ a w G Q inv h
    have h' : (match σ.ev c with
      | .lit (.bool b) => branch b (codeVC T P Φ.n x σ Q) (codeVC T P Φ.n y σ Q)
      | _ => False) := h
    have he := (inv.ev c).1
    split at h'
    · rename_i b hb
      rw [hb] at he
      cases b with
      | true => exact wp_cond_true he.lit_eq (ihx σ a w G Q inv h')
      | false => exact wp_cond_false he.lit_eq (ihy σ a w G Q inv h')
    · exact h'.elim
  | block id c ih =>
    intro σ a w G Q inv h
    refine wp_block (wp_mono (ih σ a w G _ inv h) ?_)
    rintro e a' w' ⟨σ', G', hq, inv'⟩
    cases e with
    | exit i =>
      have hq' : cond (Nat.beq i id) (Q .normal σ') (Q (.exit i) σ') := hq
      show Exit.inBlock id (Lift T Φ Q) (.exit i) a' w'
      by_cases hi : i = id
      · subst hi
        have hb : Nat.beq i i = true := Nat.beq_refl i
        rw [hb] at hq'
        simp only [Exit.inBlock, if_true]
        exact ⟨σ', G', hq', inv'⟩
      · have hb : Nat.beq i id = false := by rw [← Bool.not_eq_true, Nat.beq_eq]; exact hi
        rw [hb] at hq'
        simp only [Exit.inBlock, if_neg hi]
        exact ⟨σ', G', hq', inv'⟩
    | _ => exact ⟨σ', G', hq, inv'⟩
  | loop c ih =>
    intro σ a w G Q inv h
    have h' : LoopVC T (codeVC T P Φ.n c) σ Q := h
    replace h' := h'.out
    obtain ⟨L, ⟨p0, hle0, hi0⟩, hround⟩ := h'
    obtain ⟨G0, inv0⟩ := hle0.out inv
    refine wp_loop_ghost (fun n a w => ∃ p G, L.m p = n ∧ L.inv p ∧ Inv T Φ (L.st p) a w G) (L.m p0) ⟨p0, G0, rfl, hi0, inv0⟩ ?_
    rintro n a' w' ⟨p, G1, rfl, hi, inv1⟩
    refine wp_mono (ih _ a' w' G1 _ inv1 (hround p hi)) ?_
    rintro e a2 w2 ⟨σ', G', hq, inv'⟩
    cases e with
    | normal =>
      obtain ⟨p', hle, hi', hm'⟩ := hq
      obtain ⟨G2, inv2⟩ := hle.out inv'
      exact ⟨L.m p', hm', p', G2, rfl, hi', inv2⟩
    | _ => exact ⟨σ', G', hq, inv'⟩
  | rangeFunc f ps x y ihx ihy => intro σ a w G Q inv h; exact (h : False).elim
  | exit id => intro σ a w G Q inv h; exact wp_exit ⟨σ, G, h, inv⟩
  | scope c ih => intro σ a w G Q inv h; exact (h : False).elim
  | label l => intro σ a w G Q inv h; exact (h : False).elim
  | goto l => intro σ a w G Q inv h; exact (h : False).elim
  | ret => intro σ a w G Q inv h; exact wp_ret ⟨σ, G, h, inv⟩
  | refuse s => intro σ a w G Q inv h; exact (h : False).elim

/-- what is handed over at the end, as whoever called takes it -/
theorem handover (inv : Inv T Φ σ a w G) {xs ys : List V} (hgive : giveL T σ.ar ys xs) (hko : keysOk xs ys = true) (vs : List Value) (hvs : ∀ (i : Nat) v x, vs[i]? = some v → xs[i]? = some x → Rv w G v x ∧ x.ok σ.hasB σ.hasA) :
    ∃ Gc : Gh, (∀ (j : Nat) v y, vs[j]? = some v → ys[j]? = some y → Rb T w Gc j v y) ∧ (∀ b, G.O b = .fz → Gc.O b = .fz) ∧ (∀ b i, Gc.O b ≠ .bx i) ∧ (∀ b, Gc.O b ≠ .ext → (G.O b = .fz ∧ Gc.O b = .fz) ∨ ∃ k, G.O b = .ar k) := by
  obtain ⟨hlen, hg⟩ := giveL_spec hgive
  simp only [keysOk, Bool.and_eq_true] at hko
  have hnd := nodupR_iff.1 hko.1
  have hdisj : ∀ k ∈ ownKeys ys xs, k ∉ viewKeys ys xs := fun k hk hm => by
    have := allR_iff.1 hko.2 k hk
    rw [memR_iff.2 hm] at this; simp at this
  generalize hok : ownKeys ys xs = ok at *
  generalize hvk : viewKeys ys xs = vk at *
  let pos : Nat → Nat := fun k => @dite _ (∃ j, PosOf xs ys j k) (Classical.propDecidable _) (fun h => h.choose) (fun _ => 0)
  have hpos : ∀ {j k}, PosOf xs ys j k → pos k = j := by
    intro j k hp
    have hex : ∃ j, PosOf xs ys j k := ⟨j, hp⟩
    have : pos k = hex.choose := by simp only [pos]; rw [dif_pos hex]
    rw [this]
    exact pos_unique (by rw [hok]; exact hnd) hex.choose_spec hp
  let Gc : Gh := { G with O := fun b => match G.O b with | .fz => .fz | .ar k => if k ∈ vk then .fz else if k ∈ ok then .ar (pos k) else .ext | _ => .ext }
  have c_fz : ∀ b, G.O b = .fz → Gc.O b = .fz := fun b hb => by simp only [Gc]; rw [hb]
  have c_bx : ∀ b i, G.O b = .bx i → Gc.O b = .ext := fun b i hb => by simp only [Gc]; rw [hb]
  have c_ext : ∀ b, G.O b = .ext → Gc.O b = .ext := fun b hb => by simp only [Gc]; rw [hb]
  have c_vk : ∀ b k, G.O b = .ar k → k ∈ vk → Gc.O b = .fz := fun b k hb hk => by simp only [Gc]; rw [hb]; simp [hk]
  have c_ok : ∀ b k, G.O b = .ar k → k ∈ ok → Gc.O b = .ar (pos k) := fun b k hb hk => by
    simp only [Gc]; rw [hb]
    have : k ∉ vk := hdisj k hk
    simp [hk, this]
  have hkc : Keep w w G Gc := ⟨c_fz, fun _ _ => rfl⟩
  refine ⟨Gc, ?_, c_fz, ?_, ?_⟩
  · intro j v y hv hy
    have hj : j < xs.length := by rw [hlen]; exact (List.getElem?_eq_some_iff.1 hy).1
    have hx : xs[j]? = some xs[j] := List.getElem?_eq_getElem hj
    obtain ⟨e1, e2⟩ := hvs j v _ hv hx
    refine give_sound inv hkc (hg j _ y hx hy) e1 e2 (fun hl k hk b hb => ?_) (fun hl k hk b hb => ?_)
    · exact c_vk b k hb (by rw [← hvk]; exact viewKeys_spec.2 ⟨j, _, y, hx, hy, hl, hk⟩)
    · have hkok : k ∈ ok := by rw [← hok]; exact ownKeys_spec.2 ⟨j, _, y, hx, hy, hl, hk⟩
      rw [c_ok b k hb hkok, hpos ⟨_, y, hx, hy, hl, hk⟩]
  · intro b i hb
    cases hO : G.O b with
    | ext => rw [c_ext b hO] at hb; cases hb
    | fz => rw [c_fz b hO] at hb; cases hb
    | bx j => rw [c_bx b j hO] at hb; cases hb
    | ar k =>
      by_cases h1 : k ∈ vk
      · rw [c_vk b k hO h1] at hb; cases hb
      · by_cases h2 : k ∈ ok
        · rw [c_ok b k hO h2] at hb; cases hb
        · have : Gc.O b = .ext := by simp only [Gc]; rw [hO]; simp [h1, h2]
          rw [this] at hb; cases hb
  · intro b hb
    cases hO : G.O b with
    | ext => exact absurd (c_ext b hO) hb
    | fz => exact .inl ⟨rfl, c_fz b hO⟩
    | bx j => exact absurd (c_bx b j hO) hb
    | ar k => exact .inr ⟨k, rfl⟩

/-- the results, as the model reads them -/
def oneRes (a : Act) : ResultVar → Sem Value
  | .tmp t => pure (a.tmps.getD t undef)
  | .cell b t => do loadVar t (← asAddr (a.tmps.getD b undef))

theorem res_sound (hT : TabOk T P) (inv : Inv T Φ σ a w G) : ∀ (rs : List ResultVar) (K : List V → Prop), resVC T σ rs K →
    ∃ (xs : List V) (vs : List Value), K xs ∧ vs.length = xs.length ∧ vs.length = rs.length ∧ (∀ (i : Nat) v x, vs[i]? = some v → xs[i]? = some x → Rv w G v x ∧ x.ok σ.hasB σ.hasA) ∧
      (rs.mapM (oneRes a)).run P w = .ok vs w := by
  intro rs
  induction rs with
  | nil => intro K h; exact ⟨[], [], h, rfl, rfl, fun i v x hv => by simp at hv, by simp⟩
  | cons x r ih =>
    intro K h
    have fin : ∀ (v : V) (u : Value), Rv w G u v → v.ok σ.hasB σ.hasA → (oneRes a x).run P w = .ok u w → (resVC T σ r fun vs => K (v :: vs)) →
        ∃ (xs : List V) (vs : List Value), K xs ∧ vs.length = xs.length ∧ vs.length = (x :: r).length ∧ (∀ (i : Nat) v x, vs[i]? = some v → xs[i]? = some x → Rv w G v x ∧ x.ok σ.hasB σ.hasA) ∧
          ((x :: r).mapM (oneRes a)).run P w = .ok vs w := by
      intro v u hv ho hrun hrest
      obtain ⟨xs, vs, h1, h2, h3, h4, h5⟩ := ih _ hrest
      refine ⟨v :: xs, u :: vs, h1, by simp [h2], by simp [h3], ?_, ?_⟩
      · intro i u' v' hu hv'
        cases i with
        | zero => simp at hu hv'; subst hu; subst hv'; exact ⟨hv, ho⟩
        | succ i => exact h4 i u' v' (by simpa using hu) (by simpa using hv')
      · simp only [List.mapM_cons, Sem.run_bind, hrun, Result.andThen_ok, h5, Sem.run_pure]
    cases x with
    | tmp t =>
      have h' : force (σ.env t) (fun v => resVC T σ r fun vs => K (v :: vs)) := h
      rw [force_eq] at h'
      exact fin _ _ (inv.env t) (inv.wfE t) (by simp [oneRes]) h'
    | cell b t =>
      have h' : cond (Nat.blt t (T.n t)) (loadVC (T.row t) σ (σ.env b) fun v _ => resVC T σ r fun vs => K (v :: vs)) False := h
      obtain ⟨ht, h2⟩ := cond_F h'
      obtain ⟨ad, v', v, he, hrun, hk, hv, hvo⟩ := load_run hT inv t (.tmp b) (blt ht) h2
      have he' : a.tmps.getD b undef = .pointer (some ad) := he
      exact fin v v' hv hvo (by simp only [oneRes, he', asAddr, Sem.run_bind, Sem.run_pure, Result.andThen_ok, hrun]) hk

def tupOf (vs : List Value) : Value := match vs with | [v] => v | vs => .tuple vs.toArray

theorem results_run {fn : Func} {vs : List Value} (h : (fn.results.toList.mapM (oneRes a)).run P w = .ok vs w) :
    (results fn a.tmps).run P w = .ok (tupOf vs) w := by
  have h2 : (fn.results.mapM (oneRes a)).run P w = .ok vs.toArray w := by
    rw [Array.mapM_eq_mapM_toList]
    simp only [Sem.run_map, h, Result.andThen_ok]
  have h3 : (results fn a.tmps) = (do let vs ← fn.results.mapM (oneRes a); pure (if h : vs.size = 1 then vs[0] else .tuple vs)) := by
    unfold results
    congr 1
  rw [h3]
  simp only [Sem.run_bind, h2, Result.andThen_ok, Sem.run_pure]
  congr 1
  match vs with
  | [] => rfl
  | [v] => rfl
  | v :: u :: r => simp; rfl

theorem initEnv_get : ∀ (ys : List V) (j s : Nat), initEnv ys j s = if j ≤ s then (match ys[s - j]? with | some y => cond (linear y) (.arr s 0) y | none => .tup []) else .tup [] := by
  intro ys
  induction ys with
  | nil => intro j s; show V.tup [] = _; split <;> simp
  | cons y r ih =>
    intro j s
    show cond (Nat.beq s j) (cond (linear y) (.arr j 0) y) (initEnv r (j + 1) s) = _
    by_cases e : s = j
    · subst e
      rw [show Nat.beq s s = true from Nat.beq_refl s]
      simp
    · have hb : Nat.beq s j = false := by rw [← Bool.not_eq_true, Nat.beq_eq]; exact e
      rw [hb, cond_false, ih]
      by_cases h1 : j + 1 ≤ s
      · rw [if_pos h1, if_pos (by omega)]
        rw [show s - j = (s - (j + 1)) + 1 by omega, List.getElem?_cons_succ]
      · rw [if_neg h1, if_neg (by omega)]

theorem initAr_get : ∀ (ys : List V) (j s : Nat), initAr ys j s = if j ≤ s then (match ys[s - j]? with | some (.own e l) => some ⟨0, .own, e, l⟩ | some (.ap e l) => some ⟨0, .ap, e, l⟩ | _ => none) else none := by
  intro ys
  induction ys with
  | nil => intro j s; show none = _; split <;> simp
  | cons y r ih =>
    intro j s
    show cond (Nat.beq s j) (match y with | .own e l => some (⟨0, .own, e, l⟩ : AE) | .ap e l => some ⟨0, .ap, e, l⟩ | _ => none) (initAr r (j + 1) s) = _
    by_cases e : s = j
    · subst e
      rw [show Nat.beq s s = true from Nat.beq_refl s]
      simp only [cond_true, Nat.le_refl, if_true, Nat.sub_self, List.getElem?_cons_zero]
      cases y <;> rfl
    · have hb : Nat.beq s j = false := by rw [← Bool.not_eq_true, Nat.beq_eq]; exact e
      rw [hb, cond_false, ih]
      by_cases h1 : j + 1 ≤ s
      · rw [if_pos h1, if_pos (by omega)]
        rw [show s - j = (s - (j + 1)) + 1 by omega, List.getElem?_cons_succ]
      · rw [if_neg h1, if_neg (by omega)]

/-- A FUNCTION meets its contract -/
theorem fn_sound (hT : TabOk T P) (hm : P.follows .mixedOrders = true) {f : FuncId} {fn : Func} (hf : P.funcs[f]? = some fn) (hc : callable P f = true) {ys : List V} {r : V} (hn : ys.length ≤ fn.ntmps) (h : fnVC T P fn ys r) : Spec T P f ys r := by
  refine ⟨hc, ?_⟩
  intro w G cs hcs htag hbx hargs hlay
  unfold fnVC at h
  split at h
  · rename_i c hb
    let Φ : Fr := ⟨w, fun b => ∃ j, G.O b = .ar j, fun b => G.O b = .fz, fn.ntmps, fun _ => none⟩
    let G0 : Gh := { G with av := fun k _ => cs.getD k undef }
    have hkeep : Keep w w G G0 := ⟨fun _ h => h, fun _ _ => rfl⟩
    have hrb : ∀ (j : Nat) y, ys[j]? = some y → Rb T w G j (cs.getD j undef) y := by
      intro j y hy
      have hj : j < cs.size := by rw [hcs]; exact (List.getElem?_eq_some_iff.1 hy).1
      exact hargs j _ y (by simp [hj]) hy
    have own1 : ∀ {j u e l}, OwnOk T w G j u e l → u.oneCell' = true := by
      intro j u e l h
      rcases h with ⟨h, _⟩ | ⟨b, cap, cur, h, _⟩ <;> (rw [h]; rfl)
    have cap1 : ∀ {u l}, Rv w G u (.cap l) → u.oneCell' = true := by
      intro u l h
      rcases h.cap_inv with ⟨h, _⟩ | ⟨ad, sz, cc, h, _⟩ <;> (rw [h]; rfl)
    have inv : Inv T Φ (initSt ys) { tmps := cs ++ Array.replicate (fn.ntmps - cs.size) undef, defers := [] } w G0 := by
      constructor
      · rfl
      · show (cs ++ Array.replicate (fn.ntmps - cs.size) undef).size = fn.ntmps
        simp; omega
      · intro s
        show Rv w G0 ((cs ++ Array.replicate (fn.ntmps - cs.size) undef).getD s undef) (initEnv ys 0 s)
        rw [initEnv_get]
        simp only [Nat.zero_le, if_true, Nat.sub_zero]
        by_cases hs : s < cs.size
        · have hv : (cs ++ Array.replicate (fn.ntmps - cs.size) undef).getD s undef = cs.getD s undef := by
            simp [Array.getElem?_append_left hs]
          have hy : ys[s]? = some ys[s] := List.getElem?_eq_getElem (by omega)
          rw [hv, hy]
          have hr := hrb s _ hy
          generalize ys[s] = y at *
          simp only
          cases hl : linear y with
          | false =>
            have : y.pure ∧ Rv w G (cs.getD s undef) y := by
              unfold Rb at hr
              split at hr
              · simp [linear] at hl
              · simp [linear] at hl
              · exact hr
            exact this.2.pure_keep hkeep this.1
          | true =>
            have h1 : (cs.getD s undef).oneCell' = true := by
              unfold Rb at hr
              split at hr
              · exact own1 hr.2.2
              · rcases hr.2.2 with q | q
                · exact own1 q
                · exact cap1 q.1
              · rename_i hno1 hno2
                rw [linear_false hno1 hno2] at hl; cases hl
            exact Rv.arr (w := w) (G := G0) s 0 h1
        · have hy : ys[s]? = none := List.getElem?_eq_none (by omega)
          rw [hy]
          have hv : (cs ++ Array.replicate (fn.ntmps - cs.size) undef).getD s undef = undef := by
            rw [Array.getD_eq_getD_getElem?, Array.getElem?_append_right (by omega)]
            by_cases h2 : s - cs.size < fn.ntmps - cs.size
            · simp [h2]
            · rw [Array.getElem?_eq_none (by simp; omega)]; rfl
          rw [hv]
          exact undef_rv w G0
      · intro s
        show (initEnv ys 0 s).ok _ _
        rw [initEnv_get]
        simp only [Nat.zero_le, if_true, Nat.sub_zero]
        cases hy : ys[s]? with
        | none => simp only [V.ok, V.okL]
        | some y =>
          simp only
          have hr := hrb s y hy
          cases hl : linear y with
          | false =>
            have : y.pure := by
              unfold Rb at hr
              split at hr
              · simp [linear] at hl
              · simp [linear] at hl
              · exact hr.1
            exact V.pure.ok this _ _
          | true =>
            simp only [cond_true, V.ok]
            have : ∃ en, initAr ys 0 s = some en ∧ 0 ≤ en.gen := by
              rw [initAr_get]
              simp only [Nat.zero_le, if_true, Nat.sub_zero, hy]
              cases y <;> simp_all [linear]
            exact this
      · intro i cs' hi
        have : (none : Option (List V)) = some cs' := hi
        cases this
      · intro i cs' hi
        have : (none : Option (List V)) = some cs' := hi
        cases this
      · intro k en hen
        have hen' : initAr ys 0 k = some en := hen
        rw [initAr_get] at hen'
        simp only [Nat.zero_le, if_true, Nat.sub_zero] at hen'
        split at hen'
        · rename_i e l hy
          cases hen'
          have hr := hrb k _ hy
          obtain ⟨q1, q2, q3⟩ := hr
          exact ⟨q1, q3.keep hkeep q2 (fun b hb => ⟨hb, rfl⟩)⟩
        · rename_i e l hy
          cases hen'
          have hr := hrb k _ hy
          obtain ⟨q1, q2, q3⟩ := hr
          refine ⟨q1, ?_⟩
          rcases q3 with q | q
          · exact .inl (q.keep hkeep q2 (fun b hb => ⟨hb, rfl⟩))
          · exact .inr ⟨q.1.pure_keep hkeep (by simp only [V.pure, V.ok]; exact q2), q.2⟩
        · cases hen'
      · intro k en hen
        have hen' : initAr ys 0 k = some en := hen
        rw [initAr_get] at hen'
        simp only [Nat.zero_le, if_true, Nat.sub_zero] at hen'
        split at hen'
        · rename_i e l hy
          cases hen'
          exact (hrb k _ hy).2.1
        · rename_i e l hy
          cases hen'
          exact (hrb k _ hy).2.1
        · cases hen'
      · exact htag
      · intro b i hb; exact absurd hb (hbx b i)
      · intro b k hb; exact .inr ⟨k, hb⟩
      · intro b hb; exact .inl hb
      · intro b hb; exact hb
      · intro b _ _; rfl
      · exact Nat.le_refl _
      · rfl
      · rfl
      · rfl
      · intro j v h; cases h
      · exact ⟨hlay, fun b hb => ⟨htag b (by rw [show G.O b = .fz from hb]; simp), fun ⟨j, hj⟩ => by rw [show G.O b = .fz from hb] at hj; cases hj⟩⟩
    refine calls_of_wp hf hb ?_
    refine wp_mono (code_sound (Φ := Φ) hT hm c _ _ w G0 _ inv h) ?_
    have fin : ∀ (e : Exit) (σ : St) (a' : Act) (w' : World) (G' : Gh), retVC T σ fn.results.toList r → Inv T Φ σ a' w' G' → a'.defers = [] ∧ ∃ v, (results fn a'.tmps).run P w' = .ok v w' ∧ ∃ v0 Gr, (Ending.returned v = .returned v0) ∧ Rr T w' Gr v0 r ∧
        (∀ b, G.O b = .fz → Gr.O b = .fz) ∧ (∀ b, Gr.O b ≠ .ext → b < w'.heap.size) ∧ (∀ b i, Gr.O b ≠ .bx i) ∧
        (∀ b, Gr.O b ≠ .ext → (G.O b = .fz ∧ Gr.O b = .fz) ∨ w.heap.size ≤ b ∨ ∃ j, G.O b = .ar j) ∧
        (∀ b, b < w.heap.size → (∀ j, G.O b ≠ .ar j) → w'.heap[b]? = w.heap[b]?) ∧
        w.heap.size ≤ w'.heap.size ∧ w'.os = w.os ∧ w'.tape = w.tape ∧ w'.output = w.output := by
      intro e σ a' w' G' hret inv'
      refine ⟨inv'.nd, ?_⟩
      replace hret := hret.out
      obtain ⟨xs, vs, hk, hl1, hl2, hvs, hrun⟩ := res_sound hT inv' _ _ hret
      have hres := results_run hrun
      refine ⟨tupOf vs, hres, tupOf vs, ?_⟩
      have common : ∀ (ys' : List V), giveL T σ.ar ys' xs → keysOk xs ys' = true → ∃ Gr : Gh, (∀ (j : Nat) v y, vs[j]? = some v → ys'[j]? = some y → Rb T w' Gr j v y) ∧
          (∀ b, G.O b = .fz → Gr.O b = .fz) ∧ (∀ b, Gr.O b ≠ .ext → b < w'.heap.size) ∧ (∀ b i, Gr.O b ≠ .bx i) ∧
          (∀ b, Gr.O b ≠ .ext → (G.O b = .fz ∧ Gr.O b = .fz) ∨ w.heap.size ≤ b ∨ ∃ j, G.O b = .ar j) := by
        intro ys' h1 h2
        obtain ⟨Gc, q1, q2, q3, q4⟩ := handover inv' h1 h2 vs hvs
        refine ⟨Gc, q1, fun b hb => q2 b (inv'.F0 b hb), fun b hb => inv'.tag b ?_, q3, fun b hb => ?_⟩
        · rcases q4 b hb with ⟨h, _⟩ | ⟨k, h⟩ <;> (rw [h]; simp)
        · rcases q4 b hb with ⟨h, h'⟩ | ⟨k, h⟩
          · rcases inv'.fzm b h with h2 | h2
            · exact .inl ⟨h2, h'⟩
            · exact .inr h2
          · exact .inr (inv'.mineA b k h)
      have frame : (∀ b, b < w.heap.size → (∀ j, G.O b ≠ .ar j) → w'.heap[b]? = w.heap[b]?) ∧ w.heap.size ≤ w'.heap.size ∧ w'.os = w.os ∧ w'.tape = w.tape ∧ w'.output = w.output :=
        ⟨fun b hb hj => inv'.frame b hb (fun ⟨j, h⟩ => hj j h), inv'.size, inv'.os, inv'.tape, inv'.output⟩
      split at hk
      · rename_i x
        obtain ⟨g1, g2, g3⟩ := hk
        obtain ⟨Gr, q1, q2, q3, q4, q5⟩ := common [r] g1 g2
        match vs, hl1 with
        | [v], _ =>
          refine ⟨Gr, rfl, ?_, q2, q3, q4, q5, frame⟩
          have := q1 0 v r rfl rfl
          unfold Rr
          split
          · exact absurd rfl (g3 _)
          · exact this
      · rename_i hne
        obtain ⟨ys', rfl, g1, g2⟩ := hk
        obtain ⟨Gr, q1, q2, q3, q4, q5⟩ := common ys' g1 g2
        have hlen := (giveL_spec g1).1
        refine ⟨Gr, rfl, ?_, q2, q3, q4, q5, frame⟩
        show ∃ us : Array Value, tupOf vs = .tuple us ∧ us.size = ys'.length ∧ ∀ (j : Nat) u y, us[j]? = some u → ys'[j]? = some y → Rb T w' Gr j u y
        refine ⟨vs.toArray, ?_, by simp [hl1, hlen], fun j u y hu hy => q1 j u y (by simpa using hu) hy⟩
        match vs, xs, hl1 with
        | [], _, _ => rfl
        | [v], [x], _ => exact absurd rfl (hne x)
        | v :: u :: rr, _, _ => rfl
    rintro e a' w' ⟨σ, G', hq, inv'⟩
    cases e with
    | normal => exact fin .normal σ a' w' G' hq inv'
    | ret => exact fin .ret σ a' w' G' hq inv'
    | exit id => exact (hq : False).elim
    | goto l => exact (hq : False).elim
    | panic c => exact (hq : False).elim
    | outgrown => exact (hq : False).elim
  · exact h.elim


/-- A FUNCTION that changes a slice in place meets its contract -/
theorem fn_io_sound (hT : TabOk T P) (hm : P.follows .mixedOrders = true) {f : FuncId} {fn : Func} (hf : P.funcs[f]? = some fn) (hc : callable P f = true) {ys : List V} {r : V} (hn : ys.length ≤ fn.ntmps) {jo : Nat} {eo : TypeId} {lo li : List V} (hjo : jo < 8) (hyo : ys[jo]? = some (.own eo li)) (h : fnIO T P fn ys r jo eo lo) : SpecIO T P f ys r jo eo lo := by
  refine ⟨hc, ?_⟩
  intro w G cs hcs htag hbx hargs hlay
  unfold fnIO at h
  split at h
  · rename_i c hb
    let Φ : Fr := ⟨w, fun b => ∃ j, G.O b = .ar j, fun b => G.O b = .fz, fn.ntmps, fun j => if j = jo then some (cs.getD jo undef) else none⟩
    let G0 : Gh := { G with av := fun k _ => cs.getD k undef }
    have hkeep : Keep w w G G0 := ⟨fun _ h => h, fun _ _ => rfl⟩
    have hrb : ∀ (j : Nat) y, ys[j]? = some y → Rb T w G j (cs.getD j undef) y := by
      intro j y hy
      have hj : j < cs.size := by rw [hcs]; exact (List.getElem?_eq_some_iff.1 hy).1
      exact hargs j _ y (by simp [hj]) hy
    have own1 : ∀ {j u e l}, OwnOk T w G j u e l → u.oneCell' = true := by
      intro j u e l h
      rcases h with ⟨h, _⟩ | ⟨b, cap, cur, h, _⟩ <;> (rw [h]; rfl)
    have cap1 : ∀ {u l}, Rv w G u (.cap l) → u.oneCell' = true := by
      intro u l h
      rcases h.cap_inv with ⟨h, _⟩ | ⟨ad, sz, cc, h, _⟩ <;> (rw [h]; rfl)
    have inv : Inv T Φ (initSt ys) { tmps := cs ++ Array.replicate (fn.ntmps - cs.size) undef, defers := [] } w G0 := by
      constructor
      · rfl
      · show (cs ++ Array.replicate (fn.ntmps - cs.size) undef).size = fn.ntmps
        simp; omega
      · intro s
        show Rv w G0 ((cs ++ Array.replicate (fn.ntmps - cs.size) undef).getD s undef) (initEnv ys 0 s)
        rw [initEnv_get]
        simp only [Nat.zero_le, if_true, Nat.sub_zero]
        by_cases hs : s < cs.size
        · have hv : (cs ++ Array.replicate (fn.ntmps - cs.size) undef).getD s undef = cs.getD s undef := by
            simp [Array.getElem?_append_left hs]
          have hy : ys[s]? = some ys[s] := List.getElem?_eq_getElem (by omega)
          rw [hv, hy]
          have hr := hrb s _ hy
          generalize ys[s] = y at *
          simp only
          cases hl : linear y with
          | false =>
            have : y.pure ∧ Rv w G (cs.getD s undef) y := by
              unfold Rb at hr
              split at hr
              · simp [linear] at hl
              · simp [linear] at hl
              · exact hr
            exact this.2.pure_keep hkeep this.1
          | true =>
            have h1 : (cs.getD s undef).oneCell' = true := by
              unfold Rb at hr
              split at hr
              · exact own1 hr.2.2
              · rcases hr.2.2 with q | q
                · exact own1 q
                · exact cap1 q.1
              · rename_i hno1 hno2
                rw [linear_false hno1 hno2] at hl; cases hl
            exact Rv.arr (w := w) (G := G0) s 0 h1
        · have hy : ys[s]? = none := List.getElem?_eq_none (by omega)
          rw [hy]
          have hv : (cs ++ Array.replicate (fn.ntmps - cs.size) undef).getD s undef = undef := by
            rw [Array.getD_eq_getD_getElem?, Array.getElem?_append_right (by omega)]
            by_cases h2 : s - cs.size < fn.ntmps - cs.size
            · simp [h2]
            · rw [Array.getElem?_eq_none (by simp; omega)]; rfl
          rw [hv]
          exact undef_rv w G0
      · intro s
        show (initEnv ys 0 s).ok _ _
        rw [initEnv_get]
        simp only [Nat.zero_le, if_true, Nat.sub_zero]
        cases hy : ys[s]? with
        | none => simp only [V.ok, V.okL]
        | some y =>
          simp only
          have hr := hrb s y hy
          cases hl : linear y with
          | false =>
            have : y.pure := by
              unfold Rb at hr
              split at hr
              · simp [linear] at hl
              · simp [linear] at hl
              · exact hr.1
            exact V.pure.ok this _ _
          | true =>
            simp only [cond_true, V.ok]
            have : ∃ en, initAr ys 0 s = some en ∧ 0 ≤ en.gen := by
              rw [initAr_get]
              simp only [Nat.zero_le, if_true, Nat.sub_zero, hy]
              cases y <;> simp_all [linear]
            exact this
      · intro i cs' hi
        have : (none : Option (List V)) = some cs' := hi
        cases this
      · intro i cs' hi
        have : (none : Option (List V)) = some cs' := hi
        cases this
      · intro k en hen
        have hen' : initAr ys 0 k = some en := hen
        rw [initAr_get] at hen'
        simp only [Nat.zero_le, if_true, Nat.sub_zero] at hen'
        split at hen'
        · rename_i e l hy
          cases hen'
          have hr := hrb k _ hy
          obtain ⟨q1, q2, q3⟩ := hr
          exact ⟨q1, q3.keep hkeep q2 (fun b hb => ⟨hb, rfl⟩)⟩
        · rename_i e l hy
          cases hen'
          have hr := hrb k _ hy
          obtain ⟨q1, q2, q3⟩ := hr
          refine ⟨q1, ?_⟩
          rcases q3 with q | q
          · exact .inl (q.keep hkeep q2 (fun b hb => ⟨hb, rfl⟩))
          · exact .inr ⟨q.1.pure_keep hkeep (by simp only [V.pure, V.ok]; exact q2), q.2⟩
        · cases hen'
      · intro k en hen
        have hen' : initAr ys 0 k = some en := hen
        rw [initAr_get] at hen'
        simp only [Nat.zero_le, if_true, Nat.sub_zero] at hen'
        split at hen'
        · rename_i e l hy
          cases hen'
          exact (hrb k _ hy).2.1
        · rename_i e l hy
          cases hen'
          exact (hrb k _ hy).2.1
        · cases hen'
      · exact htag
      · intro b i hb; exact absurd hb (hbx b i)
      · intro b k hb; exact .inr ⟨k, hb⟩
      · intro b hb; exact .inl hb
      · intro b hb; exact hb
      · intro b _ _; rfl
      · exact Nat.le_refl _
      · rfl
      · rfl
      · rfl
      · intro j v h
        have h' : (if j = jo then some (cs.getD jo undef) else none) = some v := h
        split at h'
        · rename_i e
          subst e
          cases h'
          refine ⟨rfl, hjo, ?_⟩
          show ∃ en, initAr ys 0 j = some en
          rw [initAr_get]
          simp only [Nat.zero_le, if_true, Nat.sub_zero, hyo]
          exact ⟨_, rfl⟩
        · cases h'
      · exact ⟨hlay, fun b hb => ⟨htag b (by rw [show G.O b = .fz from hb]; simp), fun ⟨j, hj⟩ => by rw [show G.O b = .fz from hb] at hj; cases hj⟩⟩
    refine calls_of_wp hf hb ?_
    refine wp_mono (code_sound (Φ := Φ) hT hm c _ _ w G0 _ inv h) ?_
    have fin : ∀ (e : Exit) (σ : St) (a' : Act) (w' : World) (G' : Gh), retIO T σ fn.results.toList r jo eo lo → Inv T Φ σ a' w' G' → a'.defers = [] ∧ ∃ v, (results fn a'.tmps).run P w' = .ok v w' ∧ ∃ v0 Gr, (Ending.returned v = .returned v0) ∧ (Rr T w' Gr v0 r ∧ IoX T jo eo lo cs w' Gr) ∧
        (∀ b, G.O b = .fz → Gr.O b = .fz) ∧ (∀ b, Gr.O b ≠ .ext → b < w'.heap.size) ∧ (∀ b i, Gr.O b ≠ .bx i) ∧
        (∀ b, Gr.O b ≠ .ext → (G.O b = .fz ∧ Gr.O b = .fz) ∨ w.heap.size ≤ b ∨ ∃ j, G.O b = .ar j) ∧
        (∀ b, b < w.heap.size → (∀ j, G.O b ≠ .ar j) → w'.heap[b]? = w.heap[b]?) ∧
        w.heap.size ≤ w'.heap.size ∧ w'.os = w.os ∧ w'.tape = w.tape ∧ w'.output = w.output := by
      intro e σ a' w' G' hret inv'
      refine ⟨inv'.nd, ?_⟩
      replace hret := hret.out
      obtain ⟨xs, vs, hk, hl1, hl2, hvs, hrun⟩ := res_sound hT inv' _ _ hret
      have hres := results_run hrun
      refine ⟨tupOf vs, hres, tupOf vs, ?_⟩
      obtain ⟨hav0, _, en0, hen0⟩ := inv'.args jo (cs.getD jo undef) (by show (if jo = jo then some (cs.getD jo undef) else none) = _; rw [if_pos rfl])
      have hone : (cs.getD jo undef).oneCell' = true := by
        have hr := hrb jo _ hyo
        exact own1 hr.2.2
      have hlast : Rv w' G' (cs.getD jo undef) (.arr jo 0) ∧ (V.arr jo 0).ok σ.hasB σ.hasA := by
        refine ⟨?_, by simp only [V.ok]; exact ⟨en0, hen0, Nat.zero_le _⟩⟩
        have := Rv.arr (w := w') (G := G') jo 0 (by rw [hav0]; exact hone)
        rw [hav0] at this
        exact this
      have hvs2 : ∀ (i : Nat) v x, (vs ++ [cs.getD jo undef])[i]? = some v → (xs ++ [V.arr jo 0])[i]? = some x → Rv w' G' v x ∧ x.ok σ.hasB σ.hasA := by
        intro i v x hv hx
        rcases Nat.lt_or_ge i vs.length with hi | hi
        · rw [List.getElem?_append_left hi] at hv
          rw [List.getElem?_append_left (by omega)] at hx
          exact hvs i v x hv hx
        · have hi2 : i = vs.length := by
            have := (List.getElem?_eq_some_iff.1 hv).1
            simp at this; omega
          subst hi2
          rw [List.getElem?_append_right (Nat.le_refl _)] at hv
          rw [List.getElem?_append_right (by omega)] at hx
          rw [Nat.sub_self] at hv
          rw [hl1, Nat.sub_self] at hx
          simp only [List.getElem?_cons_zero, Option.some.injEq] at hv hx
          subst hv; subst hx
          exact hlast
      have common : ∀ (ys' : List V), giveL T σ.ar (ys' ++ [.own eo lo]) (xs ++ [.arr jo 0]) → keysOk (xs ++ [.arr jo 0]) (ys' ++ [.own eo lo]) = true → ∃ Gr : Gh, (∀ (j : Nat) v y, vs[j]? = some v → ys'[j]? = some y → Rb T w' Gr j v y) ∧ IoX T jo eo lo cs w' Gr ∧
          (∀ b, G.O b = .fz → Gr.O b = .fz) ∧ (∀ b, Gr.O b ≠ .ext → b < w'.heap.size) ∧ (∀ b i, Gr.O b ≠ .bx i) ∧
          (∀ b, Gr.O b ≠ .ext → (G.O b = .fz ∧ Gr.O b = .fz) ∨ w.heap.size ≤ b ∨ ∃ j, G.O b = .ar j) := by
        intro ys' h1 h2
        obtain ⟨Gc, q1, q2, q3, q4⟩ := handover inv' h1 h2 (vs ++ [cs.getD jo undef]) hvs2
        have hlen := (giveL_spec h1).1
        simp only [List.length_append, List.length_cons, List.length_nil] at hlen
        refine ⟨Gc, fun j v y hv hy => ?_, ?_, fun b hb => q2 b (inv'.F0 b hb), fun b hb => inv'.tag b ?_, q3, fun b hb => ?_⟩
        · refine q1 j v y ?_ ?_
          · rw [List.getElem?_append_left (List.getElem?_eq_some_iff.1 hv).1]; exact hv
          · rw [List.getElem?_append_left (List.getElem?_eq_some_iff.1 hy).1]; exact hy
        · have hq := q1 vs.length (cs.getD jo undef) (.own eo lo) (by simp) (by rw [List.getElem?_append_right (by omega)]; rw [show vs.length - ys'.length = 0 by omega]; rfl)
          exact ⟨hq.2.1, _, hq.2.2⟩
        · rcases q4 b hb with ⟨h, _⟩ | ⟨k, h⟩ <;> (rw [h]; simp)
        · rcases q4 b hb with ⟨h, h'⟩ | ⟨k, h⟩
          · rcases inv'.fzm b h with h2 | h2
            · exact .inl ⟨h2, h'⟩
            · exact .inr h2
          · exact .inr (inv'.mineA b k h)
      have frame : (∀ b, b < w.heap.size → (∀ j, G.O b ≠ .ar j) → w'.heap[b]? = w.heap[b]?) ∧ w.heap.size ≤ w'.heap.size ∧ w'.os = w.os ∧ w'.tape = w.tape ∧ w'.output = w.output :=
        ⟨fun b hb hj => inv'.frame b hb (fun ⟨j, h⟩ => hj j h), inv'.size, inv'.os, inv'.tape, inv'.output⟩
      split at hk
      · rename_i x
        obtain ⟨g1, g2, _, g3⟩ := hk
        obtain ⟨Gr, q1, q0, q2, q3, q4, q5⟩ := common [r] g1 g2
        obtain ⟨v, rfl⟩ : ∃ v, vs = [v] := List.length_eq_one_iff.1 hl1
        refine ⟨Gr, rfl, ⟨?_, q0⟩, q2, q3, q4, q5, frame⟩
        have := q1 0 v r rfl rfl
        unfold Rr
        split
        · exact absurd rfl (g3 _)
        · exact this
      · rename_i hne
        obtain ⟨ys', rfl, g1, g2⟩ := hk
        rw [appR_eq, appR_eq] at g1 g2
        obtain ⟨Gr, q1, q0, q2, q3, q4, q5⟩ := common ys' g1 g2
        have hlen := (giveL_spec g1).1
        simp only [List.length_append, List.length_cons, List.length_nil] at hlen
        refine ⟨Gr, rfl, ⟨?_, q0⟩, q2, q3, q4, q5, frame⟩
        show ∃ us : Array Value, tupOf vs = .tuple us ∧ us.size = ys'.length ∧ ∀ (j : Nat) u y, us[j]? = some u → ys'[j]? = some y → Rb T w' Gr j u y
        refine ⟨vs.toArray, ?_, by simp [hl1]; omega, fun j u y hu hy => q1 j u y (by simpa using hu) hy⟩
        have hne1 : vs.length ≠ 1 := fun h1 => by
          rw [hl1] at h1
          obtain ⟨x, hx⟩ := List.length_eq_one_iff.1 h1
          exact hne x hx
        cases vs with
        | nil => rfl
        | cons v rr =>
          cases rr with
          | nil => exact absurd rfl hne1
          | cons u rr => rfl
    rintro e a' w' ⟨σ, G', hq, inv'⟩
    cases e with
    | normal => exact fin .normal σ a' w' G' hq inv'
    | ret => exact fin .ret σ a' w' G' hq inv'
    | exit id => exact (hq : False).elim
    | goto l => exact (hq : False).elim
    | panic c => exact (hq : False).elim
    | outgrown => exact (hq : False).elim
  · exact h.elim

end
end Go.Ab
namespace Go.Ab

def wkLit (u' u : Value) : Prop :=
  match u with
  | .int k n => match u' with | .int k' n' => k' = k ∧ n' = n | _ => False
  | .bool b => match u' with | .bool b' => b' = b | _ => False
  | u => u' = u

/-- of a value of one cell -/
def wk1 (ar r : Nat → Option AE) (x y : V) : Prop :=
  match y with
  | .bot => True
  | .lit u => match x with | .lit u' => wkLit u' u | _ => False
  | .sl l => match x with
    | .sl l' => l' = l
    | .cap l' => l' = l
    | .lit (.slice none 0 0) => l = []
    | .arr k g => match ar k with
      | some en => match en.kind with
        | .frz => en.gen = g ∧ en.l = l
        | _ => False
      | none => False
    | _ => False
  | .arr k g => match x with
    | .arr k' g' => k' = k ∧ g' = g
    | .lit (.slice none 0 0) => match ar k with
      | none => match r k with
        | some en => en.gen = g
        | none => False
      | some _ => False
    | _ => False
  | .box i o => match x with | .box i' o' => i' = i ∧ o' = o | _ => False
  | .cap l => match x with | .cap l' => l' = l | .lit (.slice none 0 0) => l = [] | _ => False
  | .fp l => match x with | .fp l' => l' = l | _ => False
  | .fn g l => match x with | .fn g' l' => g' = g ∧ l' = l | _ => False
  | .ae k g z i o => match x with | .ae k' g' z' i' o' => k' = k ∧ g' = g ∧ z' = z ∧ i' = i ∧ o' = o | _ => False
  | _ => False

noncomputable def wkL (ar r : Nat → Option AE) (ys : List V) : List V → Prop :=
  List.rec (motive := fun _ => List V → Prop) (fun xs => match xs with | [] => True | _ :: _ => False)
    (fun y _ ih xs => match xs with | x :: xr => wk1 ar r x y ∧ ih xr | [] => False) ys

noncomputable def wkV (ar r : Nat → Option AE) (x y : V) : Prop :=
  match y with
  | .agg ys => match x with | .agg xs => wkL ar r ys xs | _ => False
  | y => wk1 ar r x y

def kindLe (a b : AK) : Prop :=
  match b with
  | .own => match a with | .own => True | _ => False
  | .ap => match a with | .own => True | .ap => True | _ => False
  | .frz => match a with | .frz => True | _ => False
  | .dead => True

def wkAE (T : Tab) (o : Option AE) (en : AE) : Prop :=
  match o with
  | some en0 => en0.gen = en.gen ∧ kindLe en0.kind en.kind ∧ en0.ty = en.ty ∧ en0.l = en.l
  | none => kindLe .own en.kind ∧ en.l = [] ∧ Nat.blt en.ty (T.n en.ty) = true

/-- what a value names is there -/
def wf1 (b : Nat → Option (List V)) (r : Nat → Option AE) (x : V) : Prop :=
  match x with
  | .box i _ => match b i with | some _ => True | none => False
  | .arr k g => match r k with | some en => g ≤ en.gen | none => False
  | .ae k g _ _ _ => match r k with | some en => g ≤ en.gen | none => False
  | _ => True
noncomputable def wfL (b : Nat → Option (List V)) (r : Nat → Option AE) (l : List V) : Prop := List.rec (motive := fun _ => Prop) True (fun x _ ih => wf1 b r x ∧ ih) l
noncomputable def wfV (b : Nat → Option (List V)) (r : Nat → Option AE) (x : V) : Prop :=
  match x with
  | .agg cs => wfL b r cs
  | x => wf1 b r x

noncomputable def wkE (σ : St) (b : Nat → Option (List V)) (r : Nat → Option AE) (e : List (Nat × V)) : Prop :=
  List.rec (motive := fun _ => Prop) True (fun p _ ih => (wkV σ.ar r (σ.env p.1) p.2 ∧ wfV b r p.2) ∧ ih) e
noncomputable def wkB (σ : St) (b : Nat → Option (List V)) (r : Nat → Option AE) (l : List (Nat × List V)) : Prop :=
  List.rec (motive := fun _ => Prop) True (fun p _ ih => (match σ.bx p.1 with | some cs => wkL σ.ar r p.2 cs ∧ wfL b r p.2 | none => False) ∧ ih) l
noncomputable def wkA (T : Tab) (σ : St) (l : List (Nat × AE)) : Prop :=
  List.rec (motive := fun _ => Prop) True (fun p _ ih => wkAE T (σ.ar p.1) p.2 ∧ ih) l

theorem wkLit_eq {u' u : Value} (h : wkLit u' u) : u' = u := by
  unfold wkLit at h
  split at h
  · split at h
    · obtain ⟨rfl, rfl⟩ := h; rfl
    · exact h.elim
  · split at h
    · subst h; rfl
    · exact h.elim
  · exact h

section
variable {T : Tab} {Φ : Fr} {σ : St} {a : Act} {w : World} {G : Gh} {b : Nat → Option (List V)} {r : Nat → Option AE}

/-- the ghost with new empty slices -/
noncomputable def nilGh (σ : St) (G : Gh) : Gh := { G with av := fun k g => match σ.ar k with | none => .slice none 0 0 | some _ => G.av k g }

theorem nil_keep (σ : St) (w : World) (G : Gh) : Keep w w G (nilGh σ G) := ⟨fun _ h => h, fun _ _ => rfl⟩
theorem nil_av {k g : Nat} (h : σ.hasA k g) : (nilGh σ G).av k g = G.av k g := by
  obtain ⟨en, h, _⟩ := h
  simp [nilGh, h]

theorem wk1_sound (inv : Inv T Φ σ a w G) {v : Value} {x y : V} (hx : Rv w G v x) (hok : x.ok σ.hasB σ.hasA) (h : wk1 σ.ar r x y) (hw : wf1 b r y) (τ : St) (hb : τ.bx = b) (hr : τ.ar = r) :
    Rv w (nilGh σ G) v y ∧ y.ok τ.hasB τ.hasA := by
  have hx' : Rv w (nilGh σ G) v x := hx.keep (nil_keep σ w G) hok (fun _ _ => rfl) (fun k g h => nil_av h)
  subst hb hr
  unfold wk1 at h
  split at h
  · exact ⟨.bot v, by simp only [V.ok]⟩
  · split at h
    · cases wkLit_eq h; exact ⟨hx', by simp only [V.ok]⟩
    · exact h.elim
  · split at h
    · subst h; exact ⟨hx', by simp only [V.ok] at hok ⊢; exact hok⟩
    · subst h; exact ⟨hx'.cap_sl, by simp only [V.ok] at hok ⊢; exact hok⟩
    · subst h
      have := hx.lit_eq
      subst this
      exact ⟨.slN, by simp only [V.ok, V.okL]⟩
    · split at h
      · rename_i k g _ en hen
        split at h
        · rename_i hkd
          obtain ⟨rfl, rfl⟩ := h
          have ha := inv.arr k en hen
          unfold ArrOk at ha
          rw [hkd] at ha
          have hp := inv.wfA k en hen
          have hps : (V.sl en.l).pure := by simp only [V.pure, V.ok]; exact hp
          have hv := hx.arr_eq
          rw [hv]
          exact ⟨(ha : Rv w G _ _).pure_keep (nil_keep σ w G) hps, by simp only [V.ok]; exact hp⟩
        · exact h.elim
      · exact h.elim
    · exact h.elim
  · rename_i k g
    have hwr : τ.hasA k g := by
      unfold wf1 at hw
      simp only at hw
      split at hw
      · rename_i en hen; exact ⟨en, hen, hw⟩
      · exact hw.elim
    split at h
    · obtain ⟨rfl, rfl⟩ := h
      exact ⟨hx', by simp only [V.ok]; exact hwr⟩
    · split at h
      · rename_i hnone
        split at h
        · have hv := hx.lit_eq
          subst hv
          have e : (nilGh σ G).av k g = .slice none 0 0 := by simp [nilGh, hnone]
          rw [← e]
          exact ⟨.arr k g (by rw [e]; rfl), by simp only [V.ok]; exact hwr⟩
        · exact h.elim
      · exact h.elim
    · exact h.elim
  · split at h
    · obtain ⟨rfl, rfl⟩ := h
      refine ⟨hx', ?_⟩
      unfold wf1 at hw
      simp only at hw
      split at hw
      · rename_i cs hcs; simp only [V.ok]; exact ⟨cs, hcs⟩
      · exact hw.elim
    · exact h.elim
  · split at h
    · subst h; exact ⟨hx', by simp only [V.ok] at hok ⊢; exact hok⟩
    · subst h
      have := hx.lit_eq
      subst this
      exact ⟨.capN, by simp only [V.ok, V.okL]⟩
    · exact h.elim
  · split at h
    · subst h; exact ⟨hx', by simp only [V.ok] at hok ⊢; exact hok⟩
    · exact h.elim
  · split at h
    · obtain ⟨rfl, rfl⟩ := h; exact ⟨hx', by simp only [V.ok] at hok ⊢; exact hok⟩
    · exact h.elim
  · rename_i k g z i o
    have hwr : τ.hasA k g := by
      unfold wf1 at hw
      simp only at hw
      split at hw
      · rename_i en hen; exact ⟨en, hen, hw⟩
      · exact hw.elim
    split at h
    · obtain ⟨rfl, rfl, rfl, rfl, rfl⟩ := h
      exact ⟨hx', by simp only [V.ok]; exact hwr⟩
    · exact h.elim
  · exact h.elim

theorem wkL_spec {ar : Nat → Option AE} {ys : List V} : ∀ {xs : List V}, wkL ar r ys xs → wfL b r ys → xs.length = ys.length ∧ ∀ (i : Nat) x y, xs[i]? = some x → ys[i]? = some y → wk1 ar r x y ∧ wf1 b r y := by
  induction ys with
  | nil =>
    intro xs h _
    cases xs with
    | nil => exact ⟨rfl, fun i x y hx => by simp at hx⟩
    | cons x xr => exact (h : False).elim
  | cons y yr ih =>
    intro xs h hw
    cases xs with
    | nil => exact (h : False).elim
    | cons x xr =>
      obtain ⟨h1, h2⟩ := (h : wk1 ar r x y ∧ wkL ar r yr xr)
      obtain ⟨w1, w2⟩ := (hw : wf1 b r y ∧ wfL b r yr)
      obtain ⟨q1, q2⟩ := ih h2 w2
      refine ⟨by simp [q1], fun i x' y' hx hy => ?_⟩
      cases i with
      | zero => simp at hx hy; subst hx hy; exact ⟨h1, w1⟩
      | succ i => simp at hx hy; exact q2 i x' y' hx hy

theorem wkV_sound (inv : Inv T Φ σ a w G) {v : Value} {x y : V} (hx : Rv w G v x) (hok : x.ok σ.hasB σ.hasA) (h : wkV σ.ar r x y) (hw : wfV b r y) (τ : St) (hb : τ.bx = b) (hr : τ.ar = r) :
    Rv w (nilGh σ G) v y ∧ y.ok τ.hasB τ.hasA := by
  unfold wkV at h
  split at h
  · rename_i ys
    split at h
    · rename_i xs
      obtain ⟨q1, q2⟩ := wkL_spec h hw
      obtain ⟨cs, rfl, hl, ho, hrel⟩ := hx.agg_inv
      simp only [V.ok] at hok
      have each : ∀ (i : Nat) c y, cs[i]? = some c → ys[i]? = some y → Rv w (nilGh σ G) c y ∧ y.ok τ.hasB τ.hasA := by
        intro i c y hc hy
        have hi : i < xs.length := by rw [q1]; exact (List.getElem?_eq_some_iff.1 hy).1
        have hxi : xs[i]? = some xs[i] := by simp [hi]
        obtain ⟨k1, k2⟩ := q2 i xs[i] y hxi hy
        exact wk1_sound inv (hrel i c xs[i] hc hxi) (okL_iff.1 hok _ (List.getElem_mem hi)) k1 k2 τ hb hr
      refine ⟨.agg cs ys (by omega) ho fun i c y hc hy => (each i c y hc hy).1, ?_⟩
      simp only [V.ok]
      rw [okL_iff]
      intro y hy
      obtain ⟨i, hi⟩ := List.getElem?_of_mem hy
      have hlt : i < cs.size := by rw [hl, q1]; exact (List.getElem?_eq_some_iff.1 hi).1
      exact (each i cs[i] y (by simp [hlt]) hi).2
    · exact h.elim
  · rename_i hna
    refine wk1_sound inv hx hok h ?_ τ hb hr
    unfold wfV at hw
    split at hw
    · exact (hna _ rfl).elim
    · exact hw

theorem ofL_cases {α : Type} {dflt : α} {l : List (Nat × α)} (s : Nat) : ofL dflt l s = dflt ∨ ∃ p ∈ l, p.1 = s ∧ ofL dflt l s = p.2 := by
  induction l with
  | nil => exact .inl rfl
  | cons p q ih =>
    have hd : ofL dflt (p :: q) s = cond (Nat.beq s p.1) p.2 (ofL dflt q s) := rfl
    rw [hd]
    cases hb : Nat.beq s p.1 with
    | true => exact .inr ⟨p, by simp, (Nat.eq_of_beq_eq_true hb).symm, rfl⟩
    | false =>
      rcases ih with h | ⟨p', hp, h1, h2⟩
      · exact .inl h
      · exact .inr ⟨p', by simp [hp], h1, h2⟩
theorem ofO_cases {α : Type} {l : List (Nat × α)} {s : Nat} {x : α} (h : ofO l s = some x) : ∃ p ∈ l, p.1 = s ∧ p.2 = x := by
  induction l with
  | nil => cases h
  | cons p q ih =>
    have hd : ofO (p :: q) s = cond (Nat.beq s p.1) (some p.2) (ofO q s) := rfl
    rw [hd] at h
    cases hb : Nat.beq s p.1 with
    | true => rw [hb] at h; exact ⟨p, by simp, (Nat.eq_of_beq_eq_true hb).symm, by simpa using h⟩
    | false =>
      rw [hb] at h
      obtain ⟨p', hp, h1, h2⟩ := ih h
      exact ⟨p', by simp [hp], h1, h2⟩

theorem wkE_spec {e : List (Nat × V)} (h : wkE σ b r e) : ∀ p ∈ e, wkV σ.ar r (σ.env p.1) p.2 ∧ wfV b r p.2 := by
  induction e with
  | nil => intro p hp; cases hp
  | cons q l ih =>
    obtain ⟨h1, h2⟩ := (h : (wkV σ.ar r (σ.env q.1) q.2 ∧ wfV b r q.2) ∧ wkE σ b r l)
    intro p hp
    rcases List.mem_cons.1 hp with rfl | hp
    · exact h1
    · exact ih h2 p hp
theorem wkB_spec {l : List (Nat × List V)} (h : wkB σ b r l) : ∀ p ∈ l, ∃ cs, σ.bx p.1 = some cs ∧ wkL σ.ar r p.2 cs ∧ wfL b r p.2 := by
  induction l with
  | nil => intro p hp; cases hp
  | cons q l ih =>
    obtain ⟨h1, h2⟩ := (h : (match σ.bx q.1 with | some cs => wkL σ.ar r q.2 cs ∧ wfL b r q.2 | none => False) ∧ wkB σ b r l)
    intro p hp
    rcases List.mem_cons.1 hp with rfl | hp
    · split at h1
      · rename_i cs hcs; exact ⟨cs, hcs, h1⟩
      · exact h1.elim
    · exact ih h2 p hp
theorem wkA_spec {l : List (Nat × AE)} (h : wkA T σ l) : ∀ p ∈ l, wkAE T (σ.ar p.1) p.2 := by
  induction l with
  | nil => intro p hp; cases hp
  | cons q l ih =>
    obtain ⟨h1, h2⟩ := (h : wkAE T (σ.ar q.1) q.2 ∧ wkA T σ l)
    intro p hp
    rcases List.mem_cons.1 hp with rfl | hp
    · exact h1
    · exact ih h2 p hp

theorem kindLe_arr (inv : Inv T Φ σ a w G) {k : Nat} {en0 en : AE} (h0 : σ.ar k = some en0) (h1 : en0.gen = en.gen) (h2 : kindLe en0.kind en.kind) (h3 : en0.ty = en.ty) (h4 : en0.l = en.l) : ArrOk T w G k en := by
  have ha := inv.arr k en0 h0
  obtain ⟨g0, k0, t0, l0⟩ := en0
  obtain ⟨g, kd, t, l⟩ := en
  simp only at h1 h2 h3 h4
  subst h1 h3 h4
  cases kd <;> cases k0 <;> simp only [kindLe] at h2 <;> first | exact h2.elim | exact trivial | exact ha | skip
  unfold ArrOk at ha ⊢
  exact ⟨ha.1, .inl ha.2⟩

/-- the slices that were handed over are kept -/
def has8 (o p : Option AE) : Prop := match o with | none => True | some _ => (match p with | some _ => True | none => False)
def wk8 (ar r : Nat → Option AE) : Prop := has8 (ar 0) (r 0) ∧ has8 (ar 1) (r 1) ∧ has8 (ar 2) (r 2) ∧ has8 (ar 3) (r 3) ∧ has8 (ar 4) (r 4) ∧ has8 (ar 5) (r 5) ∧ has8 (ar 6) (r 6) ∧ has8 (ar 7) (r 7)
theorem wk8_spec {ar r : Nat → Option AE} (h : wk8 ar r) {j : Nat} (hj : j < 8) {en : AE} (he : ar j = some en) : ∃ en', r j = some en' := by
  have key : ∀ {o p : Option AE}, has8 o p → o = some en → ∃ en', p = some en' := by
    intro o p h ho
    subst ho
    cases p with
    | none => exact (h : False).elim
    | some x => exact ⟨x, rfl⟩
  obtain ⟨h0, h1, h2, h3, h4, h5, h6, h7⟩ := h
  match j, hj with
  | 0, _ => exact key h0 he
  | 1, _ => exact key h1 he
  | 2, _ => exact key h2 he
  | 3, _ => exact key h3 he
  | 4, _ => exact key h4 he
  | 5, _ => exact key h5 he
  | 6, _ => exact key h6 he
  | 7, _ => exact key h7 he

/-- THE WAY DOWN TO A STATE GIVEN BY LISTS -/
theorem le_mk {e : List (Nat × V)} {lb : List (Nat × List V)} {lr : List (Nat × AE)} (h8 : wk8 σ.ar (ofO lr)) (hA : wkA T σ lr) (hB : wkB σ (ofO lb) (ofO lr) lb) (hE : wkE σ (ofO lb) (ofO lr) e) : Le T σ (mkSt e lb lr) := by
  unfold Le
  intro Φ a w G inv
  have bot : ∀ s, (mkSt e lb lr).env s = .bot ∨ ∃ p ∈ e, p.1 = s ∧ (mkSt e lb lr).env s = p.2 := fun s => ofL_cases s
  have hav : ∀ k g, σ.hasA k g → (nilGh σ G).av k g = G.av k g := fun k g h => nil_av h
  refine ⟨nilGh σ G, ?_⟩
  refine { nd := inv.nd, sz := inv.sz, env := ?_, wfE := ?_, box := ?_, wfB := ?_, arr := ?_, wfA := ?_, tag := inv.tag, mineB := inv.mineB, mineA := inv.mineA, fzm := inv.fzm, F0 := inv.F0, lay := inv.lay, frame := inv.frame, size := inv.size, os := inv.os, tape := inv.tape, output := inv.output, args := fun j v h => ⟨(hav j 0 ⟨_, (inv.args j v h).2.2.choose_spec, Nat.zero_le _⟩).trans (inv.args j v h).1, (inv.args j v h).2.1, wk8_spec h8 (inv.args j v h).2.1 (inv.args j v h).2.2.choose_spec⟩ }
  · intro s
    rcases bot s with h | ⟨p, hp, rfl, h⟩
    · rw [h]; exact .bot _
    · rw [h]
      obtain ⟨h1, h2⟩ := wkE_spec hE p hp
      exact (wkV_sound inv (inv.env p.1) (inv.wfE p.1) h1 h2 (mkSt e lb lr) rfl rfl).1
  · intro s
    rcases bot s with h | ⟨p, hp, rfl, h⟩
    · rw [h]; simp only [V.ok]
    · rw [h]
      obtain ⟨h1, h2⟩ := wkE_spec hE p hp
      exact (wkV_sound inv (inv.env p.1) (inv.wfE p.1) h1 h2 (mkSt e lb lr) rfl rfl).2
  · intro i cs hi
    obtain ⟨p, hp, rfl, rfl⟩ := ofO_cases hi
    obtain ⟨cs0, hcs0, h1, h2⟩ := wkB_spec hB p hp
    obtain ⟨c, t, g1, g2, g3⟩ := inv.box p.1 cs0 hcs0
    obtain ⟨q1, q2⟩ := wkL_spec h1 h2
    refine ⟨c, t, g1, ⟨by rw [g2.len, q1], g2.one, fun i v y hv hy => ?_⟩, g3⟩
    have hlt : i < cs0.length := by rw [q1]; exact (List.getElem?_eq_some_iff.1 hy).1
    have hxi : cs0[i]? = some cs0[i] := by simp [hlt]
    obtain ⟨k1, k2⟩ := q2 i cs0[i] y hxi hy
    exact (wk1_sound inv (g2.rel i v cs0[i] hv hxi) (okL_iff.1 (inv.wfB p.1 cs0 hcs0) _ (List.getElem_mem hlt)) k1 k2 (mkSt e lb lr) rfl rfl).1
  · intro i cs hi
    obtain ⟨p, hp, rfl, rfl⟩ := ofO_cases hi
    obtain ⟨cs0, hcs0, h1, h2⟩ := wkB_spec hB p hp
    obtain ⟨c, t, g1, g2, g3⟩ := inv.box p.1 cs0 hcs0
    obtain ⟨q1, q2⟩ := wkL_spec h1 h2
    rw [okL_iff]
    intro y hy
    obtain ⟨i, hi'⟩ := List.getElem?_of_mem hy
    have hlt : i < cs0.length := by rw [q1]; exact (List.getElem?_eq_some_iff.1 hi').1
    have hxi : cs0[i]? = some cs0[i] := by simp [hlt]
    have hlc : i < c.toList.length := by rw [g2.len]; exact hlt
    obtain ⟨k1, k2⟩ := q2 i cs0[i] y hxi hi'
    exact (wk1_sound inv (g2.rel i c.toList[i] cs0[i] (by simp) hxi) (okL_iff.1 (inv.wfB p.1 cs0 hcs0) _ (List.getElem_mem hlt)) k1 k2 (mkSt e lb lr) rfl rfl).2
  · intro k en hk
    obtain ⟨p, hp, rfl, rfl⟩ := ofO_cases hk
    have h := wkA_spec hA p hp
    unfold wkAE at h
    split at h
    · rename_i en0 h0
      have hok := kindLe_arr inv h0 h.1 h.2.1 h.2.2.1 h.2.2.2
      refine hok.keep (nil_keep σ w G) ?_ ?_ (fun b hb => ⟨hb, rfl⟩)
      · rw [← h.2.2.2]; exact inv.wfA _ _ h0
      · exact hav _ _ ⟨en0, h0, by omega⟩
    · rename_i h0
      obtain ⟨h1, h2, h3⟩ := h
      have hnil : (nilGh σ G).av p.1 p.2.gen = .slice none 0 0 := by simp [nilGh, h0]
      have hlt := blt h3
      unfold ArrOk
      split
      · trivial
      · rename_i hkd; rw [hkd] at h1; exact h1.elim
      · rw [hnil, h2]; exact ⟨hlt, .inl ⟨rfl, rfl⟩⟩
      · rw [hnil, h2]; exact ⟨hlt, .inl (.inl ⟨rfl, rfl⟩)⟩
  · intro k en hk
    obtain ⟨p, hp, rfl, rfl⟩ := ofO_cases hk
    have h := wkA_spec hA p hp
    unfold wkAE at h
    split at h
    · rename_i en0 h0
      rw [← h.2.2.2]; exact inv.wfA _ _ h0
    · rw [h.2.1]; simp only [V.okL]
end
end Go.Ab
namespace Go.Ab
section
variable {T : Tab} {P : Program} {σ : St}

theorem seq_go {x y : CodeK} {Q : Exit → St → Prop} (h : x σ fun e σ' => match e with
    | .normal => y σ' Q
    | e => Q e σ') : SeqVC T x y σ Q := by refine ⟨?_⟩; exact .inl h
theorem seq_cut {x y : CodeK} {Q : Exit → St → Prop} (A : Type) (st : A → St) (inv : A → Prop) (h : x σ fun e σ' => match e with
    | .normal => ∃ p, Le T σ' (st p) ∧ inv p
    | e => Q e σ') (h2 : ∀ p, inv p → y (st p) Q) : SeqVC T x y σ Q := by refine ⟨?_⟩; exact .inr ⟨⟨A, st, inv, fun _ => 0⟩, h, h2⟩
theorem loop_i {x : CodeK} {Q : Exit → St → Prop} {A : Type} (st : A → St) (inv : A → Prop) (m : A → Nat) (p0 : A) (h0 : Le T σ (st p0)) (h1 : inv p0) (h : ∀ p, inv p → x (st p) fun e σ' => match e with
    | .normal => ∃ p', Le T σ' (st p') ∧ inv p' ∧ m p' < m p
    | e => Q e σ') : LoopVC T x σ Q := by refine ⟨?_⟩; exact ⟨⟨A, st, inv, m⟩, ⟨p0, h0, h1⟩, h⟩

theorem branch_s {b : Bool} {A B : Prop} (h1 : b = true → A) (h2 : b = false → B) : branch b A B := by
  cases b
  · exact h2 rfl
  · exact h1 rfl
theorem branch_t {b : Bool} {A B : Prop} (h : b = true) (h1 : A) : branch b A B := by subst h; exact h1
theorem branch_f {b : Bool} {A B : Prop} (h : b = false) (h1 : B) : branch b A B := by subst h; exact h1
theorem ltB_t {a b : Int} : ltB a b = true ↔ a < b := by unfold ltB; simp
theorem ltB_f {a b : Int} : ltB a b = false ↔ b ≤ a := by unfold ltB; simp
theorem leB_t {a b : Int} : leB a b = true ↔ a ≤ b := by unfold leB; simp
theorem leB_f {a b : Int} : leB a b = false ↔ b < a := by unfold leB; simp
theorem eqB_t {a b : Int} : eqB a b = true ↔ a = b := by unfold eqB; simp
theorem eqB_f {a b : Int} : eqB a b = false ↔ a ≠ b := by unfold eqB; simp
theorem andB_eq (a b : Bool) : andB a b = (a && b) := by unfold andB; rfl
theorem eqBB_eq (a b : Bool) : eqBB a b = (a == b) := by unfold eqBB; rfl
theorem br_lt {a b : Int} {A B : Prop} (h1 : a < b → A) (h2 : b ≤ a → B) : branch (ltB a b) A B := branch_s (fun h => h1 (ltB_t.1 h)) (fun h => h2 (ltB_f.1 h))
theorem br_le {a b : Int} {A B : Prop} (h1 : a ≤ b → A) (h2 : b < a → B) : branch (leB a b) A B := branch_s (fun h => h1 (leB_t.1 h)) (fun h => h2 (leB_f.1 h))
theorem br_eq {a b : Int} {A B : Prop} (h1 : a = b → A) (h2 : a ≠ b → B) : branch (eqB a b) A B := branch_s (fun h => h1 (eqB_t.1 h)) (fun h => h2 (eqB_f.1 h))
theorem br_not {b : Bool} {A B : Prop} (h : branch b B A) : branch (!b) A B := by cases b <;> exact h
theorem maxI_eq (a b : Int) : maxI a b = max a b := by unfold maxI; split <;> omega
theorem minI_eq (a b : Int) : minI a b = min a b := by unfold minI; split <;> omega

theorem arith_in {n : Int} {K : Int → Prop} (h : -9223372036854775808 ≤ n ∧ n ≤ 9223372036854775807) (hk : K n) : arith .i64 n K := by
  refine ⟨?_⟩; rw [show IntKind.wrap .i64 n = n from IntWalk.i64_in _ (by omega)]; exact hk
theorem need_i {p K : Prop} (h : p) (hk : K) : need p K := by refine ⟨?_⟩; exact ⟨h, hk⟩
theorem idx_map {α : Type} {f : α → V} {l : List α} {i : Nat} {K : V → Prop} (hi : i < l.length) (h : ∀ x, l[i]? = some x → K (f x)) : idx (l.map f) i K := by
  refine ⟨?_⟩; exact ⟨f l[i], by simp [hi], h _ (by simp [hi])⟩
theorem idx_i {l : List V} {i : Nat} {K : V → Prop} (x : V) (h : l[i]? = some x) (hk : K x) : idx l i K := by refine ⟨?_⟩; exact ⟨x, h, hk⟩
theorem draw_i {env : Nat → V} {ops : List Oper} {K : Prop} (h : regionOk ops = true) (hk : K) : drawVC env ops K := by refine ⟨?_⟩; exact ⟨[], trivial, h, hk⟩
theorem draw_c {env : Nat → V} {ops : List Oper} {K : Prop} (cl : List (Nat × Nat)) (h0 : goodL cl env) (h : regionOkC cl ops = true) (hk : K) : drawVC env ops K := by refine ⟨?_⟩; exact ⟨cl, h0, h, hk⟩

theorem call_i {light : Bool} {d : Nat} {f : FuncId} {xs ys : List V} {r : V} {K : VK} (hs : Spec T P f ys r) (lend : Bool) (hg : giveL T σ.ar ys xs) (hc : callOk light lend xs ys r = true)
    (hk : recvK σ d (reuse σ (ownKeys ys xs)) r fun v ms => K v (appR (cond lend [] (frzMods σ (viewKeys ys xs))) (appR (deadMods σ (ownKeys ys xs)) ms))) : callVC T P light σ d f xs K := by
  refine ⟨.inl ?_⟩; exact ⟨ys, r, lend, hg, hc, hs, hk⟩
theorem call_io_i {d : Nat} {f : FuncId} {xs ys : List V} {r : V} {K : VK} {j k g : Nat} {e : TypeId} {l l' : List V} (hs : SpecIO T P f ys r j e l') (hy : ys[j]? = some (.own e l)) (hx : xs[j]? = some (.arr k g)) (hg : giveL T σ.ar ys xs) (hc : callOk false false xs ys r = true) (hf : flatV r = true)
    (hk : K r (appR (frzMods σ (viewKeys ys xs)) (appR (deadMods σ (ownKeys ys xs)) [.a k ⟨g, .own, e, l'⟩]))) : callVC T P false σ d f xs K := by
  refine ⟨.inr ⟨rfl, ys, r, j, k, g, e, l, l', hg, hc, hs, hy, hx, hf, hk⟩⟩
theorem retIO_i {rs : List ResultVar} {r : V} {j : Nat} {e : TypeId} {l : List V} (h : resVC T σ rs fun xs => match xs with
    | [x] => giveL T σ.ar [r, .own e l] [x, .arr j 0] ∧ keysOk [x, .arr j 0] [r, .own e l] = true ∧ flatV r = true ∧ (∀ rs, r ≠ .tup rs)
    | xs => ∃ ys, r = .tup ys ∧ giveL T σ.ar (appR ys [.own e l]) (appR xs [.arr j 0]) ∧ keysOk (appR xs [.arr j 0]) (appR ys [.own e l]) = true) : retIO T σ rs r j e l := ⟨h⟩
theorem ret_i {rs : List ResultVar} {r : V} (h : resVC T σ rs fun xs => match xs with
    | [x] => giveL T σ.ar [r] [x] ∧ keysOk [x] [r] = true ∧ (∀ rs, r ≠ .tup rs)
    | xs => ∃ ys, r = .tup ys ∧ giveL T σ.ar ys xs ∧ keysOk xs ys = true) : retVC T σ rs r := by refine ⟨?_⟩; exact h

theorem ret_lit {ar : Nat → Option AE} {u u' : Value} (h : u' = u) : giveL T ar [.lit u] [.lit u'] ∧ keysOk [.lit u'] [.lit u] = true ∧ (∀ rs, (V.lit u) ≠ .tup rs) := ⟨⟨h, trivial⟩, rfl, fun _ h => by cases h⟩
theorem ret_int {ar : Nat → Option AE} {k : IntKind} {n n' : Int} (h : n' = n) : giveL T ar [.lit (.int k n)] [.lit (.int k n')] ∧ keysOk [.lit (.int k n')] [.lit (.int k n)] = true ∧ (∀ rs, (V.lit (.int k n)) ≠ .tup rs) := ret_lit (by rw [h])
theorem ret_bool {ar : Nat → Option AE} {n n' : Bool} (h : n' = n) : giveL T ar [.lit (.bool n)] [.lit (.bool n')] ∧ keysOk [.lit (.bool n')] [.lit (.bool n)] = true ∧ (∀ rs, (V.lit (.bool n)) ≠ .tup rs) := ret_lit (by rw [h])

theorem live_i {en : AE} {g : Nat} {K : Prop} (h1 : en.gen = g) (h2 : en.kind ≠ .dead) (hk : K) : need (en.gen = g ∧ en.kind ≠ .dead) K := need_i ⟨h1, h2⟩ hk
/-- an append to a slice of this call's own -/
theorem need_app {en : AE} {g e bytes size : Nat} {xs : List V} {K : Prop} (h1 : en.gen = g) (h2 : en.kind = .own ∨ en.kind = .ap) (h3 : en.ty = e) (hb : bytes ≤ 10000) (h5 : ∀ x ∈ xs, x.cells.length = size) (h4 : en.l.length + xs.length ≤ 1000000000) (hk : K) :
    need (en.gen = g ∧ (en.kind = .own ∨ en.kind = .ap) ∧ en.ty = e ∧ (en.l.length + xs.length) * bytes ≤ 140737488355328 ∧ en.l.length + xs.length ≤ 140737488355328 ∧ ∀ x ∈ xs, x.cells.length = size) K :=
  need_i ⟨h1, h2, h3, Nat.le_trans (Nat.mul_le_mul h4 hb) (by decide), by omega, h5⟩ hk
theorem need_nil {bytes size : Nat} {xs : List V} {K : Prop} (hb : bytes ≤ 10000) (h5 : ∀ x ∈ xs, x.cells.length = size) (h4 : xs.length ≤ 1000000000) (hk : K) :
    need (xs.length * bytes ≤ 140737488355328 ∧ xs.length ≤ 140737488355328 ∧ ∀ x ∈ xs, x.cells.length = size) K :=
  need_i ⟨Nat.le_trans (Nat.mul_le_mul h4 hb) (by decide), by omega, h5⟩ hk
theorem one_cells {x : V} {n : Nat} (h : x.cells.length = n) : ∀ y ∈ [x], y.cells.length = n := fun y hy => by cases List.mem_singleton.1 hy; exact h
theorem bytes_i {xs : List V} {K : List Int → Prop} (ns : List Int) (h : xs = ns.map (fun n => V.lit (.int .u8 n))) (hk : K ns) : bytesVC xs K := by refine ⟨?_⟩; exact ⟨ns, h, hk⟩
theorem Le.trans {σ1 σ2 σ3 : St} (h1 : Le T σ1 σ2) (h2 : Le T σ2 σ3) : Le T σ1 σ3 := by
  unfold Le at *
  intro Φ a w G inv
  obtain ⟨G1, i1⟩ := h1 Φ a w G inv
  exact h2 Φ a w G1 i1
/-- a slice of the call's own may be let be -/
theorem le_frz {k : Nat} {en : AE} (h : σ.ar k = some en) (hk : en.kind = .own ∨ en.kind = .ap) : Le T σ (σ.apps [.a k ⟨en.gen, .frz, en.ty, en.l⟩]) := by
  unfold Le
  intro Φ a w G inv
  obtain ⟨O', inv1, _, _⟩ := inv.freeze h hk
  exact ⟨_, inv1⟩
end
end Go.Ab
