/-
  Code and functions.
-/
import Derived.Test.YtbmbfifobonfjaaAbDraw
import Derived.Deep.LoopGhost
set_option linter.unusedVariables false
set_option linter.unusedSimpArgs false
namespace Go.Ab
section
variable {T : Tab} {P : Program} {Φ : Fr} {σ : St} {a : Act} {w w' : World} {G G' : Gh} {K : VK} {o : Oper} {d : Nat}

theorem opsVC_run {light : Bool} {n : Nat} {ops : List Oper} {K : St → Prop} : ∀ (l : List Oper) (σ : St), opsVC T P light n ops l σ.env σ.bx σ.ar K → Run T P light n ops l σ K := by
  intro l
  induction l with
  | nil => intro σ h; exact h
  | cons o r ih =>
    intro σ h
    have h' : opStep T P light n ops o (opsVC T P light n ops r) σ.env σ.bx σ.ar K := h
    exact (opStep_step h').mono (fun _ _ hk => oper_mono hk) (fun σ' hk => ih σ' hk)

theorem Le.out {σ σ' : St} (h : Le T σ σ') (inv : Inv T Φ σ a w G) : ∃ G', Inv T Φ σ' a w G' := by unfold Le at h; exact h Φ a w G inv

/-- what the executor's end says of the model's -/
def Lift (T : Tab) (Φ : Fr) (Q : Exit → St → Prop) (e : Exit) (a : Act) (w : World) : Prop := ∃ σ G, Q e σ ∧ Inv T Φ σ a w G

theorem code_sound (hT : TabOk T P) (hm : P.follows .mixedOrders = true) (c : Code) : ∀ (σ : St) (a : Act) (w : World) (G : Gh) (Q : Exit → St → Prop), Inv T Φ σ a w G → codeVC T P Φ.n c σ Q → c.wp P (Lift T Φ Q) a w := by
  induction c with
  | skip => intro σ a w G Q inv h; exact wp_skip ⟨σ, G, h, inv⟩
  | region id ops draw =>
    intro σ a w G Q inv h
    obtain ⟨env, bx, ar⟩ := σ
    cases draw with
    | false =>
      have h' : opsVC T P false Φ.n ops.toList ops.toList env bx ar (Q .normal) := h
      have hr := opsVC_run ops.toList ⟨env, bx, ar⟩ h'
      exact wp_region_list (run_list hT rfl (fun σ' a' w' G' hk inv' => ⟨σ', G', hk, inv'⟩) ops.toList _ a w G inv hr)
    | true =>
      have h' : drawVC env ops.toList (opsVC T P true Φ.n ops.toList ops.toList env bx ar (Q .normal)) := h
      replace h' := h'.out
      obtain ⟨cl, h0, h1, h2⟩ := h'
      have hr := opsVC_run ops.toList ⟨env, bx, ar⟩ h2
      exact draw_sound hT hm rfl h1 (good_of h0) (fun σ' a' w' G' hk inv' => ⟨σ', G', hk, inv'⟩) id inv hr
  | seq x y ihx ihy =>
    intro σ a w G Q inv h
    have h' : SeqVC T (codeVC T P Φ.n x) (codeVC T P Φ.n y) σ Q := h
    replace h' := h'.out
    refine wp_seq ?_
    rcases h' with h1 | ⟨C, h1, h2⟩
    · refine wp_mono (ihx σ a w G _ inv h1) ?_
      rintro e a' w' ⟨σ', G', hq, inv'⟩
      cases e with
      | normal => exact ihy σ' a' w' G' Q inv' hq
      | _ => exact ⟨σ', G', hq, inv'⟩
    · refine wp_mono (ihx σ a w G _ inv h1) ?_
      rintro e a' w' ⟨σ', G', hq, inv'⟩
      cases e with
      | normal =>
        obtain ⟨p, hle, hinv⟩ := hq
        obtain ⟨G2, inv2⟩ := hle.out inv'
        exact ihy _ a' w' G2 Q inv2 (h2 p hinv)
      | _ => exact ⟨σ', G', hq, inv'⟩
  | cond c x y ihx ihy =>
    intro σ a w G Q inv h
    have h' : (match σ.ev c with
      | .lit (.bool b) => branch b (codeVC T P Φ.n x σ Q) (codeVC T P Φ.n y σ Q)
      | _ => False) := h
    have he := (inv.ev c).1
    split at h'
    · rename_i b hb
      rw [hb] at he
      cases b with
      | true => exact wp_cond_true he.lit_eq (ihx σ a w G Q inv h')
      | false => exact wp_cond_false he.lit_eq (ihy σ a w G Q inv h')
    · exact h'.elim
  | block id c ih =>
    intro σ a w G Q inv h
    refine wp_block (wp_mono (ih σ a w G _ inv h) ?_)
    rintro e a' w' ⟨σ', G', hq, inv'⟩
    cases e with
    | exit i =>
      have hq' : cond (Nat.beq i id) (Q .normal σ') (Q (.exit i) σ') := hq
      show Exit.inBlock id (Lift T Φ Q) (.exit i) a' w'
      by_cases hi : i = id
      · subst hi
        have hb : Nat.beq i i = true := Nat.beq_refl i
        rw [hb] at hq'
        simp only [Exit.inBlock, if_true]
        exact ⟨σ', G', hq', inv'⟩
      · have hb : Nat.beq i id = false := by rw [← Bool.not_eq_true, Nat.beq_eq]; exact hi
        rw [hb] at hq'
        simp only [Exit.inBlock, if_neg hi]
        exact ⟨σ', G', hq', inv'⟩
    | _ => exact ⟨σ', G', hq, inv'⟩
  | loop c ih =>
    intro σ a w G Q inv h
    have h' : LoopVC T (codeVC T P Φ.n c) σ Q := h
    replace h' := h'.out
    obtain ⟨L, ⟨p0, hle0, hi0⟩, hround⟩ := h'
    obtain ⟨G0, inv0⟩ := hle0.out inv
    refine wp_loop_ghost (fun n a w => ∃ p G, L.m p = n ∧ L.inv p ∧ Inv T Φ (L.st p) a w G) (L.m p0) ⟨p0, G0, rfl, hi0, inv0⟩ ?_
    rintro n a' w' ⟨p, G1, rfl, hi, inv1⟩
    refine wp_mono (ih _ a' w' G1 _ inv1 (hround p hi)) ?_
    rintro e a2 w2 ⟨σ', G', hq, inv'⟩
    cases e with
    | normal =>
      obtain ⟨p', hle, hi', hm'⟩ := hq
      obtain ⟨G2, inv2⟩ := hle.out inv'
      exact ⟨L.m p', hm', p', G2, rfl, hi', inv2⟩
    | _ => exact ⟨σ', G', hq, inv'⟩
  | rangeFunc f ps x y ihx ihy => intro σ a w G Q inv h; exact (h : False).elim
  | exit id => intro σ a w G Q inv h; exact wp_exit ⟨σ, G, h, inv⟩
  | scope c ih => intro σ a w G Q inv h; exact (h : False).elim
  | label l => intro σ a w G Q inv h; exact (h : False).elim
  | goto l => intro σ a w G Q inv h; exact (h : False).elim
  | ret => intro σ a w G Q inv h; exact wp_ret ⟨σ, G, h, inv⟩
  | refuse s => intro σ a w G Q inv h; exact (h : False).elim

/-- what is handed over at the end, as whoever called takes it -/
theorem handover (inv : Inv T Φ σ a w G) {xs ys : List V} (hgive : giveL T σ.ar ys xs) (hko : keysOk xs ys = true) (vs : List Value) (hvs : ∀ (i : Nat) v x, vs[i]? = some v → xs[i]? = some x → Rv w G v x ∧ x.ok σ.hasB σ.hasA) :
    ∃ Gc : Gh, (∀ (j : Nat) v y, vs[j]? = some v → ys[j]? = some y → Rb T w Gc j v y) ∧ (∀ b, G.O b = .fz → Gc.O b = .fz) ∧ (∀ b i, Gc.O b ≠ .bx i) ∧ (∀ b, Gc.O b ≠ .ext → (G.O b = .fz ∧ Gc.O b = .fz) ∨ ∃ k, G.O b = .ar k) := by
  obtain ⟨hlen, hg⟩ := giveL_spec hgive
  simp only [keysOk, Bool.and_eq_true] at hko
  have hnd := nodupR_iff.1 hko.1
  have hdisj : ∀ k ∈ ownKeys ys xs, k ∉ viewKeys ys xs := fun k hk hm => by
    have := allR_iff.1 hko.2 k hk
    rw [memR_iff.2 hm] at this; simp at this
  generalize hok : ownKeys ys xs = ok at *
  generalize hvk : viewKeys ys xs = vk at *
  let pos : Nat → Nat := fun k => @dite _ (∃ j, PosOf xs ys j k) (Classical.propDecidable _) (fun h => h.choose) (fun _ => 0)
  have hpos : ∀ {j k}, PosOf xs ys j k → pos k = j := by
    intro j k hp
    have hex : ∃ j, PosOf xs ys j k := ⟨j, hp⟩
    have : pos k = hex.choose := by simp only [pos]; rw [dif_pos hex]
    rw [this]
    exact pos_unique (by rw [hok]; exact hnd) hex.choose_spec hp
  let Gc : Gh := { G with O := fun b => match G.O b with | .fz => .fz | .ar k => if k ∈ vk then .fz else if k ∈ ok then .ar (pos k) else .ext | _ => .ext }
  have c_fz : ∀ b, G.O b = .fz → Gc.O b = .fz := fun b hb => by simp only [Gc]; rw [hb]
  have c_bx : ∀ b i, G.O b = .bx i → Gc.O b = .ext := fun b i hb => by simp only [Gc]; rw [hb]
  have c_ext : ∀ b, G.O b = .ext → Gc.O b = .ext := fun b hb => by simp only [Gc]; rw [hb]
  have c_vk : ∀ b k, G.O b = .ar k → k ∈ vk → Gc.O b = .fz := fun b k hb hk => by simp only [Gc]; rw [hb]; simp [hk]
  have c_ok : ∀ b k, G.O b = .ar k → k ∈ ok → Gc.O b = .ar (pos k) := fun b k hb hk => by
    simp only [Gc]; rw [hb]
    have : k ∉ vk := hdisj k hk
    simp [hk, this]
  have hkc : Keep w w G Gc := ⟨c_fz, fun _ _ => rfl⟩
  refine ⟨Gc, ?_, c_fz, ?_, ?_⟩
  · intro j v y hv hy
    have hj : j < xs.length := by rw [hlen]; exact (List.getElem?_eq_some_iff.1 hy).1
    have hx : xs[j]? = some xs[j] := List.getElem?_eq_getElem hj
    obtain ⟨e1, e2⟩ := hvs j v _ hv hx
    refine give_sound inv hkc (hg j _ y hx hy) e1 e2 (fun hl k hk b hb => ?_) (fun hl k hk b hb => ?_)
    · exact c_vk b k hb (by rw [← hvk]; exact viewKeys_spec.2 ⟨j, _, y, hx, hy, hl, hk⟩)
    · have hkok : k ∈ ok := by rw [← hok]; exact ownKeys_spec.2 ⟨j, _, y, hx, hy, hl, hk⟩
      rw [c_ok b k hb hkok, hpos ⟨_, y, hx, hy, hl, hk⟩]
  · intro b i hb
    cases hO : G.O b with
    | ext => rw [c_ext b hO] at hb; cases hb
    | fz => rw [c_fz b hO] at hb; cases hb
    | bx j => rw [c_bx b j hO] at hb; cases hb
    | ar k =>
      by_cases h1 : k ∈ vk
      · rw [c_vk b k hO h1] at hb; cases hb
      · by_cases h2 : k ∈ ok
        · rw [c_ok b k hO h2] at hb; cases hb
        · have : Gc.O b = .ext := by simp only [Gc]; rw [hO]; simp [h1, h2]
          rw [this] at hb; cases hb
  · intro b hb
    cases hO : G.O b with
    | ext => exact absurd (c_ext b hO) hb
    | fz => exact .inl ⟨rfl, c_fz b hO⟩
    | bx j => exact absurd (c_bx b j hO) hb
    | ar k => exact .inr ⟨k, rfl⟩

/-- the results, as the model reads them -/
def oneRes (a : Act) : ResultVar → Sem Value
  | .tmp t => pure (a.tmps.getD t undef)
  | .cell b t => do loadVar t (← asAddr (a.tmps.getD b undef))

theorem res_sound (hT : TabOk T P) (inv : Inv T Φ σ a w G) : ∀ (rs : List ResultVar) (K : List V → Prop), resVC T σ rs K →
    ∃ (xs : List V) (vs : List Value), K xs ∧ vs.length = xs.length ∧ vs.length = rs.length ∧ (∀ (i : Nat) v x, vs[i]? = some v → xs[i]? = some x → Rv w G v x ∧ x.ok σ.hasB σ.hasA) ∧
      (rs.mapM (oneRes a)).run P w = .ok vs w := by
  intro rs
  induction rs with
  | nil => intro K h; exact ⟨[], [], h, rfl, rfl, fun i v x hv => by simp at hv, by simp⟩
  | cons x r ih =>
    intro K h
    have fin : ∀ (v : V) (u : Value), Rv w G u v → v.ok σ.hasB σ.hasA → (oneRes a x).run P w = .ok u w → (resVC T σ r fun vs => K (v :: vs)) →
        ∃ (xs : List V) (vs : List Value), K xs ∧ vs.length = xs.length ∧ vs.length = (x :: r).length ∧ (∀ (i : Nat) v x, vs[i]? = some v → xs[i]? = some x → Rv w G v x ∧ x.ok σ.hasB σ.hasA) ∧
          ((x :: r).mapM (oneRes a)).run P w = .ok vs w := by
      intro v u hv ho hrun hrest
      obtain ⟨xs, vs, h1, h2, h3, h4, h5⟩ := ih _ hrest
      refine ⟨v :: xs, u :: vs, h1, by simp [h2], by simp [h3], ?_, ?_⟩
      · intro i u' v' hu hv'
        cases i with
        | zero => simp at hu hv'; subst hu; subst hv'; exact ⟨hv, ho⟩
        | succ i => exact h4 i u' v' (by simpa using hu) (by simpa using hv')
      · simp only [List.mapM_cons, Sem.run_bind, hrun, Result.andThen_ok, h5, Sem.run_pure]
    cases x with
    | tmp t =>
      have h' : force (σ.env t) (fun v => resVC T σ r fun vs => K (v :: vs)) := h
      rw [force_eq] at h'
      exact fin _ _ (inv.env t) (inv.wfE t) (by simp [oneRes]) h'
    | cell b t =>
      have h' : cond (Nat.blt t (T.n t)) (loadVC (T.row t) σ (σ.env b) fun v _ => resVC T σ r fun vs => K (v :: vs)) False := h
      obtain ⟨ht, h2⟩ := cond_F h'
      obtain ⟨ad, v', v, he, hrun, hk, hv, hvo⟩ := load_run hT inv t (.tmp b) (blt ht) h2
      have he' : a.tmps.getD b undef = .pointer (some ad) := he
      exact fin v v' hv hvo (by simp only [oneRes, he', asAddr, Sem.run_bind, Sem.run_pure, Result.andThen_ok, hrun]) hk

def tupOf (vs : List Value) : Value := match vs with | [v] => v | vs => .tuple vs.toArray

theorem results_run {fn : Func} {vs : List Value} (h : (fn.results.toList.mapM (oneRes a)).run P w = .ok vs w) :
    (results fn a.tmps).run P w = .ok (tupOf vs) w := by
  have h2 : (fn.results.mapM (oneRes a)).run P w = .ok vs.toArray w := by
    rw [Array.mapM_eq_mapM_toList]
    simp only [Sem.run_map, h, Result.andThen_ok]
  have h3 : (results fn a.tmps) = (do let vs ← fn.results.mapM (oneRes a); pure (if h : vs.size = 1 then vs[0] else .tuple vs)) := by
    unfold results
    congr 1
  rw [h3]
  simp only [Sem.run_bind, h2, Result.andThen_ok, Sem.run_pure]
  congr 1
  match vs with
  | [] => rfl
  | [v] => rfl
  | v :: u :: r => simp; rfl

theorem initEnv_get : ∀ (ys : List V) (j s : Nat), initEnv ys j s = if j ≤ s then (match ys[s - j]? with | some y => cond (linear y) (.arr s 0) y | none => .tup []) else .tup [] := by
  intro ys
  induction ys with
  | nil => intro j s; show V.tup [] = _; split <;> simp
  | cons y r ih =>
    intro j s
    show cond (Nat.beq s j) (cond (linear y) (.arr j 0) y) (initEnv r (j + 1) s) = _
    by_cases e : s = j
    · subst e
      rw [show Nat.beq s s = true from Nat.beq_refl s]
      simp
    · have hb : Nat.beq s j = false := by rw [← Bool.not_eq_true, Nat.beq_eq]; exact e
      rw [hb, cond_false, ih]
      by_cases h1 : j + 1 ≤ s
      · rw [if_pos h1, if_pos (by omega)]
        rw [show s - j = (s - (j + 1)) + 1 by omega, List.getElem?_cons_succ]
      · rw [if_neg h1, if_neg (by omega)]

theorem initAr_get : ∀ (ys : List V) (j s : Nat), initAr ys j s = if j ≤ s then (match ys[s - j]? with | some (.own e l) => some ⟨0, .own, e, l⟩ | some (.ap e l) => some ⟨0, .ap, e, l⟩ | _ => none) else none := by
  intro ys
  induction ys with
  | nil => intro j s; show none = _; split <;> simp
  | cons y r ih =>
    intro j s
    show cond (Nat.beq s j) (match y with | .own e l => some (⟨0, .own, e, l⟩ : AE) | .ap e l => some ⟨0, .ap, e, l⟩ | _ => none) (initAr r (j + 1) s) = _
    by_cases e : s = j
    · subst e
      rw [show Nat.beq s s = true from Nat.beq_refl s]
      simp only [cond_true, Nat.le_refl, if_true, Nat.sub_self, List.getElem?_cons_zero]
      cases y <;> rfl
    · have hb : Nat.beq s j = false := by rw [← Bool.not_eq_true, Nat.beq_eq]; exact e
      rw [hb, cond_false, ih]
      by_cases h1 : j + 1 ≤ s
      · rw [if_pos h1, if_pos (by omega)]
        rw [show s - j = (s - (j + 1)) + 1 by omega, List.getElem?_cons_succ]
      · rw [if_neg h1, if_neg (by omega)]

/-- A FUNCTION meets its contract -/
theorem fn_sound (hT : TabOk T P) (hm : P.follows .mixedOrders = true) {f : FuncId} {fn : Func} (hf : P.funcs[f]? = some fn) (hc : callable P f = true) {ys : List V} {r : V} (hn : ys.length ≤ fn.ntmps) (h : fnVC T P fn ys r) : Spec T P f ys r := by
  refine ⟨hc, ?_⟩
  intro w G cs hcs htag hbx hargs
  unfold fnVC at h
  split at h
  · rename_i c hb
    let Φ : Fr := ⟨w, fun b => ∃ j, G.O b = .ar j, fun b => G.O b = .fz, fn.ntmps⟩
    let G0 : Gh := { G with av := fun k _ => cs.getD k undef }
    have hkeep : Keep w w G G0 := ⟨fun _ h => h, fun _ _ => rfl⟩
    have hrb : ∀ (j : Nat) y, ys[j]? = some y → Rb T w G j (cs.getD j undef) y := by
      intro j y hy
      have hj : j < cs.size := by rw [hcs]; exact (List.getElem?_eq_some_iff.1 hy).1
      exact hargs j _ y (by simp [hj]) hy
    have own1 : ∀ {j u e l}, OwnOk T w G j u e l → u.oneCell' = true := by
      intro j u e l h
      rcases h with ⟨h, _⟩ | ⟨b, cap, cur, h, _⟩ <;> (rw [h]; rfl)
    have cap1 : ∀ {u l}, Rv w G u (.cap l) → u.oneCell' = true := by
      intro u l h
      rcases h.cap_inv with ⟨h, _⟩ | ⟨ad, sz, cc, h, _⟩ <;> (rw [h]; rfl)
    have inv : Inv T Φ (initSt ys) { tmps := cs ++ Array.replicate (fn.ntmps - cs.size) undef, defers := [] } w G0 := by
      constructor
      · rfl
      · show (cs ++ Array.replicate (fn.ntmps - cs.size) undef).size = fn.ntmps
        simp; omega
      · intro s
        show Rv w G0 ((cs ++ Array.replicate (fn.ntmps - cs.size) undef).getD s undef) (initEnv ys 0 s)
        rw [initEnv_get]
        simp only [Nat.zero_le, if_true, Nat.sub_zero]
        by_cases hs : s < cs.size
        · have hv : (cs ++ Array.replicate (fn.ntmps - cs.size) undef).getD s undef = cs.getD s undef := by
            simp [Array.getElem?_append_left hs]
          have hy : ys[s]? = some ys[s] := List.getElem?_eq_getElem (by omega)
          rw [hv, hy]
          have hr := hrb s _ hy
          generalize ys[s] = y at *
          simp only
          cases hl : linear y with
          | false =>
            have : y.pure ∧ Rv w G (cs.getD s undef) y := by
              unfold Rb at hr
              split at hr
              · simp [linear] at hl
              · simp [linear] at hl
              · exact hr
            exact this.2.pure_keep hkeep this.1
          | true =>
            have h1 : (cs.getD s undef).oneCell' = true := by
              unfold Rb at hr
              split at hr
              · exact own1 hr.2.2
              · rcases hr.2.2 with q | q
                · exact own1 q
                · exact cap1 q.1
              · rename_i hno1 hno2
                rw [linear_false hno1 hno2] at hl; cases hl
            exact Rv.arr (w := w) (G := G0) s 0 h1
        · have hy : ys[s]? = none := List.getElem?_eq_none (by omega)
          rw [hy]
          have hv : (cs ++ Array.replicate (fn.ntmps - cs.size) undef).getD s undef = undef := by
            rw [Array.getD_eq_getD_getElem?, Array.getElem?_append_right (by omega)]
            by_cases h2 : s - cs.size < fn.ntmps - cs.size
            · simp [h2]
            · rw [Array.getElem?_eq_none (by simp; omega)]; rfl
          rw [hv]
          exact undef_rv w G0
      · intro s
        show (initEnv ys 0 s).ok _ _
        rw [initEnv_get]
        simp only [Nat.zero_le, if_true, Nat.sub_zero]
        cases hy : ys[s]? with
        | none => simp only [V.ok, V.okL]
        | some y =>
          simp only
          have hr := hrb s y hy
          cases hl : linear y with
          | false =>
            have : y.pure := by
              unfold Rb at hr
              split at hr
              · simp [linear] at hl
              · simp [linear] at hl
              · exact hr.1
            exact V.pure.ok this _ _
          | true =>
            simp only [cond_true, V.ok]
            have : ∃ en, initAr ys 0 s = some en ∧ 0 ≤ en.gen := by
              rw [initAr_get]
              simp only [Nat.zero_le, if_true, Nat.sub_zero, hy]
              cases y <;> simp_all [linear]
            exact this
      · intro i cs' hi
        have : (none : Option (List V)) = some cs' := hi
        cases this
      · intro i cs' hi
        have : (none : Option (List V)) = some cs' := hi
        cases this
      · intro k en hen
        have hen' : initAr ys 0 k = some en := hen
        rw [initAr_get] at hen'
        simp only [Nat.zero_le, if_true, Nat.sub_zero] at hen'
        split at hen'
        · rename_i e l hy
          cases hen'
          have hr := hrb k _ hy
          obtain ⟨q1, q2, q3⟩ := hr
          exact ⟨q1, q3.keep hkeep q2 (fun b hb => ⟨hb, rfl⟩)⟩
        · rename_i e l hy
          cases hen'
          have hr := hrb k _ hy
          obtain ⟨q1, q2, q3⟩ := hr
          refine ⟨q1, ?_⟩
          rcases q3 with q | q
          · exact .inl (q.keep hkeep q2 (fun b hb => ⟨hb, rfl⟩))
          · exact .inr ⟨q.1.pure_keep hkeep (by simp only [V.pure, V.ok]; exact q2), q.2⟩
        · cases hen'
      · intro k en hen
        have hen' : initAr ys 0 k = some en := hen
        rw [initAr_get] at hen'
        simp only [Nat.zero_le, if_true, Nat.sub_zero] at hen'
        split at hen'
        · rename_i e l hy
          cases hen'
          exact (hrb k _ hy).2.1
        · rename_i e l hy
          cases hen'
          exact (hrb k _ hy).2.1
        · cases hen'
      · exact htag
      · intro b i hb; exact absurd hb (hbx b i)
      · intro b k hb; exact .inr ⟨k, hb⟩
      · intro b hb; exact .inl hb
      · intro b hb; exact hb
      · intro b _ _; rfl
      · exact Nat.le_refl _
      · rfl
      · rfl
      · rfl
    refine calls_of_wp hf hb ?_
    refine wp_mono (code_sound (Φ := Φ) hT hm c _ _ w G0 _ inv h) ?_
    have fin : ∀ (e : Exit) (σ : St) (a' : Act) (w' : World) (G' : Gh), retVC T σ fn.results.toList r → Inv T Φ σ a' w' G' → a'.defers = [] ∧ ∃ v, (results fn a'.tmps).run P w' = .ok v w' ∧ ∃ v0 Gr, (Ending.returned v = .returned v0) ∧ Rr T w' Gr v0 r ∧
        (∀ b, G.O b = .fz → Gr.O b = .fz) ∧ (∀ b, Gr.O b ≠ .ext → b < w'.heap.size) ∧ (∀ b i, Gr.O b ≠ .bx i) ∧
        (∀ b, Gr.O b ≠ .ext → (G.O b = .fz ∧ Gr.O b = .fz) ∨ w.heap.size ≤ b ∨ ∃ j, G.O b = .ar j) ∧
        (∀ b, b < w.heap.size → (∀ j, G.O b ≠ .ar j) → w'.heap[b]? = w.heap[b]?) ∧
        w.heap.size ≤ w'.heap.size ∧ w'.os = w.os ∧ w'.tape = w.tape ∧ w'.output = w.output := by
      intro e σ a' w' G' hret inv'
      refine ⟨inv'.nd, ?_⟩
      replace hret := hret.out
      obtain ⟨xs, vs, hk, hl1, hl2, hvs, hrun⟩ := res_sound hT inv' _ _ hret
      have hres := results_run hrun
      refine ⟨tupOf vs, hres, tupOf vs, ?_⟩
      have common : ∀ (ys' : List V), giveL T σ.ar ys' xs → keysOk xs ys' = true → ∃ Gr : Gh, (∀ (j : Nat) v y, vs[j]? = some v → ys'[j]? = some y → Rb T w' Gr j v y) ∧
          (∀ b, G.O b = .fz → Gr.O b = .fz) ∧ (∀ b, Gr.O b ≠ .ext → b < w'.heap.size) ∧ (∀ b i, Gr.O b ≠ .bx i) ∧
          (∀ b, Gr.O b ≠ .ext → (G.O b = .fz ∧ Gr.O b = .fz) ∨ w.heap.size ≤ b ∨ ∃ j, G.O b = .ar j) := by
        intro ys' h1 h2
        obtain ⟨Gc, q1, q2, q3, q4⟩ := handover inv' h1 h2 vs hvs
        refine ⟨Gc, q1, fun b hb => q2 b (inv'.F0 b hb), fun b hb => inv'.tag b ?_, q3, fun b hb => ?_⟩
        · rcases q4 b hb with ⟨h, _⟩ | ⟨k, h⟩ <;> (rw [h]; simp)
        · rcases q4 b hb with ⟨h, h'⟩ | ⟨k, h⟩
          · rcases inv'.fzm b h with h2 | h2
            · exact .inl ⟨h2, h'⟩
            · exact .inr h2
          · exact .inr (inv'.mineA b k h)
      have frame : (∀ b, b < w.heap.size → (∀ j, G.O b ≠ .ar j) → w'.heap[b]? = w.heap[b]?) ∧ w.heap.size ≤ w'.heap.size ∧ w'.os = w.os ∧ w'.tape = w.tape ∧ w'.output = w.output :=
        ⟨fun b hb hj => inv'.frame b hb (fun ⟨j, h⟩ => hj j h), inv'.size, inv'.os, inv'.tape, inv'.output⟩
      split at hk
      · rename_i x
        obtain ⟨g1, g2, g3⟩ := hk
        obtain ⟨Gr, q1, q2, q3, q4, q5⟩ := common [r] g1 g2
        match vs, hl1 with
        | [v], _ =>
          refine ⟨Gr, rfl, ?_, q2, q3, q4, q5, frame⟩
          have := q1 0 v r rfl rfl
          unfold Rr
          split
          · exact absurd rfl (g3 _)
          · exact this
      · rename_i hne
        obtain ⟨ys', rfl, g1, g2⟩ := hk
        obtain ⟨Gr, q1, q2, q3, q4, q5⟩ := common ys' g1 g2
        have hlen := (giveL_spec g1).1
        refine ⟨Gr, rfl, ?_, q2, q3, q4, q5, frame⟩
        show ∃ us : Array Value, tupOf vs = .tuple us ∧ us.size = ys'.length ∧ ∀ (j : Nat) u y, us[j]? = some u → ys'[j]? = some y → Rb T w' Gr j u y
        refine ⟨vs.toArray, ?_, by simp [hl1, hlen], fun j u y hu hy => q1 j u y (by simpa using hu) hy⟩
        match vs, xs, hl1 with
        | [], _, _ => rfl
        | [v], [x], _ => exact absurd rfl (hne x)
        | v :: u :: rr, _, _ => rfl
    rintro e a' w' ⟨σ, G', hq, inv'⟩
    cases e with
    | normal => exact fin .normal σ a' w' G' hq inv'
    | ret => exact fin .ret σ a' w' G' hq inv'
    | exit id => exact (hq : False).elim
    | goto l => exact (hq : False).elim
    | panic c => exact (hq : False).elim
    | outgrown => exact (hq : False).elim
  · exact h.elim

end
end Go.Ab
