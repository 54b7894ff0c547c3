/-
  Structs compared; every operation.
-/
import Derived.Test.YtbmbfifobonfjaaAbOps7
set_option linter.unusedVariables false
set_option linter.unusedSimpArgs false
namespace Go.Ab
section
variable {T : Tab} {P : Program} {Φ : Fr} {σ : St} {a : Act} {w : World} {G : Gh} {K : VK} {o : Oper} {d : Nat}

theorem kdOf_int {u : Option TypeDesc} {k : IntKind} (h : kdOf u = .int k) : u = some (.int k) := by
  cases u with
  | none => simp [kdOf] at h
  | some dd => cases dd <;> simp [kdOf] at h; subst h; rfl
theorem kdOf_str {u : Option TypeDesc} (h : kdOf u = .str) : u = some .string := by
  cases u with
  | none => simp [kdOf] at h
  | some dd => cases dd <;> simp [kdOf] at h; rfl
theorem kdOf_bool {u : Option TypeDesc} (h : kdOf u = .bool) : u = some .bool := by
  cases u with
  | none => simp [kdOf] at h
  | some dd => cases dd <;> simp [kdOf] at h; rfl

theorem part_plain {t : TypeId} {dd : TypeDesc} (hu : P.underlying t = some dd) (ha : aggB (some dd) = false) (xs : Array Value) (off : Nat) {v : Value} (hv : xs[off]? = some v) : (part t xs off).run P w = .ok v w := by
  have : (isAgg t).run P w = .ok false w := by cases dd <;> simp_all [isAgg, und_run hu, aggB]
  simp [part, this, hv]

theorem lit_at {cs : Array Value} {xs : List V} (hl : cs.size = xs.length) (hr : ∀ (i : Nat) c x, cs[i]? = some c → xs[i]? = some x → Rv w G c x) {i : Nat} {u : Value} (h : nth xs i = some (.lit u)) : cs[i]? = some u := by
  rw [nth_eq] at h
  have hi : i < cs.size := by rw [hl]; exact (List.getElem?_eq_some_iff.1 h).1
  have := hr i cs[i] _ (by simp [hi]) h
  rw [← this.lit_eq]; simp [hi]

/-- the test of one field -/
def fieldEq (dp : Nat) (xs ys : Array Value) (f : Field) : Sem (ForInStep (Option Bool × Unit)) :=
  if f.name = "_" then pure (ForInStep.yield (none, ()))
  else do
    let u ← part f.type xs f.offset
    let v ← part f.type ys f.offset
    let b ← Op.equalIn dp f.type u v
    if b = false then pure (ForInStep.done (some false, ())) else pure (ForInStep.yield (none, ()))

theorem eqFlds_run (dp : Nat) {cs ds : Array Value} {xs ys : List V} (hl : cs.size = xs.length) (hr : ∀ (i : Nat) c x, cs[i]? = some c → xs[i]? = some x → Rv w G c x) (hl' : ds.size = ys.length) (hr' : ∀ (i : Nat) c x, ds[i]? = some c → ys[i]? = some x → Rv w G c x) :
    ∀ (l : List Field) (b : Bool), (∀ f ∈ l, f.name ≠ "_") → eqFlds (l.map (fun f => (f.offset, sizeB P f.type, kdOf (P.underlying f.type), f.type))) xs ys = some b →
      (forIn l ((none, ()) : Option Bool × Unit) fun f _ => fieldEq (dp + 1) cs ds f).run P w = .ok (if b then (none, ()) else (some false, ())) w := by
  intro l
  induction l with
  | nil =>
    intro b _ h
    have : b = true := by
      have h' : some true = some b := h
      simpa using h'.symm
    subst this
    simp
  | cons f r ih =>
    intro b hn h
    have hname := hn f (by simp)
    have h' : (match nth xs f.offset, nth ys f.offset, kdOf (P.underlying f.type) with
      | some (.lit (.int k a)), some (.lit (.int k' b)), .int _ => cond (decide (k = k')) ((eqFlds (r.map (fun f => (f.offset, sizeB P f.type, kdOf (P.underlying f.type), f.type))) xs ys).map (andB (eqB a b))) none
      | some (.lit (.string a)), some (.lit (.string b)), .str => (eqFlds (r.map (fun f => (f.offset, sizeB P f.type, kdOf (P.underlying f.type), f.type))) xs ys).map (andB (eqSB a b))
      | some (.lit (.bool a)), some (.lit (.bool b)), .bool => (eqFlds (r.map (fun f => (f.offset, sizeB P f.type, kdOf (P.underlying f.type), f.type))) xs ys).map (andB (eqBB a b))
      | _, _, _ => none) = some b := h
    have step : ∀ (u v : Value) (b1 : Bool) (dd : TypeDesc), P.underlying f.type = some dd → aggB (some dd) = false → cs[f.offset]? = some u → ds[f.offset]? = some v → (Op.equalIn (dp + 1) f.type u v).run P w = .ok b1 w →
        (eqFlds (r.map (fun f => (f.offset, sizeB P f.type, kdOf (P.underlying f.type), f.type))) xs ys).map (andB b1) = some b →
        (forIn (f :: r) ((none, ()) : Option Bool × Unit) fun f _ => fieldEq (dp + 1) cs ds f).run P w = .ok (if b then (none, ()) else (some false, ())) w := by
      intro u v b1 dd hu ha hcu hdv heq hrest
      cases hb2 : eqFlds (r.map (fun f => (f.offset, sizeB P f.type, kdOf (P.underlying f.type), f.type))) xs ys with
      | none => rw [hb2] at hrest; cases hrest
      | some b2 =>
        rw [hb2] at hrest
        have hb : b = (b1 && b2) := by simpa [andB] using hrest.symm
        have ih' := ih b2 (fun f hf => hn f (by simp [hf])) hb2
        simp only [List.forIn_cons, fieldEq, hname, if_false, Sem.run_bind, part_plain hu ha cs _ hcu, part_plain hu ha ds _ hdv, Result.andThen_ok, heq]
        cases b1 with
        | false => subst hb; simp
        | true =>
          subst hb
          simp only [Bool.true_eq_false, if_false, Sem.run_pure, Result.andThen_ok]
          exact ih'
    split at h'
    · rename_i k m k' n kk e1 e2 e3
      cases hkk : decide (k = k') with
      | false => rw [hkk] at h'; cases h'
      | true =>
        have : k = k' := by simpa using hkk
        subst this
        rw [hkk] at h'
        have hu := kdOf_int e3
        exact step _ _ (eqB m n) _ hu rfl (lit_at hl hr e1) (lit_at hl' hr' e2) (by simp [Op.equalIn, und_run hu, eqB]; exact Bool.eq_iff_iff.2 (by simp)) h'
    · rename_i m n e1 e2 e3
      have hu := kdOf_str e3
      exact step _ _ (eqSB m n) _ hu rfl (lit_at hl hr e1) (lit_at hl' hr' e2) (by simp [Op.equalIn, und_run hu, eqSB]) h'
    · rename_i m n e1 e2 e3
      have hu := kdOf_bool e3
      exact step _ _ (eqBB m n) _ hu rfl (lit_at hl hr e1) (lit_at hl' hr' e2) (by simp [Op.equalIn, und_run hu, eqBB]) h'
    · cases h'

theorem equal_struct (hT : TabOk T P) {t : TypeId} (ht : t < T.n t) (hkd : (T.row t).kd = .struct) (heq : (T.row t).eq = true) {cs ds : Array Value} {xs ys : List V} (hl : cs.size = xs.length) (hr : ∀ (i : Nat) c x, cs[i]? = some c → xs[i]? = some x → Rv w G c x) (hl' : ds.size = ys.length) (hr' : ∀ (i : Nat) c x, ds[i]? = some c → ys[i]? = some x → Rv w G c x)
    {b : Bool} (h : eqFlds (T.row t).flds xs ys = some b) : (Op.equal t (.agg cs) (.agg ds)).run P w = .ok b w := by
  obtain ⟨fs, u1, u2, u3⟩ := und_struct (hT t ht) hkd
  obtain ⟨q1, q2, q3⟩ := (hT t ht).eqs heq
  rw [u2] at h
  have hrun : ∀ dq dp, dp + 1 = dq → (Op.equalIn (dq + 1) t (.agg cs) (.agg ds)).run P w = .ok b w := by
    intro dq dp hdq
    have := eqFlds_run (P := P) dp hl hr hl' hr' fs.toList b (fun f hf => q3 fs u1 f (by simpa using hf)) h
    rw [hdq] at this
    simp only [Op.equalIn, Sem.run_bind, und_run u1, Result.andThen_ok]
    simp only [fieldEq] at this
    rw [Array.forIn_toList] at this
    simp [q1]
    rw [this]
    cases b <;> simp
  exact hrun 9999 9998 rfl

theorem agg_sound (hT : TabOk T P) (inv : Inv T Φ σ a w G) (x y : Operand) (op : BinOp) (t t' : TypeId) (ho : o.op = .binOp op t x y t') (ht : t < T.n t) (xs ys : List V) (hx : σ.ev x = .agg xs) (hy : σ.ev y = .agg ys) (h : aggVC op (T.row t) xs ys K) : Out T Φ σ a K ((execOp a.eval o).run P w) := by
  have x1 := (inv.ev x).1
  have y1 := (inv.ev y).1
  rw [hx] at x1
  rw [hy] at y1
  obtain ⟨cs, e1, e2, e3, e4⟩ := x1.agg_inv
  obtain ⟨ds, f1, f2, f3, f4⟩ := y1.agg_inv
  have hg : (T.row t).eq = true → (eqGuard op t x y (.agg cs) (.agg ds)).run P w = .ok () w := by
    intro heq
    obtain ⟨_, q2, _⟩ := (hT t ht).eqs heq
    cases op <;> simp [eqGuard, q2]
  unfold aggVC at h
  split at h
  · rename_i hkd
    obtain ⟨heq, h⟩ := need_p h
    split at h
    · rename_i b hb
      exact .plain inv (run_bin x y _ t t' ho _ _ (.bool b) e1 f1 (hg heq) (by simp [binOp, equal_struct hT ht hkd heq e2 e4 f2 f4 hb])) h (B_ok _ _ _) lit_triv
    · exact h.elim
  · rename_i hkd
    obtain ⟨heq, h⟩ := need_p h
    split at h
    · rename_i b hb
      exact .plain inv (run_bin x y _ t t' ho _ _ (.bool !b) e1 f1 (hg heq) (by simp [binOp, equal_struct hT ht hkd heq e2 e4 f2 f4 hb])) h (B_ok _ _ _) lit_triv
    · exact h.elim
  · exact h.elim

theorem bin_sound (hT : TabOk T P) (inv : Inv T Φ σ a w G) (x y : Operand) (op : BinOp) (t t' : TypeId) (ho : o.op = .binOp op t x y t') (h : binVC T op t (σ.ev x) (σ.ev y) K) : Out T Φ σ a K ((execOp a.eval o).run P w) := by
  have x1 := (inv.ev x).1
  have y1 := (inv.ev y).1
  unfold binVC at h
  split at h
  · rename_i k m k' n hx hy
    rw [hx] at x1
    rw [hy] at y1
    obtain ⟨hk, h2⟩ := cond_F h
    have : k = k' := by simpa using hk
    subst this
    exact int_sound inv x y op t t' ho k m n x1.lit_eq y1.lit_eq h2
  · rename_i m n hx hy
    rw [hx] at x1
    rw [hy] at y1
    exact str_sound inv x y op t t' ho m n x1.lit_eq y1.lit_eq h
  · rename_i m n hx hy
    rw [hx] at x1
    rw [hy] at y1
    obtain ⟨ht, h⟩ := cond_F h
    exact bool_sound hT inv x y op t t' ho m n x1.lit_eq y1.lit_eq (blt ht) h
  · rename_i xs ys hx hy
    obtain ⟨ht, h⟩ := cond_F h
    exact agg_sound hT inv x y op t t' ho (blt ht) xs ys hx hy h
  · exact h.elim

/-- EVERY OPERATION, calls of Go functions apart -/
theorem op_sound (hT : TabOk T P) (inv : Inv T Φ σ a w G) (o : Oper) (h : opVC T σ d o.op K) : Out T Φ σ a K ((execOp a.eval o).run P w) := by
  generalize ho : o.op = op at h
  unfold opVC at h
  split at h
  · exact move_sound inv _ ho h
  · exact assign_sound inv _ ho h
  · exact pick_sound inv _ _ _ ho h
  · exact un_sound inv _ _ _ ho h
  · exact bin_sound hT inv _ _ _ _ _ ho h
  · exact box_sound inv _ _ ho h
  · obtain ⟨ht, h⟩ := cond_F h; exact alloc_sound hT inv _ ho (blt ht) h
  · obtain ⟨ht, h⟩ := cond_F h; exact fieldAddr_sound hT inv _ _ _ ho (blt ht) h
  · obtain ⟨ht, h⟩ := cond_F h; exact field_sound hT inv _ _ _ ho (blt ht) h
  · obtain ⟨ht, h⟩ := cond_F h; exact load_sound hT inv _ _ ho (blt ht) h
  · obtain ⟨ht, h⟩ := cond_F h; exact store_sound hT inv _ _ _ ho (blt ht) h
  · obtain ⟨ht, h⟩ := cond_F h; exact indexAddr_sound hT inv _ _ _ ho (blt ht) h
  · obtain ⟨ht, h⟩ := cond_F h; exact index_sound hT inv _ _ _ ho (blt ht) h
  · exact extract_sound inv _ _ ho h
  · obtain ⟨ht, h⟩ := cond_F h; exact build_sound hT inv _ _ ho (blt ht) h
  · obtain ⟨ht, h⟩ := cond_F h; exact buildSlice_sound hT inv _ _ _ ho (blt ht) h
  · obtain ⟨ht, h⟩ := cond_F h; exact makeSlice_sound hT inv _ _ _ ho (blt ht) h
  · obtain ⟨ht, h⟩ := cond_F h; exact slice_sound hT inv _ _ _ _ _ ho (blt ht) h
  · exact conv_sound hT inv _ _ _ ho h
  · obtain ⟨ht, h⟩ := cond_F h
    split at h
    · rename_i hkd; exact len_sound hT inv _ _ ho (blt ht) hkd h
    · rename_i hkd; exact slen_sound hT inv _ _ ho (blt ht) hkd h
    · exact h.elim
  · obtain ⟨ht, h2⟩ := cond_F h
    simp only [Bool.and_eq_true, Nat.beq_eq] at ht
    obtain ⟨ht, rfl⟩ := ht
    exact append_sound hT inv _ _ _ ho (blt ht) h2
  · exact maxmin_sound inv .max maxI (.inl ⟨rfl, rfl⟩) _ _ ho h
  · exact maxmin_sound inv .min minI (.inr ⟨rfl, rfl⟩) _ _ ho h
  · exact h.elim

end
end Go.Ab
