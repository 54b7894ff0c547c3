/-
  The operations that look at no memory.
-/
import Derived.Test.YtbmbfifobonfjaaAbBase
set_option linter.unusedVariables false
set_option linter.unusedSimpArgs false
namespace Go.Ab
section
variable {T : Tab} {P : Program} {Φ : Fr} {σ : St} {a : Act} {w : World} {G : Gh} {K : VK} {o : Oper} {d : Nat}

theorem B_ok (b : Bool) (w : World) (G : Gh) : Rv w G (.bool b) (B b) := .lit _ rfl
theorem I_ok (k : IntKind) (n : Int) (w : World) (G : Gh) : Rv w G (.int k n) (litInt k n) := .lit _ rfl
theorem lit_triv {u : Value} {p : Nat → Prop} {q : Nat → Nat → Prop} : (V.lit u).ok p q := by simp only [V.ok]

theorem move_sound (inv : Inv T Φ σ a w G) (x : Operand) (ho : o.op = .move x) (h : force (σ.ev x) fun v => K v []) : Out T Φ σ a K ((execOp a.eval o).run P w) := by
  rw [force_eq] at h
  obtain ⟨h1, h2⟩ := inv.ev x
  exact .plain inv (by simp [execOp, ho]) h h1 h2
theorem assign_sound (inv : Inv T Φ σ a w G) (x : Operand) (ho : o.op = .assign x) (h : force (σ.ev x) fun v => K v []) : Out T Φ σ a K ((execOp a.eval o).run P w) := by
  rw [force_eq] at h
  obtain ⟨h1, h2⟩ := inv.ev x
  exact .plain inv (by simp [execOp, ho]) h h1 h2

theorem pick_sound (inv : Inv T Φ σ a w G) (c x y : Operand) (ho : o.op = .pick c x y) (h : pickVC (σ.ev c) (σ.ev x) (σ.ev y) K) : Out T Φ σ a K ((execOp a.eval o).run P w) := by
  obtain ⟨c1, _⟩ := inv.ev c
  obtain ⟨x1, x2⟩ := inv.ev x
  obtain ⟨y1, y2⟩ := inv.ev y
  unfold pickVC at h
  split at h
  · rename_i t hc
    rw [hc] at c1
    have hcv := c1.lit_eq
    cases t
    · simp only [branch, force_eq] at h
      exact .plain inv (by simp [execOp, ho, hcv, asBool]) h y1 y2
    · simp only [branch, force_eq] at h
      exact .plain inv (by simp [execOp, ho, hcv, asBool]) h x1 x2
  · exact h.elim

theorem un_sound (inv : Inv T Φ σ a w G) (u : UnOp) (t : TypeId) (x : Operand) (ho : o.op = .unOp u t x) (h : unVC u (σ.ev x) K) : Out T Φ σ a K ((execOp a.eval o).run P w) := by
  obtain ⟨x1, _⟩ := inv.ev x
  unfold unVC at h
  split at h
  · rename_i b hx
    rw [hx] at x1
    have hv := x1.lit_eq
    exact .plain inv (by simp [execOp, ho, hv, Op.unary]) h (B_ok _ _ _) lit_triv
  · rename_i k n hx
    rw [hx] at x1
    have hv := x1.lit_eq
    exact .plain inv (by simp [execOp, ho, hv, Op.unary, Op.intArith]) (arith_p h) (I_ok _ _ _ _) lit_triv
  · exact h.elim

theorem run_bin (x y : Operand) (op : BinOp) (t t' : TypeId) (ho : o.op = .binOp op t x y t') (u v r : Value) (hx : a.eval x = u) (hy : a.eval y = v)
    (hg : (eqGuard op t x y u v).run P w = .ok () w) (hr : (binOp op t u v).run P w = .ok r w) : (execOp a.eval o).run P w = .ok (.value r) w := by
  simp only [execOp, ho, hx, hy, Sem.run_bind, hg, hr, Result.andThen_ok, Sem.run_pure]

theorem guard_plain (op : BinOp) (t : TypeId) (x y : Operand) (u v : Value) (h : ∀ cs, u ≠ .agg cs) (h' : u ≠ .nilIface) : (eqGuard op t x y u v).run P w = .ok () w := by
  cases u with
  | agg cs => exact absurd rfl (h cs)
  | nilIface => exact absurd rfl h'
  | _ => cases op <;> simp [eqGuard]

theorem int_sound (inv : Inv T Φ σ a w G) (x y : Operand) (op : BinOp) (t t' : TypeId) (ho : o.op = .binOp op t x y t') (k : IntKind) (m n : Int) (hx : a.eval x = .int k m) (hy : a.eval y = .int k n)
    (h : intVC op k m n K) : Out T Φ σ a K ((execOp a.eval o).run P w) := by
  have hg : (eqGuard op t x y (.int k m) (.int k n)).run P w = .ok () w := guard_plain _ _ _ _ _ _ (by simp) (by simp)
  have fin : ∀ r : Value, r.oneCell' = true → (binOp op t (.int k m) (.int k n)).run P w = .ok r w → K (.lit r) [] → Out T Φ σ a K ((execOp a.eval o).run P w) := fun r h1 hr hk =>
    .plain inv (run_bin x y op t t' ho _ _ r hx hy hg hr) hk (.lit r h1) lit_triv
  unfold intVC at h
  split at h
  · exact fin _ rfl (by simp [binOp, Op.intArith]) (arith_p h)
  · exact fin _ rfl (by simp [binOp, Op.intArith]) (arith_p h)
  · exact fin _ rfl (by simp [binOp, Op.intArith]) (arith_p h)
  · obtain ⟨h0, h⟩ := need_p h
    exact fin _ rfl (by simp [binOp, Op.intDiv, h0]) (arith_p h)
  · obtain ⟨h0, h⟩ := need_p h
    exact fin _ rfl (by simp [binOp, Op.intDiv, h0]) h
  · exact fin _ rfl (by simp [binOp, Op.intCmp, ltB]) h
  · exact fin _ rfl (by simp [binOp, Op.intCmp, ltB]) h
  · exact fin _ rfl (by simp [binOp, Op.intCmp, leB]) h
  · exact fin _ rfl (by simp [binOp, Op.intCmp, leB]) h
  · exact fin (.bool (eqB m n)) rfl (by simp [binOp, Op.intCmp, eqB]; exact Bool.eq_iff_iff.2 (by simp)) h
  · exact fin (.bool (!eqB m n)) rfl (by simp [binOp, Op.intCmp, eqB, bne]; exact Bool.eq_iff_iff.2 (by simp)) h
  · exact h.elim

theorem str_sound (inv : Inv T Φ σ a w G) (x y : Operand) (op : BinOp) (t t' : TypeId) (ho : o.op = .binOp op t x y t') (m n : ByteArray) (hx : a.eval x = .string m) (hy : a.eval y = .string n)
    (h : strVC op m n K) : Out T Φ σ a K ((execOp a.eval o).run P w) := by
  have hg : (eqGuard op t x y (.string m) (.string n)).run P w = .ok () w := guard_plain _ _ _ _ _ _ (by simp) (by simp)
  have fin : ∀ r : Value, r.oneCell' = true → (binOp op t (.string m) (.string n)).run P w = .ok r w → K (.lit r) [] → Out T Φ σ a K ((execOp a.eval o).run P w) := fun r h1 hr hk =>
    .plain inv (run_bin x y op t t' ho _ _ r hx hy hg hr) hk (.lit r h1) lit_triv
  unfold strVC at h
  split at h
  · obtain ⟨h0, h⟩ := need_p h
    refine fin _ rfl ?_ h
    have : ¬ (IntKind.i64.max < ((m.size + n.size : Nat) : Int)) := by simp [IntKind.max, IntKind.signed, IntKind.bits]; omega
    simp only [binOp, Op.stringOp]
    rw [if_neg (by simpa using this)]
    simp
  · exact fin _ rfl (by simp [binOp, Op.stringOp, eqS]) h
  · exact fin _ rfl (by simp [binOp, Op.stringOp, eqS]) h
  · exact fin _ rfl (by simp [binOp, Op.stringOp, ltS]) h
  · exact fin (.bool (!(ltS m n || eqS m n))) rfl (by simp [binOp, Op.stringOp, ltS, eqS]) h
  · exact fin _ rfl (by simp [binOp, Op.stringOp, ltS, eqS]) h
  · exact fin _ rfl (by simp [binOp, Op.stringOp, ltS]) h
  · exact h.elim

theorem und_run {t : TypeId} {dd : TypeDesc} (h : P.underlying t = some dd) (w : World) : (underlying t).run P w = .ok dd w := run_underlying h w
theorem info_run {t : TypeId} {i : TypeInfo} (h : P.info? t = some i) (w : World) : (typeInfo t).run P w = .ok i w := by simp [typeInfo, h]
theorem size_run {t : TypeId} {i : TypeInfo} (h : P.info? t = some i) (w : World) : (sizeOf t).run P w = .ok i.size w := by simp [sizeOf, typeInfo, h]

theorem kd_bool {t : TypeId} {r : Row} (h : RowOk P t r) (hk : r.kd = .bool) : P.underlying t = some .bool := by
  obtain ⟨dd, h1, h2, _⟩ := h.und
  rw [hk] at h2
  cases dd <;> simp [kdOf] at h2
  exact h1

theorem equal_bool {t : TypeId} (hu : P.underlying t = some .bool) (m n : Bool) : (Op.equal t (.bool m) (.bool n)).run P w = .ok (m == n) w := by
  have h : ∀ dp, (Op.equalIn (dp + 1) t (.bool m) (.bool n)).run P w = .ok (m == n) w := fun dp => by simp [Op.equalIn, und_run hu]
  exact h 9999

theorem bool_sound (hT : TabOk T P) (inv : Inv T Φ σ a w G) (x y : Operand) (op : BinOp) (t t' : TypeId) (ho : o.op = .binOp op t x y t') (m n : Bool) (hx : a.eval x = .bool m) (hy : a.eval y = .bool n)
    (ht : t < T.n t) (h : boolVC op (T.row t).kd m n K) : Out T Φ σ a K ((execOp a.eval o).run P w) := by
  have hg : (eqGuard op t x y (.bool m) (.bool n)).run P w = .ok () w := guard_plain _ _ _ _ _ _ (by simp) (by simp)
  have fin : ∀ r : Value, r.oneCell' = true → (binOp op t (.bool m) (.bool n)).run P w = .ok r w → K (.lit r) [] → Out T Φ σ a K ((execOp a.eval o).run P w) := fun r h1 hr hk =>
    .plain inv (run_bin x y op t t' ho _ _ r hx hy hg hr) hk (.lit r h1) lit_triv
  unfold boolVC at h
  split at h
  · rename_i hk
    have hu := kd_bool (hT t ht) hk
    exact fin _ rfl (by simp [binOp, equal_bool hu, eqBB]) h
  · rename_i hk
    have hu := kd_bool (hT t ht) hk
    exact fin (.bool (!eqBB m n)) rfl (by simp [binOp, equal_bool hu, eqBB]) h
  · exact h.elim

theorem extract_sound (inv : Inv T Φ σ a w G) (x : Operand) (i : Nat) (ho : o.op = .extract x i) (h : extractVC (σ.ev x) i K) : Out T Φ σ a K ((execOp a.eval o).run P w) := by
  obtain ⟨x1, x2⟩ := inv.ev x
  unfold extractVC at h
  split at h
  · rename_i cs hx
    rw [hx] at x1 x2
    split at h
    · rename_i v hv
      rw [force_eq] at h
      generalize hev : a.eval x = xv at x1
      cases x1 with
      | tup vs xs hl hh =>
        have hi : i < vs.size := by rw [hl]; exact (List.getElem?_eq_some_iff.1 hv).1
        refine .plain inv (v' := vs[i]) (by simp [execOp, ho, hev, Instr.extract, hi]) h (hh i _ _ (by simp [hi]) hv) ?_
        simp only [V.ok] at x2
        exact okL_iff.1 x2 v (List.mem_of_getElem? hv)
    · exact h.elim
  · exact h.elim

theorem maxI_if (a b : Int) : maxI a b = if b > a then b else a := by unfold maxI; by_cases h : b > a <;> simp [h]
theorem minI_if (a b : Int) : minI a b = if b < a then b else a := by unfold minI; by_cases h : b < a <;> simp [h]
theorem maxmin_sound (inv : Inv T Φ σ a w G) (b : Builtin) (f : Int → Int → Int) (hb : (b = .max ∧ f = maxI) ∨ (b = .min ∧ f = minI)) (as : List Operand) (ts : Array TypeId)
    (ho : o.op = .call ⟨.builtin b, ⟨as⟩, ts⟩) (h : maxminVC f (mapR σ.ev as) K) : Out T Φ σ a K ((execOp a.eval o).run P w) := by
  rw [mapR_eq] at h
  unfold maxminVC at h
  split at h
  · rename_i k m k' n hx
    rcases as with _ | ⟨x, _ | ⟨y, _ | ⟨z, as⟩⟩⟩ <;> try (simp at hx; done)
    · simp only [List.map_cons, List.map_nil, List.cons.injEq, and_true] at hx
      obtain ⟨x1, _⟩ := inv.ev x
      obtain ⟨y1, _⟩ := inv.ev y
      rw [hx.1] at x1
      rw [hx.2] at y1
      have hxv := x1.lit_eq
      have hyv := y1.lit_eq
      rcases hb with ⟨rfl, rfl⟩ | ⟨rfl, rfl⟩
      · exact .plain inv (by simp [execOp, ho, resolve, invoke, builtin, hxv, hyv, Builtin.max_, Builtin.max2, maxI_if]) h (I_ok _ _ _ _) lit_triv
      · exact .plain inv (by simp [execOp, ho, resolve, invoke, builtin, hxv, hyv, Builtin.min_, Builtin.min2, minI_if]) h (I_ok _ _ _ _) lit_triv
  · rename_i k m k' n k'' q hx
    rcases as with _ | ⟨x, _ | ⟨y, _ | ⟨z, _ | ⟨z', as⟩⟩⟩⟩ <;> try (simp at hx; done)
    · simp only [List.map_cons, List.map_nil, List.cons.injEq, and_true] at hx
      obtain ⟨x1, _⟩ := inv.ev x
      obtain ⟨y1, _⟩ := inv.ev y
      obtain ⟨z1, _⟩ := inv.ev z
      rw [hx.1] at x1
      rw [hx.2.1] at y1
      rw [hx.2.2] at z1
      have hxv := x1.lit_eq
      have hyv := y1.lit_eq
      have hzv := z1.lit_eq
      rcases hb with ⟨rfl, rfl⟩ | ⟨rfl, rfl⟩
      · exact .plain inv (by simp [execOp, ho, resolve, invoke, builtin, hxv, hyv, hzv, Builtin.max_, Builtin.max2, maxI_if]) h (I_ok _ _ _ _) lit_triv
      · exact .plain inv (by simp [execOp, ho, resolve, invoke, builtin, hxv, hyv, hzv, Builtin.min_, Builtin.min2, minI_if]) h (I_ok _ _ _ _) lit_triv
  · exact h.elim

end
end Go.Ab
