/-
  Slice expressions; structs compared; every operation.
-/
import Derived.Test.YtbmbfifobonfjaaAbOps6
set_option linter.unusedVariables false
set_option linter.unusedSimpArgs false
namespace Go.Ab
section
variable {T : Tab} {P : Program} {Φ : Fr} {σ : St} {a : Act} {w : World} {G : Gh} {K : VK} {o : Oper} {d : Nat}

theorem flat_sub {xs : List V} {sz : Nat} (hz : ∀ x ∈ xs, x.cells.length = sz) {l h : Nat} (j : Nat) {y : V} (hy : (((xs.take h).drop l).flatMap V.cells)[j]? = some y) : (xs.flatMap V.cells)[l * sz + j]? = some y := by
  have e1 : xs.take h = (xs.take h).take l ++ (xs.take h).drop l := (List.take_append_drop l _).symm
  have e2 : xs = xs.take h ++ xs.drop h := (List.take_append_drop h xs).symm
  by_cases hl : l ≤ (xs.take h).length
  · have hlen : (((xs.take h).take l).flatMap V.cells).length = l * sz := by
      rw [flat_len (sz := sz) (fun x hx => hz x (List.mem_of_mem_take (List.mem_of_mem_take hx))), List.length_take]
      congr 1; omega
    rw [e2, List.flatMap_append, e1, List.flatMap_append, List.append_assoc, List.getElem?_append_right (by omega), hlen, Nat.add_sub_cancel_left]
    rw [List.getElem?_append_left (List.getElem?_eq_some_iff.1 hy).1]
    exact hy
  · rw [List.drop_of_length_le (by omega)] at hy
    simp at hy

/-- the value of a bound -/
theorem bound_val (inv : Inv T Φ σ a w G) (x : Option Operand) (dflt : Int) {K : Int → Prop} (h : bound (x.map σ.ev) dflt K) : (x = none ∧ K dflt) ∨ ∃ y k n, x = some y ∧ a.eval y = .int k n ∧ K n := by
  unfold bound at h
  split at h
  · rename_i hx
    cases x with
    | none => exact .inl ⟨rfl, h⟩
    | some y => simp at hx
  · rename_i k n hx
    cases x with
    | none => simp at hx
    | some y =>
      simp at hx
      have := (inv.ev y).1
      rw [hx] at this
      exact .inr ⟨y, k, n, rfl, this.lit_eq, h⟩
  · exact h.elim

theorem sliceBound_run (k : IntKind) (n : Int) (y : Nat) (c : BoundsCode) (h0 : 0 ≤ n) (h1 : n ≤ y) : (Instr.sliceBound (.int k n) y c).run P w = .ok n.toNat w := by
  simp [Instr.sliceBound, asIntOf, h0, h1]

theorem bounds2_run (isS : Bool) (len cap : Nat) (lo hi : Option Value) (l hh : Int) (hl : (lo = none ∧ l = 0) ∨ ∃ k, lo = some (.int k l)) (hh2 : (hi = none ∧ hh = len) ∨ ∃ k, hi = some (.int k hh)) (h0 : 0 ≤ l) (h1 : l ≤ hh) (h2 : hh ≤ cap) :
    (Instr.sliceBounds isS len cap lo hi none).run P w = .ok (l.toNat, hh.toNat, cap) w := by
  rcases hl with ⟨rfl, rfl⟩ | ⟨k, rfl⟩
  · rcases hh2 with ⟨rfl, rfl⟩ | ⟨k', rfl⟩
    · simp [Instr.sliceBounds]
    · simp [Instr.sliceBounds, sliceBound_run k' hh cap _ (by omega) h2]
  · rcases hh2 with ⟨rfl, rfl⟩ | ⟨k', rfl⟩
    · simp [Instr.sliceBounds, sliceBound_run k l len _ h0 (by omega)]
    · simp [Instr.sliceBounds, sliceBound_run k' hh cap _ (by omega) h2, sliceBound_run k l hh.toNat _ h0 (by omega)]
theorem bounds3_run (isS : Bool) (len cap : Nat) (lo : Option Value) (l hh : Int) (k1 k2 : IntKind) (hl : (lo = none ∧ l = 0) ∨ ∃ k, lo = some (.int k l)) (h0 : 0 ≤ l) (h1 : l ≤ hh) (h2 : hh ≤ cap) :
    (Instr.sliceBounds isS len cap lo (some (.int k1 hh)) (some (.int k2 hh))).run P w = .ok (l.toNat, hh.toNat, hh.toNat) w := by
  rcases hl with ⟨rfl, rfl⟩ | ⟨k, rfl⟩
  · simp [Instr.sliceBounds, sliceBound_run k2 hh cap _ (by omega) h2, sliceBound_run k1 hh hh.toNat _ (by omega) (by omega)]
  · simp [Instr.sliceBounds, sliceBound_run k2 hh cap _ (by omega) h2, sliceBound_run k1 hh hh.toNat _ (by omega) (by omega), sliceBound_run k l hh.toNat _ h0 (by omega)]

theorem slice_sound (hT : TabOk T P) (inv : Inv T Φ σ a w G) (t : TypeId) (x : Operand) (lo hi mx : Option Operand) (ho : o.op = .slice t x lo hi mx) (ht : t < T.n t)
    (h : sliceVC T (T.row t) σ (σ.ev x) (lo.map σ.ev) (hi.map σ.ev) (mx.map σ.ev) K) : Out T Φ σ a K ((execOp a.eval o).run P w) := by
  obtain ⟨x1, x2⟩ := inv.ev x
  have opt : ∀ (z : Option Operand) (n dflt : Int), ((z = none ∧ n = dflt) ∨ ∃ y k, z = some y ∧ a.eval y = .int k n) → ((z.map a.eval = none ∧ n = dflt) ∨ ∃ k, z.map a.eval = some (.int k n)) := by
    rintro z n dflt (⟨rfl, rfl⟩ | ⟨y, k, rfl, hy⟩)
    · exact .inl ⟨rfl, rfl⟩
    · exact .inr ⟨k, by simp [hy]⟩
  unfold sliceVC at h
  split at h
  · rename_i s hkd hx
    rw [hx] at x1
    have hu := und_str (hT t ht) hkd
    split at h
    · rename_i hm
      have hmx : mx = none := by cases mx <;> simp_all
      subst hmx
      have fin : ∀ (l hh : Int), ((lo = none ∧ l = 0) ∨ ∃ y k, lo = some y ∧ a.eval y = .int k l) → ((hi = none ∧ hh = s.size) ∨ ∃ y k, hi = some y ∧ a.eval y = .int k hh) → need (0 ≤ l ∧ l ≤ hh ∧ hh ≤ s.size) (K (.lit (.string (s.extract l.toNat hh.toNat))) []) → Out T Φ σ a K ((execOp a.eval o).run P w) := by
        intro l hh hl hh2 hn
        obtain ⟨⟨q1, q2, q3⟩, hk⟩ := need_p hn
        have hb := bounds2_run (P := P) (w := w) false s.size s.size _ _ l hh (opt lo l 0 hl) (opt hi hh s.size hh2) q1 q2 q3
        refine .plain inv (v' := .string (s.extract l.toNat hh.toNat)) ?_ hk (.lit _ rfl) lit_triv
        simp only [execOp, ho, x1.lit_eq, Instr.sliceAt, Sem.run_bind, und_run hu, Result.andThen_ok, Instr.slice, Option.map_none, Option.isSome_none, Bool.false_eq_true, if_false, Sem.run_pure, hb]
      rcases bound_val inv lo 0 h with ⟨e1, h⟩ | ⟨y, k, n, e1, e2, h⟩
      · rcases bound_val inv hi _ h with ⟨f1, h⟩ | ⟨y', k', n', f1, f2, h⟩
        · exact fin 0 s.size (.inl ⟨e1, rfl⟩) (.inl ⟨f1, rfl⟩) h
        · exact fin 0 n' (.inl ⟨e1, rfl⟩) (.inr ⟨y', k', f1, f2⟩) h
      · rcases bound_val inv hi _ h with ⟨f1, h⟩ | ⟨y', k', n', f1, f2, h⟩
        · exact fin n s.size (.inr ⟨y, k, e1, e2⟩) (.inl ⟨f1, rfl⟩) h
        · exact fin n n' (.inr ⟨y, k, e1, e2⟩) (.inr ⟨y', k', f1, f2⟩) h
    · exact h.elim
  · exact h.elim
  · rename_i hkd hnot
    have hu := und_slice (hT t ht) hkd
    obtain ⟨hc, h⟩ := cond_F h
    have he := blt hc
    -- the source stays as it is
    obtain ⟨xs, h, hpx, hfz⟩ : ∃ xs, (bound (lo.map σ.ev) 0 fun l => bound (hi.map σ.ev) xs.length fun h => match mx.map σ.ev with
        | none => need (0 ≤ l ∧ l ≤ h ∧ h ≤ xs.length ∧ (l = 0 ∨ ∀ x ∈ xs, x.cells.length = (T.row (T.row t).elem).size)) (K (.sl ((xs.take h.toNat).drop l.toNat)) [])
        | some m => match hi.map σ.ev with
          | none => False
          | some _ => bound (some m) 0 fun m => need (0 ≤ l ∧ l ≤ h ∧ h ≤ xs.length ∧ m = h ∧ (l = 0 ∨ ∀ x ∈ xs, x.cells.length = (T.row (T.row t).elem).size)) (K (.cap ((xs.take h.toNat).drop l.toNat)) [])) ∧ pureL xs ∧ Rv w G (a.eval x) (.sl xs) := by
      unfold conts at h
      split at h
      · rename_i l hx
        rw [hx] at x1 x2
        simp only [V.ok] at x2
        exact ⟨l, h, x2, x1⟩
      · rename_i l hx
        rw [hx] at x1 x2
        simp only [V.ok] at x2
        exact ⟨l, h, x2, x1.cap_sl⟩
      · rename_i hx
        rw [hx] at x1
        exact ⟨[], h, by simp only [V.okL], by rw [x1.lit_eq]; exact .slN⟩
      · rename_i k g hx
        exact absurd hx (hnot k g)
      · exact h.elim
    have hsub : ∀ l hh : Nat, pureL ((xs.take hh).drop l) := fun l hh => okL_iff.2 fun y hy => okL_iff.1 hpx y (List.mem_of_mem_take (List.mem_of_mem_drop hy))
    obtain ⟨b, len, cap, hv, hlen, hbase⟩ : ∃ b len cap, a.eval x = .slice b len cap ∧ len = xs.length ∧ ((b = none ∧ len = 0 ∧ cap = 0) ∨ ∃ ad sz cc, b = some ad ∧ len ≤ cap ∧ cap ≤ maxLen ∧ (0 < len → G.O ad.block = .fz) ∧ (∀ x ∈ xs, x.cells.length = sz) ∧ At w ad cc (xs.flatMap V.cells) ∧ ∀ (j : Nat) y, (xs.flatMap V.cells)[j]? = some y → Rv w G (cc j) y) := by
      rcases hfz.sl_inv with ⟨e1, e2⟩ | ⟨ad, c, sz, cc, e1, e2, e3, e4, e5, e6, e7⟩
      · exact ⟨none, 0, 0, e1, by rw [e2]; rfl, .inl ⟨rfl, rfl, rfl⟩⟩
      · exact ⟨some ad, _, c, e1, rfl, .inr ⟨ad, sz, cc, rfl, e2, e3, e4, e5, e6, e7⟩⟩
    have hlc : len ≤ cap := by rcases hbase with ⟨_, h1, h2⟩ | ⟨_, _, _, _, h, _⟩ <;> omega
    -- what the new header points at
    have newv : ∀ (l hh m : Nat), l ≤ hh → hh ≤ len → hh ≤ m → m ≤ cap → (l = 0 ∨ ∀ x ∈ xs, x.cells.length = (T.row (T.row t).elem).size) →
        Rv w G (.slice (if m = l then b else b.map (·.add (l * (T.row (T.row t).elem).size))) (hh - l) (m - l)) (.sl ((xs.take hh).drop l)) ∧
        (m = hh → Rv w G (.slice (if m = l then b else b.map (·.add (l * (T.row (T.row t).elem).size))) (hh - l) (m - l)) (.cap ((xs.take hh).drop l))) := by
      intro l hh m q1 q2 q3 q4 q5
      have hll : ((xs.take hh).drop l).length = hh - l := by rw [List.length_drop, List.length_take]; omega
      rcases hbase with ⟨rfl, e2, e3⟩ | ⟨ad, sz, cc, rfl, e2, e3, e4, e5, e6, e7⟩
      · have hm0 : m = l := by omega
        have h0 : hh - l = 0 := by omega
        have h1 : m - l = 0 := by omega
        have hnil : (xs.take hh).drop l = [] := List.eq_nil_of_length_eq_zero (by omega)
        rw [if_pos hm0, h0, h1, hnil]
        exact ⟨.slN, fun _ => .capN⟩
      · -- the address
        obtain ⟨ad', hb', hblk, hat⟩ : ∃ ad', (if m = l then some ad else (some ad).map (·.add (l * (T.row (T.row t).elem).size))) = some ad' ∧ ad'.block = ad.block ∧ (l < hh → ad' = ad.add (l * sz)) := by
          by_cases hml : m = l
          · rw [if_pos hml]; exact ⟨ad, rfl, rfl, fun h => by omega⟩
          · rw [if_neg hml]
            refine ⟨_, rfl, add_block _ _, fun hlt => ?_⟩
            rcases q5 with rfl | q5
            · simp
            · have hx0 : xs ≠ [] := by rintro rfl; simp at hlen; omega
              obtain ⟨y, ys, rfl⟩ := List.exists_cons_of_ne_nil hx0
              rw [← q5 y (by simp), e5 y (by simp)]
        rw [hb']
        have hcell : At w ad' (fun j => cc (l * sz + j)) (((xs.take hh).drop l).flatMap V.cells) := by
          intro j y hy
          have hlt : l < hh := by
            rcases Nat.lt_or_ge l hh with h | h
            · exact h
            · rw [List.eq_nil_of_length_eq_zero (by omega : ((xs.take hh).drop l).length = 0)] at hy; simp at hy
          rw [hat hlt, add_add']
          exact e6 _ y (flat_sub e5 j hy)
        have hrel : ∀ (j : Nat) y, (((xs.take hh).drop l).flatMap V.cells)[j]? = some y → Rv w G (cc (l * sz + j)) y := fun j y hy => e7 _ y (flat_sub e5 j hy)
        have hfz' : 0 < ((xs.take hh).drop l).length → G.O ad'.block = .fz := fun h => by rw [hblk]; exact e4 (by omega)
        have hz' : ∀ x ∈ (xs.take hh).drop l, x.cells.length = sz := fun x hx => e5 x (List.mem_of_mem_take (List.mem_of_mem_drop hx))
        constructor
        · have := Rv.slS (w := w) (G := G) ad' (m - l) ((xs.take hh).drop l) sz _ (by omega) (by omega) hfz' hz' hcell hrel
          rwa [hll] at this
        · intro hmh
          have := Rv.capS (w := w) (G := G) ad' ((xs.take hh).drop l) sz _ (by omega) hfz' hz' hcell hrel
          rw [hll] at this
          rw [hmh]; exact this
    -- the run
    have run : ∀ (l hh m : Nat), (Instr.sliceBounds true len cap (lo.map a.eval) (hi.map a.eval) (mx.map a.eval)).run P w = .ok (l, hh, m) w →
        (execOp a.eval o).run P w = .ok (.value (.slice (if m = l then b else b.map (·.add (l * (T.row (T.row t).elem).size))) (hh - l) (m - l))) w := by
      intro l hh m hb
      simp only [execOp, ho, hv, Instr.sliceAt, Sem.run_bind, und_run hu, Result.andThen_ok, Instr.slice, hb, size_run' hT he, Sem.run_pure]
    have fin : ∀ (l hh : Int), ((lo = none ∧ l = 0) ∨ ∃ y k, lo = some y ∧ a.eval y = .int k l) → ((hi = none ∧ hh = xs.length) ∨ ∃ y k, hi = some y ∧ a.eval y = .int k hh) →
        (match mx.map σ.ev with
        | none => need (0 ≤ l ∧ l ≤ hh ∧ hh ≤ xs.length ∧ (l = 0 ∨ ∀ x ∈ xs, x.cells.length = (T.row (T.row t).elem).size)) (K (.sl ((xs.take hh.toNat).drop l.toNat)) [])
        | some m => match hi.map σ.ev with
          | none => False
          | some _ => bound (some m) 0 fun m => need (0 ≤ l ∧ l ≤ hh ∧ hh ≤ xs.length ∧ m = hh ∧ (l = 0 ∨ ∀ x ∈ xs, x.cells.length = (T.row (T.row t).elem).size)) (K (.cap ((xs.take hh.toNat).drop l.toNat)) [])) → Out T Φ σ a K ((execOp a.eval o).run P w) := by
      intro l hh hl hh2 hn
      cases mx with
      | none =>
        simp only [Option.map_none] at hn
        obtain ⟨⟨q1, q2, q3, q4⟩, hk⟩ := need_p hn
        have hb := bounds2_run (P := P) (w := w) true len cap _ _ l hh (opt lo l 0 hl) (opt hi hh len (by rw [hlen]; exact hh2)) q1 q2 (by omega)
        have hnv := (newv l.toNat hh.toNat cap (by omega) (by omega) (by omega) (Nat.le_refl _) (q4.imp (fun h => by rw [h]; rfl) id)).1
        exact .plain inv (run _ _ _ hb) hk hnv (by simp only [V.ok]; exact hsub _ _)
      | some my =>
        rcases hh2 with ⟨rfl, _⟩ | ⟨yh, kh, rfl, hyh⟩
        · exact hn.elim
        simp only [Option.map_some] at hn
        rcases bound_val inv (some my) 0 (by simpa using hn) with ⟨e1, _⟩ | ⟨y', k', m, e1, e2, hn⟩
        · cases e1
        · cases e1
          obtain ⟨⟨q1, q2, q3, q5, q4⟩, hk⟩ := need_p hn
          subst q5
          have hb := bounds3_run (P := P) (w := w) true len cap (lo.map a.eval) l m kh k' (opt lo l 0 hl) q1 q2 (by omega)
          rw [← hyh, ← e2] at hb
          have hnv := (newv l.toNat m.toNat m.toNat (by omega) (by omega) (Nat.le_refl _) (by omega) (q4.imp (fun h => by rw [h]; rfl) id)).2 rfl
          exact .plain inv (run _ _ _ hb) hk hnv (by simp only [V.ok]; exact hsub _ _)
    rcases bound_val inv lo 0 h with ⟨e1, h⟩ | ⟨y, k, n, e1, e2, h⟩
    · rcases bound_val inv hi _ h with ⟨f1, h⟩ | ⟨y', k', n', f1, f2, h⟩
      · exact fin 0 xs.length (.inl ⟨e1, rfl⟩) (.inl ⟨f1, rfl⟩) h
      · exact fin 0 n' (.inl ⟨e1, rfl⟩) (.inr ⟨y', k', f1, f2⟩) h
    · rcases bound_val inv hi _ h with ⟨f1, h⟩ | ⟨y', k', n', f1, f2, h⟩
      · exact fin n xs.length (.inr ⟨y, k, e1, e2⟩) (.inl ⟨f1, rfl⟩) h
      · exact fin n n' (.inr ⟨y, k, e1, e2⟩) (.inr ⟨y', k', f1, f2⟩) h
  · exact h.elim

end
end Go.Ab
