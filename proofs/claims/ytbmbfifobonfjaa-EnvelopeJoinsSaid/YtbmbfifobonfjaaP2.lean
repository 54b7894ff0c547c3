/-
  Tops, wastes, raising and placing, by columns.
-/
import Derived.Test.YtbmbfifobonfjaaP1
set_option linter.unusedVariables false
set_option linter.unusedSimpArgs false
namespace Go.Proofs.Env41

def maxR (f : Int → Int) (a : Int) : Nat → Int
  | 0 => 0
  | n + 1 => max (maxR f a n) (f (a + n))
def sumR (f : Int → Int) (a : Int) : Nat → Int
  | 0 => 0
  | n + 1 => sumR f a n + f (a + n)

theorem maxR_congr {f g : Int → Int} {a : Int} {n : Nat} (h : ∀ z, a ≤ z → z < a + n → f z = g z) : maxR f a n = maxR g a n := by
  induction n with
  | zero => rfl
  | succ n ih => rw [maxR, maxR, ih (fun z h1 h2 => h z h1 (by omega)), h (a + n) (by omega) (by omega)]
theorem sumR_congr {f g : Int → Int} {a : Int} {n : Nat} (h : ∀ z, a ≤ z → z < a + n → f z = g z) : sumR f a n = sumR g a n := by
  induction n with
  | zero => rfl
  | succ n ih => rw [sumR, sumR, ih (fun z h1 h2 => h z h1 (by omega)), h (a + n) (by omega) (by omega)]
theorem maxR_nn (f : Int → Int) (a : Int) (n : Nat) : 0 ≤ maxR f a n := by
  induction n with
  | zero => exact Int.le_refl _
  | succ n ih => rw [maxR]; omega
theorem maxR_le {f : Int → Int} {a b : Int} {n : Nat} (hb : 0 ≤ b) (h : ∀ z, a ≤ z → z < a + n → f z ≤ b) : maxR f a n ≤ b := by
  induction n with
  | zero => exact hb
  | succ n ih => rw [maxR]; have := ih (fun z h1 h2 => h z h1 (by omega)); have := h (a + n) (by omega) (by omega); omega
theorem le_maxR {f : Int → Int} {a z : Int} {n : Nat} (h1 : a ≤ z) (h2 : z < a + n) : f z ≤ maxR f a n := by
  induction n with
  | zero => omega
  | succ n ih =>
    rw [maxR]
    rcases Int.lt_or_le z (a + n) with h | h
    · have := ih h; omega
    · have : z = a + n := by omega
      subst this; omega
theorem maxR_att {f : Int → Int} {a : Int} : ∀ {n : Nat}, maxR f a n = 0 ∨ ∃ z, a ≤ z ∧ z < a + n ∧ f z = maxR f a n
  | 0 => .inl rfl
  | n + 1 => by
    rw [maxR]
    rcases Int.le_total (maxR f a n) (f (a + n)) with h | h
    · exact .inr ⟨a + n, by omega, by omega, by omega⟩
    · rw [Int.max_eq_left h]
      rcases maxR_att (f := f) (a := a) (n := n) with h2 | ⟨z, h1, h2, h3⟩
      · exact .inl h2
      · exact .inr ⟨z, h1, by omega, h3⟩
theorem maxR_const {f : Int → Int} {a c : Int} {n m : Nat} (hm : 0 < m) (h : ∀ z, a + n ≤ z → z < a + n + m → f z = c) : maxR f a (n + m) = max (maxR f a n) c := by
  induction m with
  | zero => omega
  | succ m ih =>
    have e : maxR f a (n + (m + 1)) = max (maxR f a (n + m)) (f (a + (n + m : Nat))) := rfl
    rw [e, h (a + (n + m : Nat)) (by omega) (by omega)]
    rcases Nat.eq_zero_or_pos m with rfl | hp
    · rfl
    · rw [ih hp (fun z h1 h2 => h z h1 (by omega))]; omega
theorem sumR_const {f : Int → Int} {a c : Int} {n m : Nat} (h : ∀ z, a + n ≤ z → z < a + n + m → f z = c) : sumR f a (n + m) = sumR f a n + m * c := by
  induction m with
  | zero => simp
  | succ m ih =>
    have e : sumR f a (n + (m + 1)) = sumR f a (n + m) + f (a + (n + m : Nat)) := rfl
    rw [e, h (a + (n + m : Nat)) (by omega) (by omega), ih (fun z h1 h2 => h z h1 (by omega))]
    have : ((m + 1 : Nat) : Int) * c = m * c + c := by rw [Int.natCast_add, Int.add_mul]; simp
    rw [this]; omega
theorem sumR_bd {f : Int → Int} {a b : Int} {n : Nat} (h : ∀ z, a ≤ z → z < a + n → 0 ≤ f z ∧ f z ≤ b) : 0 ≤ sumR f a n ∧ sumR f a n ≤ n * b := by
  induction n with
  | zero => simp [sumR]
  | succ n ih =>
    rw [sumR]
    have h1 := ih (fun z h1 h2 => h z h1 (by omega))
    have h2 := h (a + n) (by omega) (by omega)
    have : ((n + 1 : Nat) : Int) * b = n * b + b := by rw [Int.natCast_add, Int.add_mul]; simp
    rw [this]; omega

/-! ### ranges of an envelope -/
def topP (l : Steps) (x w : Int) : Int := maxR (colF l) x w.toNat
def wasteP (l : Steps) (x w : Int) : Int := sumR (fun z => topP l x w - colF l z) x w.toNat
theorem topP_bd {W : Int} {l : Steps} (h : Val W l) {x w : Int} (h0 : 0 ≤ x) (h1 : x + w ≤ W) : 0 ≤ topP l x w ∧ topP l x w ≤ 1000000 :=
  ⟨maxR_nn _ _ _, maxR_le (by omega) (fun z hz1 hz2 => (h.col (by omega) (by omega)).2)⟩
theorem wasteP_bd {W : Int} {l : Steps} (h : Val W l) {x w : Int} (h0 : 0 ≤ x) (hw : 0 ≤ w) (h1 : x + w ≤ W) : 0 ≤ wasteP l x w ∧ wasteP l x w ≤ 2000000000 := by
  have := sumR_bd (f := fun z => topP l x w - colF l z) (a := x) (b := 1000000) (n := w.toNat) (fun z hz1 hz2 => by
    have := h.col (x := z) (by omega) (by omega)
    have h2 := topP_bd h h0 h1
    have h3 : colF l z ≤ topP l x w := le_maxR hz1 hz2
    show 0 ≤ topP l x w - colF l z ∧ topP l x w - colF l z ≤ 1000000
    omega)
  refine ⟨this.1, Int.le_trans this.2 ?_⟩
  have h2 := h.2.1
  have : (w.toNat : Int) * 1000000 ≤ 2000 * 1000000 := Int.mul_le_mul_of_nonneg_right (by omega) (by omega)
  omega

/-- how many columns of the range from x lie ahead of step i -/
def aheadP (W : Int) (l : Steps) (x w : Int) (i : Nat) : Nat := (min (begP W l i) (x + w) - x).toNat
theorem ahead_step {W : Int} {l : Steps} (h : Val W l) {x w : Int} {i : Nat} (hx : 0 ≤ x) (hw : 1 ≤ w) (hW : x + w ≤ W) (hi : i < l.length) (h1 : begP W l i < x + w) (h2 : x < endP W l i) :
    aheadP W l x w (i + 1) = aheadP W l x w i + (min (endP W l i) (x + w) - max (begP W l i) x).toNat ∧ 0 < (min (endP W l i) (x + w) - max (begP W l i) x).toNat := by
  have := begP_lt h hi
  unfold aheadP
  rw [← endP_beg]
  omega
theorem ahead_cols {W : Int} {l : Steps} (h : Val W l) {x w : Int} {i : Nat} {s : Int × Int} (hx : 0 ≤ x) (hs : l[i]? = some s) (h1 : begP W l i < x + w) (h2 : x < endP W l i)
    (z : Int) (hz1 : x + aheadP W l x w i ≤ z) (hz2 : z < x + aheadP W l x w i + (min (endP W l i) (x + w) - max (begP W l i) x).toNat) : colF l z = s.2 := by
  have hi := (List.getElem?_eq_some_iff.1 hs).1
  have := begP_lt h hi
  have hb := begP_some (W := W) hs
  unfold aheadP at hz1 hz2
  exact col_step h hs (by omega) (by omega)
theorem top_step {W : Int} {l : Steps} (h : Val W l) {x w : Int} {i : Nat} {s : Int × Int} (hx : 0 ≤ x) (hw : 1 ≤ w) (hW : x + w ≤ W) (hs : l[i]? = some s) (h1 : s.1 < x + w) (h2 : x < endP W l i) :
    maxR (colF l) x (aheadP W l x w (i + 1)) = max (maxR (colF l) x (aheadP W l x w i)) s.2 := by
  have hi := (List.getElem?_eq_some_iff.1 hs).1
  have hb := begP_some (W := W) hs
  obtain ⟨e, hp⟩ := ahead_step h hx hw hW hi (by omega) h2
  rw [e]
  exact maxR_const hp (fun z hz1 hz2 => ahead_cols h hx hs (by omega) h2 z hz1 hz2)
theorem waste_step {W : Int} {l : Steps} (h : Val W l) {x w t : Int} {i : Nat} {s : Int × Int} (hx : 0 ≤ x) (hw : 1 ≤ w) (hW : x + w ≤ W) (hs : l[i]? = some s) (h1 : s.1 < x + w) (h2 : x < endP W l i) :
    sumR (fun z => t - colF l z) x (aheadP W l x w (i + 1)) = sumR (fun z => t - colF l z) x (aheadP W l x w i) + (min (endP W l i) (x + w) - max s.1 x) * (t - s.2) := by
  have hi := (List.getElem?_eq_some_iff.1 hs).1
  have hb := begP_some (W := W) hs
  obtain ⟨e, hp⟩ := ahead_step h hx hw hW hi (by omega) h2
  rw [e, sumR_const (c := t - s.2) (fun z hz1 hz2 => by rw [ahead_cols h hx hs (by omega) h2 z hz1 hz2])]
  have : (((min (endP W l i) (x + w) - max (begP W l i) x).toNat : Nat) : Int) = min (endP W l i) (x + w) - max s.1 x := by omega
  rw [this]
theorem ahead_zero {W : Int} {l : Steps} {x w : Int} {i : Nat} (h1 : begP W l i ≤ x) : aheadP W l x w i = 0 := by unfold aheadP; omega
theorem ahead_all {W : Int} {l : Steps} {x w : Int} {i : Nat} (hW : x + w ≤ W) (h1 : i < l.length → x + w ≤ begP W l i) : aheadP W l x w i = w.toNat := by
  unfold aheadP
  rcases Nat.lt_or_ge i l.length with h | h
  · have := h1 h; omega
  · rw [begP_end h]; omega

/-! ### raising -/
def setF (f : Int → Int) (x w y : Int) : Int → Int := fun z => if x ≤ z ∧ z < x + w then y else f z
def raiseP (W : Int) (l : Steps) (x w y : Int) : Steps := ofP (setF (colF l) x w y) W.toNat

theorem raise_head {W : Int} {l : Steps} (h : Val W l) {x w y : Int} {k : Nat} (hx : 0 ≤ x) (hk : k ≤ l.length) (h1 : ∀ i, i + 1 = k → begP W l i < x) (h2 : x ≤ begP W l k) :
    l.take k = ofP (setF (colF l) x w y) x.toNat := by
  rw [take_ofP h (n := x.toNat) hk (fun e => by subst e; rw [h.beg0] at h2; omega) (fun i hi => by have := h1 i hi; omega) (by omega)]
  exact ofP_congr (fun z hz1 hz2 => by unfold setF; rw [if_neg (by omega)])
theorem raise_all {W : Int} {l : Steps} (h : Val W l) {x w y : Int} {k : Nat} (hx : 0 ≤ x) (hw : 1 ≤ w) (hW : x + w = W) (hk : k ≤ l.length) (h1 : ∀ i, i + 1 = k → begP W l i < x) (h2 : x ≤ begP W l k) :
    addP (l.take k) (x, y) = raiseP W l x w y := by
  rw [raise_head (w := w) (y := y) h hx hk h1 h2]
  refine fold_ofP (setF (colF l) x w y) [(x, y)] x.toNat W.toNat (List.pairwise_singleton _ _) ⟨y, [], by congr 2; omega⟩ (fun t ht => ?_) (fun z hz1 hz2 => ?_)
  · cases List.mem_singleton.1 ht; show x < _; omega
  · unfold setF
    rw [if_pos (by omega), colF, colG_cons, if_pos (by show x ≤ z; omega)]; rfl
theorem raise_part {W : Int} {l : Steps} (h : Val W l) {x w y : Int} {k i : Nat} {s : Int × Int} (hx : 0 ≤ x) (hw : 1 ≤ w) (hW : x + w < W) (hk : k ≤ l.length) (h1 : ∀ i, i + 1 = k → begP W l i < x) (h2 : x ≤ begP W l k)
    (hs : l[i]? = some s) (h3 : s.1 ≤ x + w) (h4 : x + w < endP W l i) :
    (l.drop (i + 1)).foldl addP (addP (addP (l.take k) (x, y)) (x + w, s.2)) = raiseP W l x w y := by
  rw [raise_head (w := w) (y := y) h hx hk h1 h2]
  have hi := (List.getElem?_eq_some_iff.1 hs).1
  have hd : ∀ t ∈ l.drop (i + 1), x + w < t.1 ∧ t.1 < W := by
    intro t ht
    obtain ⟨j, hj, rfl⟩ := List.getElem_of_mem ht
    rw [List.getElem_drop]
    have hlen : i + 1 + j < l.length := by rw [List.length_drop] at hj; omega
    have hti : l[i + 1 + j]? = some l[i + 1 + j] := by simp
    have := begP_mono h (i := i + 1) (j := i + 1 + j) (by omega)
    rw [begP_some hti, ← endP_beg] at this
    exact ⟨by omega, (h.2.2.2 _ _ hti).1⟩
  have hasc : Asc (l.drop (i + 1)) := h.asc.sublist (List.drop_sublist _ _)
  refine fold_ofP (setF (colF l) x w y) ((x, y) :: (x + w, s.2) :: l.drop (i + 1)) x.toNat W.toNat ?_ ⟨y, _, by congr 2; omega⟩ (fun t ht => ?_) (fun z hz1 hz2 => ?_)
  · refine List.pairwise_cons.2 ⟨fun t ht => ?_, List.pairwise_cons.2 ⟨fun t ht => (hd t ht).1, hasc⟩⟩
    rcases List.mem_cons.1 ht with rfl | ht
    · show x < x + w; omega
    · have := (hd t ht).1; show x < t.1; omega
  · rcases List.mem_cons.1 ht with rfl | ht
    · show x < _; omega
    · rcases List.mem_cons.1 ht with rfl | ht
      · show x + w < _; omega
      · have := (hd t ht).2; omega
  · have e1 : (x, y).1 ≤ z := by show x ≤ z; omega
    rw [colF, colG_cons, if_pos e1, colG_cons]
    unfold setF
    rcases Int.lt_or_le z (x + w) with hz | hz
    · rw [if_pos (by omega), if_neg (by show ¬ x + w ≤ z; omega), colG_gt (fun t ht => by have := (hd t ht).1; omega)]
    · rw [if_neg (by omega), if_pos (by show x + w ≤ z; omega)]
      conv => lhs; rw [split_at hs]
      rw [colF, colG_append, colG_cons, if_pos (by omega)]
theorem setF_bd {W : Int} {l : Steps} (h : Val W l) {x w y : Int} (h0 : 0 ≤ y) (h1 : y ≤ 1000000) (z : Int) (hz : 0 ≤ z) (hz2 : z < W) : 0 ≤ setF (colF l) x w y z ∧ setF (colF l) x w y z ≤ 1000000 := by
  unfold setF
  split
  · exact ⟨h0, h1⟩
  · exact h.col hz hz2
theorem raise_val {W : Int} {l : Steps} (h : Val W l) {x w y : Int} (h0 : 0 ≤ y) (h1 : y ≤ 1000000) : Val W (raiseP W l x w y) := val_ofP h.1 h.2.1 (setF_bd h h0 h1)
theorem raise_col {W : Int} {l : Steps} {x w y z : Int} (hz : 0 ≤ z) (hz2 : z < W) : colF (raiseP W l x w y) z = setF (colF l) x w y z := colF_ofP' _ hz (by omega)

/-! ### placing -/
/-- the leftmost least place of g in 0 .. n -/
def argm (g : Int → Int) : Nat → Int
  | 0 => 0
  | n + 1 => if g ((n : Int) + 1) < g (argm g n) then (n : Int) + 1 else argm g n
theorem argm_bd (g : Int → Int) (n : Nat) : 0 ≤ argm g n ∧ argm g n ≤ n := by
  induction n with
  | zero => simp [argm]
  | succ n ih => rw [argm]; split <;> omega
theorem argm_le (g : Int → Int) (n : Nat) (z : Int) (h0 : 0 ≤ z) (h1 : z ≤ n) : g (argm g n) ≤ g z ∧ (z < argm g n → g (argm g n) < g z) := by
  induction n with
  | zero => have : z = 0 := by omega
            subst this; simp [argm]
  | succ n ih =>
    have hb := argm_bd g n
    rw [argm]
    split
    · rename_i h
      rcases Int.lt_or_le n z with h2 | h2
      · have : z = n + 1 := by omega
        subst this; exact ⟨Int.le_refl _, fun h => by omega⟩
      · have := ih (by omega); exact ⟨by omega, fun _ => by omega⟩
    · rename_i h
      rcases Int.lt_or_le n z with h2 | h2
      · have : z = n + 1 := by omega
        subst this; exact ⟨by omega, fun h => by omega⟩
      · exact ih (by omega)
/-- where g does not fall, the least place stays -/
theorem argm_stay {g : Int → Int} {a n : Nat} (han : a ≤ n) (h : ∀ z : Int, a < z → z ≤ n → g (z - 1) ≤ g z) : argm g n = argm g a := by
  induction n with
  | zero => have : a = 0 := by omega
            subst this; rfl
  | succ n ih =>
    rcases Nat.lt_or_ge n a with h1 | h1
    · have : a = n + 1 := by omega
      subst this; rfl
    · rw [argm, if_neg, ih h1 (fun z h2 h3 => h z h2 (by omega))]
      have h2 := h (n + 1) (by omega) (by omega)
      have h3 := (argm_le g n n (by omega) (by omega)).1
      have e : (n : Int) + 1 - 1 = n := by omega
      rw [e] at h2
      omega
theorem top_stay {l : Steps} {w z : Int} (hw : 1 ≤ w) (h : colF l (z - 1) = colF l z) : topP l (z - 1) w ≤ topP l z w := by
  refine maxR_le (maxR_nn _ _ _) (fun q h1 h2 => ?_)
  rcases Int.lt_or_le q z with h3 | h3
  · have : q = z - 1 := by omega
    subst this; rw [h]; exact le_maxR (by omega) (by omega)
  · exact le_maxR h3 (by omega)
/-- the best place does not change within a step -/
theorem best_stay {W : Int} {l : Steps} (h : Val W l) {w : Int} {i : Nat} {s : Int × Int} (hw : 1 ≤ w) (hs : l[i]? = some s) {n : Nat} (h1 : s.1 ≤ n) (h2 : (n : Int) < endP W l i) :
    argm (fun z => topP l z w) n = argm (fun z => topP l z w) s.1.toNat := by
  have hn := begP_nn h i
  rw [begP_some hs] at hn
  refine argm_stay (by omega) (fun z hz1 hz2 => top_stay hw ?_)
  rw [col_step h hs (x := z) (by omega) (by omega), col_step h hs (x := z - 1) (by omega) (by omega)]
end Go.Proofs.Env41
