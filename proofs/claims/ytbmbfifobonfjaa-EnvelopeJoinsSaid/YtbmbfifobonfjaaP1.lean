/-
  Envelopes as plain lists of steps: heights of columns, and the steps of given heights.
-/
set_option linter.unusedVariables false
set_option linter.unusedSimpArgs false
namespace Go.Proofs.Env41

abbrev Steps := List (Int × Int)

def colG (d : Int) (l : Steps) (x : Int) : Int := l.foldl (fun h s => if s.1 ≤ x then s.2 else h) d
def colF (l : Steps) (x : Int) : Int := colG 0 l x
def ofP (h : Int → Int) : Nat → Steps
  | 0 => []
  | n + 1 => if n = 0 ∨ h (n : Int) ≠ h ((n : Int) - 1) then ofP h n ++ [((n : Int), h n)] else ofP h n
def addP (l : Steps) (s : Int × Int) : Steps :=
  match l.getLast? with
  | some t => if t.2 = s.2 then l else l ++ [s]
  | none => l ++ [s]
def Asc (l : Steps) : Prop := l.Pairwise (fun a b => a.1 < b.1)

theorem colG_nil (d x : Int) : colG d [] x = d := rfl
theorem colG_cons (d : Int) (s : Int × Int) (l : Steps) (x : Int) : colG d (s :: l) x = colG (if s.1 ≤ x then s.2 else d) l x := rfl
theorem colG_append (d : Int) (l m : Steps) (x : Int) : colG d (l ++ m) x = colG (colG d l x) m x := by simp [colG, List.foldl_append]
theorem colG_gt {d : Int} {l : Steps} {x : Int} (h : ∀ t ∈ l, x < t.1) : colG d l x = d := by
  induction l generalizing d with
  | nil => rfl
  | cons s l ih =>
    rw [colG_cons, if_neg (by have := h s (by simp); omega)]
    exact ih (fun t ht => h t (by simp [ht]))
theorem colG_head {d d' : Int} {s : Int × Int} {l : Steps} {x : Int} (h : s.1 ≤ x) : colG d (s :: l) x = colG d' (s :: l) x := by
  rw [colG_cons, colG_cons, if_pos h, if_pos h]

theorem split_at {l : Steps} {i : Nat} {s : Int × Int} (h : l[i]? = some s) : l = l.take i ++ s :: l.drop (i + 1) := by
  obtain ⟨hi, rfl⟩ := List.getElem?_eq_some_iff.1 h
  simp
theorem asc_lt {l : Steps} (ha : Asc l) {i j : Nat} {s t : Int × Int} (hi : l[i]? = some s) (hj : l[j]? = some t) (hij : i < j) : s.1 < t.1 := by
  obtain ⟨hi', rfl⟩ := List.getElem?_eq_some_iff.1 hi
  obtain ⟨hj', rfl⟩ := List.getElem?_eq_some_iff.1 hj
  exact List.pairwise_iff_getElem.1 ha i j hi' hj' hij
theorem colF_at {l : Steps} (ha : Asc l) {i : Nat} {s : Int × Int} {x : Int} (h : l[i]? = some s) (h1 : s.1 ≤ x) (h2 : ∀ t, l[i + 1]? = some t → x < t.1) : colF l x = s.2 := by
  unfold colF
  conv => lhs; rw [split_at h]
  rw [colG_append, colG_cons, if_pos h1]
  refine colG_gt (fun t ht => ?_)
  obtain ⟨k, hk, rfl⟩ := List.getElem_of_mem ht
  rw [List.getElem_drop]
  have hk' : i + 1 + k < l.length := by rw [List.length_drop] at hk; omega
  have h0 : l[i + 1]? = some l[i + 1] := by simp
  have := h2 _ h0
  rcases Nat.eq_zero_or_pos k with rfl | hp
  · exact this
  · exact Int.lt_trans this (List.pairwise_iff_getElem.1 ha (i + 1) (i + 1 + k) (by omega) hk' (by omega))

theorem ofP_succ (h : Int → Int) (n : Nat) : ofP h (n + 1) = if n = 0 ∨ h (n : Int) ≠ h ((n : Int) - 1) then ofP h n ++ [((n : Int), h n)] else ofP h n := rfl
theorem ofP_congr {h g : Int → Int} : ∀ {n : Nat}, (∀ z : Int, 0 ≤ z → z < n → h z = g z) → ofP h n = ofP g n
  | 0, _ => rfl
  | n + 1, hz => by
    rw [ofP_succ, ofP_succ, ofP_congr (n := n) (fun z h0 h1 => hz z h0 (by omega))]
    rcases Nat.eq_zero_or_pos n with rfl | hp
    · simp [hz 0 (by omega) (by omega)]
    · rw [hz n (by omega) (by omega), hz (n - 1) (by omega) (by omega)]
theorem ofP_last (h : Int → Int) : ∀ {n : Nat}, 0 < n → ∃ a, (ofP h n).getLast? = some (a, h ((n : Int) - 1))
  | n + 1, _ => by
    rw [ofP_succ]
    split
    · exact ⟨n, by simp⟩
    · rename_i hn
      simp only [not_or, Decidable.not_not] at hn
      obtain ⟨a, ha⟩ := ofP_last h (n := n) (by omega)
      refine ⟨a, ?_⟩
      rw [ha]
      have : ((n + 1 : Nat) : Int) - 1 = n := by omega
      rw [this, hn.2]
theorem add_ofP (h : Int → Int) (n : Nat) : addP (ofP h n) ((n : Int), h n) = ofP h (n + 1) := by
  rw [ofP_succ]
  rcases Nat.eq_zero_or_pos n with rfl | hp
  · simp [ofP, addP]
  · obtain ⟨a, ha⟩ := ofP_last h hp
    simp only [addP, ha]
    by_cases e : h ((n : Int) - 1) = h n
    · rw [if_pos e, if_neg (by simp [e]; omega)]
    · rw [if_neg e, if_pos (.inr (fun h => e h.symm))]
theorem ofP_const {h : Int → Int} {a n : Nat} (ha : 0 < a) (hn : a ≤ n) (hc : ∀ z : Int, a ≤ z → z < n → h z = h ((a : Int) - 1)) : ofP h n = ofP h a := by
  induction n with
  | zero => omega
  | succ n ih =>
    rcases Nat.lt_or_ge n a with hl | hl
    · have : n + 1 = a := by omega
      rw [this]
    · rw [ofP_succ, if_neg, ih hl (fun z h1 h2 => hc z h1 (by omega))]
      simp only [not_or, Decidable.not_not]
      refine ⟨by omega, ?_⟩
      rw [hc n (by omega) (by omega)]
      rcases Nat.lt_or_ge n (a + 1) with h3 | h3
      · have : n = a := by omega
        rw [this]
      · rw [hc ((n : Int) - 1) (by omega) (by omega)]

theorem fold_ofP (h : Int → Int) : ∀ (s : Steps) (a n : Nat), Asc s → (∃ b r, s = ((a : Int), b) :: r) → (∀ t ∈ s, t.1 < n) → (∀ z : Int, a ≤ z → z < n → h z = colF s z) → s.foldl addP (ofP h a) = ofP h n := by
  intro s
  induction s with
  | nil => rintro a n - ⟨b, r, h⟩ - -; cases h
  | cons p s ih =>
    rintro a n hasc ⟨b, r, hs⟩ hlt hz
    cases hs
    have han : (a : Int) < n := hlt ((a : Int), b) (by simp)
    have ha : h a = b ∧ ∀ z : Int, a ≤ z → z < n → (∀ t ∈ s, z < t.1) → h z = b := by
      have key : ∀ z : Int, a ≤ z → z < n → (∀ t ∈ s, z < t.1) → h z = b := fun z h1 h2 h3 => by
        rw [hz z h1 h2, colF, colG_cons, if_pos h1, colG_gt h3]
      exact ⟨key a (by omega) han (fun t ht => (List.pairwise_cons.1 hasc).1 t ht), key⟩
    rw [List.foldl_cons]
    have e : addP (ofP h a) ((a : Int), b) = ofP h (a + 1) := by rw [← ha.1]; exact add_ofP h a
    rw [e]
    match s, ih, hasc, hlt, hz, ha with
    | [], _, _, _, _, ha =>
      rw [List.foldl_nil]
      refine (ofP_const (by omega) (by omega) (fun z h1 h2 => ?_)).symm
      have e1 : (((a + 1 : Nat) : Int) - 1) = a := by omega
      rw [e1, ha.1, ha.2 z (by omega) h2 (by simp)]
    | q :: s', ih, hasc, hlt, hz, ha =>
      obtain ⟨h1, h2⟩ := List.pairwise_cons.1 hasc
      have hq := h1 q (by simp)
      have hqn := hlt q (by simp)
      have hn : ((q.1.toNat : Nat) : Int) = q.1 := by simp only at hq; omega
      have e2 : ofP h (a + 1) = ofP h q.1.toNat := by
        refine (ofP_const (by omega) (by simp only at hq; omega) (fun z h1 h2' => ?_)).symm
        have e1 : (((a + 1 : Nat) : Int) - 1) = a := by omega
        rw [e1, ha.1, ha.2 z (by omega) (by omega) (fun t ht => ?_)]
        have : q.1 ≤ t.1 := by
          rcases List.mem_cons.1 ht with rfl | ht
          · omega
          · have := (List.pairwise_cons.1 h2).1 t ht; omega
        omega
      rw [e2]
      refine ih q.1.toNat n h2 ⟨q.2, s', by rw [hn]⟩ (fun t ht => hlt t (by simp [ht])) (fun z hz1 hz2 => ?_)
      rw [hn] at hz1
      rw [hz z (by simp only at hq; omega) hz2, colF, colF, colG_cons]
      exact colG_head hz1

theorem ofP_lt (h : Int → Int) : ∀ (n : Nat) (t : Int × Int), t ∈ ofP h n → 0 ≤ t.1 ∧ t.1 < n ∧ t.2 = h t.1
  | 0, t, ht => by simp [ofP] at ht
  | n + 1, t, ht => by
    rw [ofP_succ] at ht
    split at ht
    · rcases List.mem_append.1 ht with ht | ht
      · have := ofP_lt h n t ht; exact ⟨this.1, by omega, this.2.2⟩
      · cases List.mem_singleton.1 ht; exact ⟨by simp, by simp; omega, rfl⟩
    · have := ofP_lt h n t ht; exact ⟨this.1, by omega, this.2.2⟩
theorem ofP_asc (h : Int → Int) : ∀ n, Asc (ofP h n)
  | 0 => List.Pairwise.nil
  | n + 1 => by
    rw [ofP_succ]
    split
    · refine List.pairwise_append.2 ⟨ofP_asc h n, List.pairwise_singleton _ _, fun a ha b hb => ?_⟩
      cases List.mem_singleton.1 hb
      exact (ofP_lt h n a ha).2.1
    · exact ofP_asc h n
theorem colF_ofP (h : Int → Int) : ∀ {n : Nat} {x : Int}, 0 < n → 0 ≤ x → colF (ofP h n) x = h (min x ((n : Int) - 1))
  | n + 1, x, _, hx => by
    rw [ofP_succ]
    rcases Nat.eq_zero_or_pos n with rfl | hp
    · have : min x ((0 + 1 : Nat) - 1 : Int) = 0 := by omega
      rw [this]
      simp [ofP, colF, colG, hx]
    · have ih := colF_ofP h (n := n) (x := x) hp hx
      split
      · rw [colF, colG_append, colG_cons, colG_nil]
        split
        · rename_i hx'
          have e : min x (((n + 1 : Nat) : Int) - 1) = n := by simp only at hx'; omega
          rw [e]
        · rename_i hx'
          rw [← colF, ih]
          have e : min x (((n + 1 : Nat) : Int) - 1) = min x ((n : Int) - 1) := by simp only at hx'; omega
          rw [e]
      · rename_i hn
        simp only [not_or, Decidable.not_not] at hn
        rw [ih]
        rcases Int.lt_or_le x n with h1 | h1
        · congr 1; omega
        · have e1 : min x ((n : Int) - 1) = n - 1 := by omega
          have e2 : min x (((n + 1 : Nat) : Int) - 1) = n := by omega
          rw [e1, e2, hn.2]
theorem colF_ofP' (h : Int → Int) {n : Nat} {x : Int} (hx : 0 ≤ x) (hn : x < n) : colF (ofP h n) x = h x := by
  rw [colF_ofP h (by omega) hx]; congr 1; omega

/-! ### valid envelopes -/
/-- step i is as it should be -/
def okAt (W : Int) (l : Steps) (i : Nat) : Prop := ∀ s, l[i]? = some s → s.1 < W ∧ 0 ≤ s.2 ∧ s.2 ≤ 1000000 ∧ (0 < i → ∀ r, l[i - 1]? = some r → r.1 < s.1 ∧ r.2 ≠ s.2)
def Val (W : Int) (l : Steps) : Prop := 1 ≤ W ∧ W ≤ 2000 ∧ (∃ s, l[0]? = some s ∧ s.1 = 0) ∧ ∀ i, okAt W l i
def endP (W : Int) (l : Steps) (i : Nat) : Int := match l[i + 1]? with | some s => s.1 | none => W
/-- where step i begins; the width behind the last one -/
def begP (W : Int) (l : Steps) (i : Nat) : Int := match l[i]? with | some s => s.1 | none => W

theorem Val.asc {W : Int} {l : Steps} (h : Val W l) : Asc l := by
  refine List.pairwise_iff_getElem.2 ?_
  have step : ∀ j (hj : j + 1 < l.length), l[j].1 < l[j + 1].1 := fun j hj => by
    have := (h.2.2.2 (j + 1) l[j + 1] (by simp)).2.2.2 (by omega) l[j] (by simp)
    exact this.1
  intro i j hi hj hij
  induction j with
  | zero => omega
  | succ j ih =>
    rcases Nat.lt_or_ge i j with h1 | h1
    · exact Int.lt_trans (ih (by omega) h1) (step j hj)
    · have : i = j := by omega
      subst this; exact step i hj
theorem Val.pos {W : Int} {l : Steps} (h : Val W l) : 0 < l.length := by
  obtain ⟨_, _, ⟨s, hs, _⟩, _⟩ := h
  exact (List.getElem?_eq_some_iff.1 hs).1
theorem Val.beg0 {W : Int} {l : Steps} (h : Val W l) : begP W l 0 = 0 := by
  obtain ⟨_, _, ⟨s, hs, h0⟩, _⟩ := h
  simp [begP, hs, h0]
theorem begP_lt {W : Int} {l : Steps} (h : Val W l) {i : Nat} (hi : i < l.length) : begP W l i < endP W l i ∧ endP W l i ≤ W := by
  have hs : l[i]? = some l[i] := by simp
  have hok := h.2.2.2 i l[i] hs
  simp only [begP, endP, hs]
  rcases Nat.lt_or_ge (i + 1) l.length with h1 | h1
  · have ht : l[i + 1]? = some l[i + 1] := by simp
    simp only [ht]
    exact ⟨asc_lt h.asc hs ht (by omega), Int.le_of_lt (h.2.2.2 (i + 1) _ ht).1⟩
  · rw [List.getElem?_eq_none h1]
    exact ⟨hok.1, Int.le_refl _⟩
theorem endP_beg (W : Int) (l : Steps) (i : Nat) : endP W l i = begP W l (i + 1) := rfl
theorem begP_end {W : Int} {l : Steps} {i : Nat} (hi : l.length ≤ i) : begP W l i = W := by simp [begP, List.getElem?_eq_none hi]
theorem begP_some {W : Int} {l : Steps} {i : Nat} {s : Int × Int} (hi : l[i]? = some s) : begP W l i = s.1 := by simp [begP, hi]
theorem begP_mono {W : Int} {l : Steps} (h : Val W l) {i j : Nat} (hij : i ≤ j) : begP W l i ≤ begP W l j := by
  induction j with
  | zero => have : i = 0 := by omega
            subst this; omega
  | succ j ih =>
    rcases Nat.lt_or_ge i (j + 1) with h1 | h1
    · have h2 := ih (by omega)
      rcases Nat.lt_or_ge j l.length with h3 | h3
      · have := begP_lt h h3; rw [endP_beg] at this; omega
      · rw [begP_end h3] at h2; rw [begP_end (i := j + 1) (by omega)]; exact h2
    · have : i = j + 1 := by omega
      subst this; omega
theorem begP_nn {W : Int} {l : Steps} (h : Val W l) (i : Nat) : 0 ≤ begP W l i := by
  have := begP_mono h (Nat.zero_le i); rw [h.beg0] at this; exact this
theorem begP_le {W : Int} {l : Steps} (h : Val W l) (i : Nat) : begP W l i ≤ W := by
  have := begP_mono h (Nat.le_max_left i l.length); rw [begP_end (Nat.le_max_right i l.length)] at this; exact this
/-- the columns of step i -/
theorem col_step {W : Int} {l : Steps} (h : Val W l) {i : Nat} {s : Int × Int} (hs : l[i]? = some s) {x : Int} (h1 : s.1 ≤ x) (h2 : x < endP W l i) : colF l x = s.2 :=
  colF_at h.asc hs h1 (fun t ht => by simpa [endP, ht] using h2)
theorem find_step {W : Int} {l : Steps} (h : Val W l) {x : Int} (h0 : 0 ≤ x) (h1 : x < W) : ∃ i, i < l.length ∧ begP W l i ≤ x ∧ x < endP W l i := by
  have : ∀ k, k ≤ l.length → x < begP W l k → ∃ i, i < l.length ∧ begP W l i ≤ x ∧ x < endP W l i := by
    intro k
    induction k with
    | zero => intro _ hk; rw [h.beg0] at hk; omega
    | succ k ih =>
      intro hk hx
      rcases Int.lt_or_le x (begP W l k) with h2 | h2
      · exact ih (by omega) h2
      · exact ⟨k, by omega, h2, hx⟩
  exact this l.length (Nat.le_refl _) (by rw [begP_end (Nat.le_refl _)]; exact h1)
theorem Val.col {W : Int} {l : Steps} (h : Val W l) {x : Int} (h0 : 0 ≤ x) (h1 : x < W) : 0 ≤ colF l x ∧ colF l x ≤ 1000000 := by
  obtain ⟨i, hi, h2, h3⟩ := find_step h h0 h1
  have hs : l[i]? = some l[i] := by simp
  rw [begP_some hs] at h2
  rw [col_step h hs h2 h3]
  have := h.2.2.2 i _ hs
  exact ⟨this.2.1, this.2.2.1⟩

theorem fold_take {W : Int} {l : Steps} (h : Val W l) : ∀ k, k ≤ l.length → (l.take k).foldl addP [] = l.take k
  | 0, _ => by simp
  | k + 1, hk => by
    have hs : l[k]? = some l[k] := by simp
    rw [List.take_add_one, hs, List.foldl_append, fold_take h k (by omega)]
    show addP (l.take k) l[k] = l.take k ++ [l[k]]
    unfold addP
    rcases Nat.eq_zero_or_pos k with rfl | hp
    · simp
    · have hl : (l.take k).getLast? = some l[k - 1] := by
        rw [List.getLast?_eq_getElem?, List.length_take, Nat.min_eq_left (by omega), List.getElem?_take_of_lt (by omega)]; simp
      have := ((h.2.2.2 k _ hs).2.2.2 hp l[k - 1] (by simp)).2
      simp only [hl]
      rw [if_neg this]
/-- the steps ahead of a column, from the heights -/
theorem take_ofP {W : Int} {l : Steps} (h : Val W l) {k n : Nat} (hk : k ≤ l.length) (h1 : k = 0 → n = 0) (h2 : ∀ i, i + 1 = k → begP W l i < n) (h3 : (n : Int) ≤ begP W l k) : l.take k = ofP (colF l) n := by
  rcases Nat.eq_zero_or_pos k with rfl | hp
  · rw [h1 rfl]; simp [ofP]
  · rw [← fold_take h k hk]
    obtain ⟨k, rfl⟩ : ∃ k', k = k' + 1 := ⟨k - 1, by omega⟩
    have hn := h2 k rfl
    obtain ⟨_, _, ⟨s, hs, h0⟩, _⟩ := id h
    have := fold_ofP (colF l) (l.take (k + 1)) 0 n (h.asc.sublist (List.take_sublist _ _)) ?_ ?_ ?_
    · exact this
    · match l, hs with
      | p :: r, hs =>
        simp at hs
        subst hs
        exact ⟨p.2, r.take k, by simp [← h0]⟩
    · intro t ht
      obtain ⟨i, hi, rfl⟩ := List.getElem_of_mem ht
      rw [List.getElem_take]
      have hi' : i < k + 1 := by rw [List.length_take] at hi; omega
      have hti : l[i]? = some l[i] := by simp
      have := begP_mono h (i := i) (j := k) (by omega)
      rw [begP_some hti] at this
      omega
    · intro z hz1 hz2
      conv => lhs; rw [← List.take_append_drop (k + 1) l]
      rw [colF, colG_append, ← colF]
      refine colG_gt (fun t ht => ?_)
      obtain ⟨i, hi, rfl⟩ := List.getElem_of_mem ht
      rw [List.getElem_drop]
      have hlen : k + 1 + i < l.length := by rw [List.length_drop] at hi; omega
      have hti : l[k + 1 + i]? = some l[k + 1 + i] := by simp
      have := begP_mono h (i := k + 1) (j := k + 1 + i) (by omega)
      rw [begP_some hti] at this
      omega
theorem Val.canon {W : Int} {l : Steps} (h : Val W l) : l = ofP (colF l) W.toNat := by
  have hW := h.1
  have := take_ofP h (k := l.length) (n := W.toNat) (Nat.le_refl _) (fun e => by have := h.pos; omega) (fun i hi => ?_) (by rw [begP_end (Nat.le_refl _)]; omega)
  · rw [List.take_length] at this; exact this
  · have := begP_lt h (i := i) (by omega); omega
theorem val_ofP {h : Int → Int} {W : Int} (h1 : 1 ≤ W) (h2 : W ≤ 2000) (hh : ∀ z, 0 ≤ z → z < W → 0 ≤ h z ∧ h z ≤ 1000000) : Val W (ofP h W.toNat) := by
  refine ⟨h1, h2, ?_, ?_⟩
  · have : ∀ n, 0 < n → ∃ s, (ofP h n)[0]? = some s ∧ s.1 = 0 := by
      intro n
      induction n with
      | zero => intro h; omega
      | succ n ih =>
        intro _
        rw [ofP_succ]
        rcases Nat.eq_zero_or_pos n with rfl | hp
        · exact ⟨(0, h 0), by simp [ofP], rfl⟩
        · obtain ⟨s, hs, h0⟩ := ih hp
          refine ⟨s, ?_, h0⟩
          split
          · rw [List.getElem?_append_left (List.getElem?_eq_some_iff.1 hs).1]; exact hs
          · exact hs
    exact this _ (by omega)
  · have adj : ∀ n i s r, (ofP h n)[i + 1]? = some s → (ofP h n)[i]? = some r → r.2 ≠ s.2 := by
      intro n
      induction n with
      | zero => intro i s r h; simp [ofP] at h
      | succ n ih =>
        intro i s r hs hr
        rw [ofP_succ] at hs hr
        split at hs
        · rename_i hc
          rw [if_pos hc] at hr
          rcases Nat.lt_or_ge (i + 1) (ofP h n).length with h3 | h3
          · rw [List.getElem?_append_left h3] at hs
            rw [List.getElem?_append_left (by omega)] at hr
            exact ih i s r hs hr
          · have hl : i + 1 = (ofP h n).length := by
              have := (List.getElem?_eq_some_iff.1 hs).1
              simp at this; omega
            have hn : 0 < n := by
              rcases Nat.eq_zero_or_pos n with rfl | h; · simp [ofP] at hl
              · exact h
            obtain ⟨a, ha⟩ := ofP_last h hn
            rw [List.getElem?_append_left (by omega)] at hr
            rw [List.getElem?_append_right (by omega)] at hs
            have e : i + 1 - (ofP h n).length = 0 := by omega
            rw [e] at hs
            simp at hs
            rw [List.getLast?_eq_getElem?] at ha
            have e2 : (ofP h n).length - 1 = i := by omega
            rw [e2, hr] at ha
            cases ha
            subst hs
            rcases hc with rfl | hc
            · omega
            · exact fun h => hc h.symm
        · rename_i hc
          rw [if_neg hc] at hr
          exact ih i s r hs hr
    intro i s hs
    have hm := ofP_lt h W.toNat s (List.mem_of_getElem? hs)
    have hb := hh s.1 hm.1 (by omega)
    refine ⟨by omega, by rw [hm.2.2]; exact hb.1, by rw [hm.2.2]; exact hb.2, fun hi r hr => ⟨asc_lt (ofP_asc h _) hr hs (by omega), ?_⟩⟩
    obtain ⟨i, rfl⟩ : ∃ k, i = k + 1 := ⟨i - 1, by omega⟩
    exact adj _ i s r hs hr
end Go.Proofs.Env41
