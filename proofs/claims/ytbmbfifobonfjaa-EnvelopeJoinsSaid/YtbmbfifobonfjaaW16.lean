/-
  What packings are: positions, profiles, areas.
-/
import Derived.Test.YtbmbfifobonfjaaW15
set_option linter.unusedVariables false
set_option linter.unusedSimpArgs false
namespace Go.Proofs.Env41
open Go Go.Proofs Go.Ab
set_option maxRecDepth 100000

/-- the steps ahead of rectangle i, and its position -/
noncomputable def lAt (W : Int) (rs : List (Int × Int)) (i : Nat) : Steps := (packS W (rs.take i)).1
section
variable {W : Int} {rs : List (Int × Int)}

theorem pre_ok (h : (packS W rs).2.2 = 0) (i : Nat) : (packS W (rs.take i)).2.2 = 0 := by
  by_cases h0 : (packS W (rs.take i)).2.2 = 0
  · exact h0
  · rw [pack_err h0] at h; exact absurd h h0
theorem pack_at (h : (packS W rs).2.2 = 0) {i : Nat} {r : Int × Int} (hr : rs[i]? = some r) :
    Val W (lAt W rs i) ∧ SizedP r.1 r.2 ∧ r.1 ≤ W ∧ topP (lAt W rs i) (bestP W (lAt W rs i) r.1) r.1 + r.2 ≤ 1000000 ∧
    packS W (rs.take (i + 1)) = (raiseP W (lAt W rs i) (bestP W (lAt W rs i) r.1) r.1 (topP (lAt W rs i) (bestP W (lAt W rs i) r.1) r.1 + r.2), (packS W (rs.take i)).2.1 ++ [posP W (lAt W rs i) r.1], 0) := by
  have h1 := pre_ok h i
  have h2 := pre_ok h (i + 1)
  have hn := packS_take (W := W) hr
  have hp : (placeP W (packS W (rs.take i)).1 r).2.2 = 0 := by
    by_cases h0 : (placeP W (packS W (rs.take i)).1 r).2.2 = 0
    · exact h0
    · rw [hn, packOne, if_neg (by simp [h1]), if_pos h0] at h2
      exact absurd h2 h0
  obtain ⟨k1, k2, k3, k4, k5⟩ := place_ok hp
  refine ⟨k1, k2, k3, k4, ?_⟩
  rw [hn, packOne, if_neg (by simp [h1]), if_neg (by simp [hp]), k5]
  rfl
theorem out_len (h : (packS W rs).2.2 = 0) : ∀ i, i ≤ rs.length → (packS W (rs.take i)).2.1.length = i
  | 0, _ => by simp [packS]
  | i + 1, hi => by
    obtain ⟨_, _, _, _, e⟩ := pack_at h (i := i) (r := rs[i]) (by simp)
    rw [e]
    simp [out_len h i (by omega)]
theorem out_take (h : (packS W rs).2.2 = 0) (i : Nat) : ∀ j, i ≤ j → j ≤ rs.length → (packS W (rs.take j)).2.1.take i = (packS W (rs.take i)).2.1
  | 0, h1, _ => by
    have : i = 0 := by omega
    subst this; simp [packS]
  | j + 1, h1, hj => by
    rcases Nat.lt_or_ge j i with h2 | h2
    · have : i = j + 1 := by omega
      subst this
      have := out_len h (j + 1) hj
      rw [List.take_of_length_le (by omega)]
    · obtain ⟨_, _, _, _, e⟩ := pack_at h (i := j) (r := rs[j]) (by simp)
      rw [e]
      simp only
      rw [List.take_append_of_le_length (by rw [out_len h j (by omega)]; exact h2)]
      exact out_take h i j h2 (by omega)
theorem out_all (h : (packS W rs).2.2 = 0) : (packS W rs).2.1.length = rs.length := by
  have := out_len h rs.length (Nat.le_refl _)
  rw [List.take_length] at this; exact this
theorem out_at (h : (packS W rs).2.2 = 0) {i : Nat} {r : Int × Int} (hr : rs[i]? = some r) : (packS W rs).2.1[i]? = some (posP W (lAt W rs i) r.1) := by
  have hi := (List.getElem?_eq_some_iff.1 hr).1
  have h1 := out_take h (i + 1) rs.length (by omega) (Nat.le_refl _)
  rw [List.take_length] at h1
  obtain ⟨_, _, _, _, e⟩ := pack_at h hr
  rw [e] at h1
  have h2 : ((packS W rs).2.1.take (i + 1))[i]? = some (posP W (lAt W rs i) r.1) := by
    rw [h1]
    show ((packS W (rs.take i)).2.1 ++ [posP W (lAt W rs i) r.1])[i]? = _
    rw [List.getElem?_append_right (by rw [out_len h i (by omega)]; exact Nat.le_refl _), out_len h i (by omega)]
    simp
  rw [List.getElem?_take_of_lt (by omega)] at h2
  exact h2
theorem out_is (h : (packS W rs).2.2 = 0) {i : Nat} {p : Int × Int × Int} (hp : (packS W rs).2.1[i]? = some p) : ∃ r, rs[i]? = some r ∧ p = posP W (lAt W rs i) r.1 := by
  have hi := (List.getElem?_eq_some_iff.1 hp).1
  rw [out_all h] at hi
  have hr : rs[i]? = some rs[i] := by simp
  refine ⟨rs[i], hr, ?_⟩
  rw [out_at h hr] at hp
  exact (Option.some.inj hp).symm
/-- a position lies within the width -/
theorem pos_in (h : (packS W rs).2.2 = 0) {i : Nat} {r : Int × Int} (hr : rs[i]? = some r) : insideP W r (posP W (lAt W rs i) r.1) := by
  obtain ⟨h1, h2, h3, h4, _⟩ := pack_at h hr
  have hb := bestP_bd W (lAt W rs i) r.1 h3
  have ht := topP_bd h1 hb.1 hb.2
  exact ⟨hb.1, (by show bestP W (lAt W rs i) r.1 ≤ W - r.1; omega), ht.1, (by show topP (lAt W rs i) (bestP W (lAt W rs i) r.1) r.1 ≤ 1000000 - r.2; omega)⟩
theorem pack_sized (h : (packS W rs).2.2 = 0) (n : Nat) : AllSized rs n := fun j r _ hr => (pack_at h hr).2.1
theorem pack_in (h : (packS W rs).2.2 = 0) (n : Nat) : AllIn W rs (packS W rs).2.1 n := fun j r p _ hr hp => by
  rw [out_at h hr] at hp
  cases hp
  exact pos_in h hr

/-! ### the profile -/
theorem prof_ge (qs : List (Int × Int × Int)) {k : Nat} {r : Int × Int} {q : Int × Int × Int} (hr : rs[k]? = some r) (hq : qs[k]? = some q) {z : Int} (h1 : q.1 ≤ z) (h2 : z < q.1 + r.1) : ∀ j, k < j → q.2.1 + r.2 ≤ profH rs qs j z
  | j + 1, hj => by
    rcases Nat.lt_or_ge k j with h | h
    · have ih := prof_ge qs hr hq h1 h2 j h
      cases hr' : rs[j]? with
      | none => rw [profH]; simp only [hr']; exact ih
      | some r' =>
        cases hq' : qs[j]? with
        | none => rw [profH]; simp only [hr', hq']; exact ih
        | some q' =>
          rw [profH_step hr' hq']
          unfold raiseF; split <;> omega
    · have : k = j := by omega
      subst this
      rw [profH_step hr hq, raiseF, if_pos ⟨h1, h2⟩]
      omega
theorem prof_att (qs : List (Int × Int × Int)) {z : Int} : ∀ j, profH rs qs j z = 0 ∨ ∃ k r q, k < j ∧ rs[k]? = some r ∧ qs[k]? = some q ∧ q.1 ≤ z ∧ z < q.1 + r.1 ∧ profH rs qs j z = q.2.1 + r.2
  | 0 => .inl rfl
  | j + 1 => by
    have ih := prof_att qs (z := z) j
    have keep : profH rs qs (j + 1) z = profH rs qs j z → (profH rs qs (j + 1) z = 0 ∨ ∃ k r q, k < j + 1 ∧ rs[k]? = some r ∧ qs[k]? = some q ∧ q.1 ≤ z ∧ z < q.1 + r.1 ∧ profH rs qs (j + 1) z = q.2.1 + r.2) := fun e => by
      rw [e]
      rcases ih with ih | ⟨k, r, q, h1, h2, h3, h4, h5, h6⟩
      · exact .inl ih
      · exact .inr ⟨k, r, q, by omega, h2, h3, h4, h5, h6⟩
    cases hr : rs[j]? with
    | none => exact keep (by rw [profH]; simp only [hr])
    | some r =>
      cases hq : qs[j]? with
      | none => exact keep (by rw [profH]; simp only [hr, hq])
      | some q =>
        rw [profH_step hr hq] at keep ⊢
        unfold raiseF at keep ⊢
        by_cases hin : q.1 ≤ z ∧ z < q.1 + r.1
        · rw [if_pos hin] at keep ⊢
          rcases Int.le_total (profH rs qs j z) (q.2.1 + r.2) with hle | hle
          · exact .inr ⟨j, r, q, by omega, hr, hq, hin.1, hin.2, by omega⟩
          · exact keep (by omega)
        · rw [if_neg hin] at keep ⊢
          exact keep rfl
theorem prof_nn (qs : List (Int × Int × Int)) {n : Nat} (hin : AllIn W rs qs n) (hsz : AllSized rs n) (z : Int) : 0 ≤ profH rs qs n z ∧ profH rs qs n z ≤ 1000000 := by
  rcases prof_att (rs := rs) qs (z := z) n with h | ⟨k, r, q, h1, h2, h3, h4, h5, h6⟩
  · omega
  · obtain ⟨i1, i2, i3, i4⟩ := hin k r q h1 h2 h3
    obtain ⟨⟨s1, s2⟩, s3, s4⟩ := hsz k r h1 h2
    omega
/-- the heights behind i rectangles are their profile -/
theorem col_prof (hW : 1 ≤ W ∧ W ≤ 2000) (h : (packS W rs).2.2 = 0) : ∀ i, i ≤ rs.length → ∀ z, 0 ≤ z → z < W → colF (lAt W rs i) z = profH rs (packS W rs).2.1 i z
  | 0, _, z, h0, h1 => by simp [lAt, packS, colF, colG, profH]
  | i + 1, hi, z, h0, h1 => by
    have hr : rs[i]? = some rs[i] := by simp
    obtain ⟨k1, k2, k3, k4, e⟩ := pack_at h hr
    have ih := col_prof hW h i (by omega) z h0 h1
    have e' : lAt W rs (i + 1) = raiseP W (lAt W rs i) (bestP W (lAt W rs i) rs[i].1) rs[i].1 (topP (lAt W rs i) (bestP W (lAt W rs i) rs[i].1) rs[i].1 + rs[i].2) := by
      unfold lAt at e ⊢; rw [e]
    have hpp : (posP W (lAt W rs i) rs[i].1).1 = bestP W (lAt W rs i) rs[i].1 := rfl
    rw [e', raise_col h0 h1, profH_step hr (out_at h hr), setF, raiseF, hpp]
    by_cases hin : bestP W (lAt W rs i) rs[i].1 ≤ z ∧ z < bestP W (lAt W rs i) rs[i].1 + rs[i].1
    · rw [if_pos hin, if_pos hin]
      have : colF (lAt W rs i) z ≤ topP (lAt W rs i) (bestP W (lAt W rs i) rs[i].1) rs[i].1 := le_maxR hin.1 (by omega)
      have := k2.2.1
      show topP (lAt W rs i) (bestP W (lAt W rs i) rs[i].1) rs[i].1 + rs[i].2 = max (profH rs (packS W rs).2.1 i z) (topP (lAt W rs i) (bestP W (lAt W rs i) rs[i].1) rs[i].1 + rs[i].2)
      omega
    · rw [if_neg hin, if_neg hin, ih]
/-- of two rectangles that are across each other, the later one lies on top -/
theorem pos_above (hW : 1 ≤ W ∧ W ≤ 2000) (h : (packS W rs).2.2 = 0) {k i : Nat} (hki : k < i) {s r : Int × Int} {q p : Int × Int × Int} (hs : rs[k]? = some s) (hr : rs[i]? = some r) (hq : (packS W rs).2.1[k]? = some q) (hp : (packS W rs).2.1[i]? = some p)
    (h1 : p.1 < q.1 + s.1) (h2 : q.1 < p.1 + r.1) : q.2.1 + s.2 ≤ p.2.1 := by
  have hi := (List.getElem?_eq_some_iff.1 hr).1
  obtain ⟨k1, k2, k3, k4, e⟩ := pack_at h hr
  rw [out_at h hr] at hp
  cases hp
  have hin := pos_in h hr
  obtain ⟨⟨z1, z2⟩, _⟩ := (pack_at h hs).2.1
  obtain ⟨⟨y1, y2⟩, _⟩ := k2
  have hqi := pack_in h rs.length k s q (by omega) hs hq
  obtain ⟨a1, a2, a3, a4⟩ := hin
  obtain ⟨b1, b2, b3, b4⟩ := hqi
  have g1 := prof_ge (rs := rs) (packS W rs).2.1 hs hq (z := max q.1 (posP W (lAt W rs i) r.1).1) (by omega) (by omega) i hki
  rw [← col_prof hW h i (by omega) _ (by omega) (by omega)] at g1
  have g2 : colF (lAt W rs i) (max q.1 (posP W (lAt W rs i) r.1).1) ≤ topP (lAt W rs i) (bestP W (lAt W rs i) r.1) r.1 := le_maxR (by show bestP W (lAt W rs i) r.1 ≤ _; exact Int.le_max_right _ _) (by
    have : (posP W (lAt W rs i) r.1).1 = bestP W (lAt W rs i) r.1 := rfl
    omega)
  exact Int.le_trans g1 g2
/-- a rectangle rests on the ground or on one ahead of it -/
def RestsP (rs : List (Int × Int)) (out : List (Int × Int × Int)) (i : Nat) (r : Int × Int) (p : Int × Int × Int) (n : Nat) : Prop :=
  p.2.1 = 0 ∨ ∃ k s q, k < n ∧ rs[k]? = some s ∧ out[k]? = some q ∧ p.1 < q.1 + s.1 ∧ q.1 < p.1 + r.1 ∧ q.2.1 + s.2 = p.2.1
theorem pos_rests (hW : 1 ≤ W ∧ W ≤ 2000) (h : (packS W rs).2.2 = 0) {i : Nat} {r : Int × Int} {p : Int × Int × Int} (hr : rs[i]? = some r) (hp : (packS W rs).2.1[i]? = some p) : RestsP rs (packS W rs).2.1 i r p i := by
  have hi := (List.getElem?_eq_some_iff.1 hr).1
  obtain ⟨k1, k2, k3, k4, e⟩ := pack_at h hr
  have hin := pos_in h hr
  rw [out_at h hr] at hp
  cases hp
  obtain ⟨a1, a2, a3, a4⟩ := hin
  rcases maxR_att (f := colF (lAt W rs i)) (a := bestP W (lAt W rs i) r.1) (n := r.1.toNat) with ht | ⟨z, hz1, hz2, hz3⟩
  · exact .inl ht
  · have hb : (posP W (lAt W rs i) r.1).1 = bestP W (lAt W rs i) r.1 := rfl
    have htop : (posP W (lAt W rs i) r.1).2.1 = maxR (colF (lAt W rs i)) (bestP W (lAt W rs i) r.1) r.1.toNat := rfl
    have := k2.1.1
    rw [col_prof hW h i (by omega) z (by omega) (by omega)] at hz3
    rcases prof_att (rs := rs) (packS W rs).2.1 (z := z) i with hp0 | ⟨k, s, q, q1, q2, q3, q4, q5, q6⟩
    · left; rw [htop, ← hz3, hp0]
    · exact .inr ⟨k, s, q, q1, q2, q3, by omega, by omega, by rw [htop, ← hz3, q6]⟩

/-! ### the area -/
theorem sumR_split (f : Int → Int) (a : Int) (n : Nat) : ∀ m, sumR f a (n + m) = sumR f a n + sumR f (a + n) m
  | 0 => by simp [sumR]
  | m + 1 => by
    have e : sumR f a (n + (m + 1)) = sumR f a (n + m) + f (a + (n + m : Nat)) := rfl
    rw [e, sumR_split f a n m, sumR]
    have : a + ((n + m : Nat) : Int) = a + n + m := by omega
    rw [this]; omega
theorem sumR_add (f g : Int → Int) (a : Int) : ∀ n, sumR (fun z => f z + g z) a n = sumR f a n + sumR g a n
  | 0 => rfl
  | n + 1 => by
    show sumR (fun z => f z + g z) a n + (f (a + n) + g (a + n)) = sumR f a n + f (a + n) + (sumR g a n + g (a + n))
    rw [sumR_add f g a n]; omega
theorem sumR_c (c : Int) (a : Int) (n : Nat) : sumR (fun _ => c) a n = n * c := by
  have := sumR_const (f := fun _ => c) (a := a) (c := c) (n := 0) (m := n) (fun _ _ _ => rfl)
  simpa [sumR] using this
theorem raise_area {l : Steps} {x w t h : Int} (hx : 0 ≤ x) (hw : 0 ≤ w) (hxw : x + w ≤ W) :
    sumR (colF (raiseP W l x w (t + h))) 0 W.toNat = sumR (colF l) 0 W.toNat + (w * h + sumR (fun z => t - colF l z) x w.toNat) := by
  have e : W.toNat = x.toNat + w.toNat + (W - x - w).toNat := by omega
  have ex : (0 : Int) + (x.toNat : Nat) = x := by omega
  have exw : (0 : Int) + ((x.toNat + w.toNat : Nat) : Int) = x + w := by omega
  rw [sumR_congr (f := colF (raiseP W l x w (t + h))) (g := setF (colF l) x w (t + h)) (fun z h1 h2 => raise_col h1 (by omega))]
  rw [e, sumR_split, sumR_split, sumR_split (colF l), sumR_split (colF l), ex, exw]
  rw [sumR_congr (f := setF (colF l) x w (t + h)) (g := colF l) (a := 0) (n := x.toNat) (fun z h1 h2 => by unfold setF; rw [if_neg (by omega)])]
  rw [sumR_congr (f := setF (colF l) x w (t + h)) (g := colF l) (a := x + w) (fun z h1 h2 => by unfold setF; rw [if_neg (by omega)])]
  rw [sumR_congr (f := setF (colF l) x w (t + h)) (g := fun z => (h + (t - colF l z)) + colF l z) (a := x) (n := w.toNat) (fun z h1 h2 => by unfold setF; rw [if_pos (by omega)]; omega)]
  rw [sumR_add (fun z => h + (t - colF l z)) (colF l), sumR_add (fun _ => h) (fun z => t - colF l z), sumR_c]
  have : ((w.toNat : Nat) : Int) = w := by omega
  rw [this]; omega
theorem area_pack (h : (packS W rs).2.2 = 0) {i : Nat} {r : Int × Int} {p : Int × Int × Int} (hr : rs[i]? = some r) (hp : (packS W rs).2.1[i]? = some p) :
    sumR (colF (lAt W rs (i + 1))) 0 W.toNat = sumR (colF (lAt W rs i)) 0 W.toNat + (r.1 * r.2 + p.2.2) := by
  obtain ⟨k1, k2, k3, k4, e⟩ := pack_at h hr
  rw [out_at h hr] at hp
  cases hp
  have hb := bestP_bd W (lAt W rs i) r.1 k3
  have := k2.1.1
  have e' : lAt W rs (i + 1) = raiseP W (lAt W rs i) (bestP W (lAt W rs i) r.1) r.1 (topP (lAt W rs i) (bestP W (lAt W rs i) r.1) r.1 + r.2) := by
    unfold lAt at e ⊢; rw [e]
  rw [e', raise_area hb.1 (by omega) hb.2]
  rfl
theorem area_zero (h : 1 ≤ W ∧ W ≤ 2000) : sumR (colF (lAt W rs 0)) 0 W.toNat = 0 := by
  rw [sumR_congr (g := fun _ => 0) (fun z h1 h2 => by simp [lAt, packS, colF, colG]), sumR_c]
  simp
theorem lAt_val (hW : 1 ≤ W ∧ W ≤ 2000) (h : (packS W rs).2.2 = 0) (i : Nat) : Val W (lAt W rs i) := pack_val hW (pre_ok h i)
theorem lAt_all : lAt W rs rs.length = (packS W rs).1 := by unfold lAt; rw [List.take_length]
theorem pack_prof (hW : 1 ≤ W ∧ W ≤ 2000) (h : (packS W rs).2.2 = 0) : (packS W rs).1 = ofP (profH rs (packS W rs).2.1 rs.length) W.toNat := by
  have hv := lAt_val hW h rs.length
  rw [lAt_all] at hv
  conv => lhs; rw [hv.canon]
  refine ofP_congr (fun z h0 h1 => ?_)
  rw [← lAt_all]
  exact col_prof hW h rs.length (Nat.le_refl _) z h0 (by omega)
end

/-! ### two profiles -/
theorem prof_app {a b : List (Int × Int)} {x y : List (Int × Int × Int)} (hax : a.length = x.length) : ∀ j, j ≤ a.length → profH (a ++ b) (x ++ y) j = profH a x j
  | 0, _ => rfl
  | j + 1, hj => by
    have h1 : (a ++ b)[j]? = a[j]? := List.getElem?_append_left (by omega)
    have h2 : (x ++ y)[j]? = x[j]? := List.getElem?_append_left (by omega)
    rw [profH, profH, h1, h2, prof_app hax j (by omega)]
theorem prof_join {W : Int} {a b : List (Int × Int)} {x y : List (Int × Int × Int)} (hax : a.length = x.length) (hin : AllIn W a x a.length) (hsz : AllSized a a.length) (z : Int) : ∀ j, profH (a ++ b) (x ++ y) (a.length + j) z = max (profH a x a.length z) (profH b y j z)
  | 0 => by
    have h0 := prof_nn (W := W) x hin hsz z
    rw [Nat.add_zero, prof_app hax a.length (Nat.le_refl _)]
    show _ = max _ 0
    omega
  | j + 1 => by
    have ih := prof_join hax hin hsz z j (b := b) (y := y)
    have h1 : (a ++ b)[a.length + j]? = b[j]? := by rw [List.getElem?_append_right (by omega)]; congr 1; omega
    have h2 : (x ++ y)[a.length + j]? = y[j]? := by rw [List.getElem?_append_right (by omega)]; congr 1; omega
    rw [← Nat.add_assoc, profH, profH, h1, h2]
    cases b[j]? with
    | none => exact ih
    | some r =>
      cases y[j]? with
      | none => exact ih
      | some q =>
        show raiseF (profH (a ++ b) (x ++ y) (a.length + j)) r q z = max (profH a x a.length z) (raiseF (profH b y j) r q z)
        unfold raiseF
        split <;> omega
end Go.Proofs.Env41
