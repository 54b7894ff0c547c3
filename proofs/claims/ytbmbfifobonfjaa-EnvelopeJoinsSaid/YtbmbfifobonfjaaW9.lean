/-
  The functions of the envelopes, walked: packing.
-/
import Derived.Test.YtbmbfifobonfjaaW8
set_option linter.unusedVariables false
set_option linter.unusedSimpArgs false
namespace Go.Proofs.Env41
open Go Go.Proofs Go.Ab
set_option maxRecDepth 100000

abbrev PackSt := Steps × List (Int × Int × Int) × Int
open Classical in
noncomputable def packOne (W : Int) (st : PackSt) (r : Int × Int) : PackSt :=
  if st.2.2 ≠ 0 then st
  else if (placeP W st.1 r).2.2 ≠ 0 then ([], [], (placeP W st.1 r).2.2)
  else ((placeP W st.1 r).1.2, st.2.1 ++ [(placeP W st.1 r).2.1], 0)
noncomputable def packS (W : Int) (rs : List (Int × Int)) : PackSt := rs.foldl (packOne W) ([(0, 0)], [], 0)
open Classical in
noncomputable def packP (W : Int) (rs : List (Int × Int)) : (Int × Steps) × List (Int × Int × Int) × Int :=
  if 1 ≤ W ∧ W ≤ 2000 then
    if 500 < rs.length then ((0, []), [], 9)
    else if (packS W rs).2.2 ≠ 0 then ((0, []), [], (packS W rs).2.2)
    else ((W, (packS W rs).1), (packS W rs).2.1, 0)
  else ((0, []), [], 2)
noncomputable def packR (W : Int) (rs : List (Int × Int)) : V := .tup [envV (packP W rs).1.1 (packP W rs).1.2, .sl ((packP W rs).2.1.map plV), I (packP W rs).2.2]

theorem Val.len {W : Int} {l : Steps} (h : Val W l) : l.length ≤ 2000 := by
  have := h.canon
  have h2 := ofP_len (colF l) W.toNat
  rw [← this] at h2
  have := h.2.1
  omega
theorem place_ok {W : Int} {l : Steps} {r : Int × Int} (h : (placeP W l r).2.2 = 0) : Val W l ∧ SizedP r.1 r.2 ∧ r.1 ≤ W ∧ topP l (bestP W l r.1) r.1 + r.2 ≤ 1000000 ∧ placeP W l r = ((W, raiseP W l (bestP W l r.1) r.1 (topP l (bestP W l r.1) r.1 + r.2)), posP W l r.1, 0) := by
  unfold placeP at h ⊢
  split at h
  · rename_i h1
    rw [if_pos h1]
    split at h
    · cases h
    · rename_i h2
      rw [if_neg h2]
      split at h
      · cases h
      · rename_i h3
        rw [if_neg h3]
        have h3' : ¬ 1000000 < topP l (bestP W l r.1) r.1 + r.2 := h3
        exact ⟨h1.1, h1.2, by omega, by omega, rfl⟩
  · cases h
theorem place_val {W : Int} {l : Steps} {r : Int × Int} (h : (placeP W l r).2.2 = 0) : (placeP W l r).1.1 = W ∧ Val W (placeP W l r).1.2 := by
  obtain ⟨h1, h2, h3, h4, h5⟩ := place_ok h
  rw [h5]
  refine ⟨rfl, raise_val h1 ?_ h4⟩
  have hb := bestP_bd W l r.1 h3
  have := (topP_bd h1 hb.1 hb.2).1
  have := h2.2.1
  omega
theorem new_val {W : Int} (h : 1 ≤ W ∧ W ≤ 2000) : Val W [(0, 0)] := by
  have := val_ofP (h := fun _ => 0) (W := W) h.1 h.2 (fun _ _ _ => by omega)
  rw [ofP_zero (by omega)] at this
  exact this
theorem packS_val {W : Int} (hW : 1 ≤ W ∧ W ≤ 2000) (rs : List (Int × Int)) : ∀ st : PackSt, (st.2.2 = 0 → Val W st.1) → ((rs.foldl (packOne W) st).2.2 = 0 → Val W (rs.foldl (packOne W) st).1) := by
  induction rs with
  | nil => intro st h; exact h
  | cons r rs ih =>
    intro st h
    rw [List.foldl_cons]
    refine ih _ (fun h0 => ?_)
    unfold packOne at h0 ⊢
    split at h0
    · rename_i h1; exact absurd h0 h1
    · rename_i h1
      rw [if_neg h1]
      split at h0
      · rename_i h2; exact absurd h0 h2
      · rename_i h2
        rw [if_neg h2]
        exact (place_val (Decidable.not_not.1 h2)).2
theorem pack_val {W : Int} (hW : 1 ≤ W ∧ W ≤ 2000) {rs : List (Int × Int)} (h : (packS W rs).2.2 = 0) : Val W (packS W rs).1 := packS_val hW rs _ (fun _ => new_val hW) h
theorem pack_stop (W : Int) (rs : List (Int × Int)) (st : PackSt) (h : st.2.2 ≠ 0) : rs.foldl (packOne W) st = st := by
  induction rs with
  | nil => rfl
  | cons r rs ih => rw [List.foldl_cons, packOne, if_pos h]; exact ih
theorem packS_take {W : Int} {rs : List (Int × Int)} {j : Nat} {r : Int × Int} (hr : rs[j]? = some r) : packS W (rs.take (j + 1)) = packOne W (packS W (rs.take j)) r := by
  unfold packS
  rw [List.take_add_one, hr, List.foldl_append]; rfl
theorem pack_err {W : Int} {rs : List (Int × Int)} {j : Nat} (h : (packS W (rs.take j)).2.2 ≠ 0) : packS W rs = packS W (rs.take j) := by
  conv => lhs; rw [← List.take_append_drop j rs]
  unfold packS at h ⊢
  rw [List.foldl_append]
  exact pack_stop W _ _ h
theorem packS_len (W : Int) (rs : List (Int × Int)) : ∀ st : PackSt, (rs.foldl (packOne W) st).2.1.length ≤ st.2.1.length + rs.length := by
  induction rs with
  | nil => intro st; simp
  | cons r rs ih =>
    intro st
    rw [List.foldl_cons]
    have h1 := ih (packOne W st r)
    have h2 : (packOne W st r).2.1.length ≤ st.2.1.length + 1 := by
      unfold packOne
      split
      · omega
      · split
        · simp
        · simp
    simp only [List.length_cons]; omega
theorem pack_len (W : Int) (rs : List (Int × Int)) : (packS W rs).2.1.length ≤ rs.length := by
  have := packS_len W rs ([(0, 0)], [], 0)
  simpa [packS] using this
theorem pl_cells (p : Int × Int × Int) : ∀ x ∈ [plV p], x.cells.length = 3 := one_cells rfl

theorem Pack_vc {W : Int} {rs : List (Int × Int)} (hl : rs.length ≤ 100000) : fnVC T Try.prog Try.f29 [I W, .sl (rs.map stepV)] (packR W rs) := by
  have hs : (rs.map stepV).length = rs.length := by simp
  unfold packR packP
  by_cases hW : 1 ≤ W ∧ W ≤ 2000
  · rw [if_pos hW]
    have hnew : Sp 34 [I W] (.tup [envV W [(0, 0)], I 0]) := by
      have := New_spec W
      unfold newR newP at this
      rw [if_pos hW] at this
      exact this
    by_cases h500 : 500 < rs.length
    · rw [if_pos h500]
      repeat' ((conv => whnf); first
        | (exfalso; omega)
        | refine call_i (hnew) false (by repeat' (first | exact trivial | refine And.intro ?_ ?_ | with_reducible rfl | exact (fun h => by cases h) | exact rfl)) rfl ?_
        | refine seq_go ?_
        | refine draw_i (by kernel_rfl) ?_
        | refine arith_in (by omega) ?_
        | refine need_i (p := (T.row _).eq = true) (by kernel_rfl) ?_
        | refine need_i (by omega) ?_
        | refine br_not ?_
        | refine br_dec (fun hd => ?_) (fun hd => ?_)
        | refine br_lt (fun hlt => ?_) (fun hlt => ?_)
        | refine br_le (fun hle => ?_) (fun hle => ?_)
        | refine br_eq (fun heq => ?_) (fun heq => ?_)
        | refine idx_map (by omega) (fun x hx => ?_)
        | refine live_i rfl (fun h => by cases h) ?_
        | refine ret_i ?_)
      conv => whnf
      exact ⟨_, rfl, ⟨⟨rfl, rfl, trivial⟩, rfl, rfl, trivial⟩, rfl⟩
    · rw [if_neg h500]
      repeat' ((conv => whnf); first
        | (exfalso; omega)
        | refine call_i (hnew) false (by repeat' (first | exact trivial | refine And.intro ?_ ?_ | with_reducible rfl | exact (fun h => by cases h) | exact rfl)) rfl ?_
        | refine seq_go ?_
        | refine arith_in (by omega) ?_
        | refine need_i (p := (T.row _).eq = true) (by kernel_rfl) ?_
        | refine need_i (by omega) ?_
        | refine br_not ?_
        | refine br_dec (fun hd => ?_) (fun hd => ?_)
        | refine br_lt (fun hlt => ?_) (fun hlt => ?_)
        | refine br_le (fun hle => ?_) (fun hle => ?_)
        | refine br_eq (fun heq => ?_) (fun heq => ?_)
        | refine idx_map (by omega) (fun x hx => ?_)
        | refine live_i rfl (fun h => by cases h) ?_
        | refine ret_i ?_)
      refine loop_i (A := Nat) (fun j => mkSt [(4, .box 4 0), (7, .box 7 0), (9, .arr 49 j), (28, .sl (rs.map stepV)), (29, I rs.length), (30, I j)]
          [(4, [I 0, .lit (.slice none 0 0)]), (7, [I W, .sl ((packS W (rs.take j)).1.map stepV)])] [(49, ⟨j, .own, 33, (packS W (rs.take j)).2.1.map plV⟩)])
        (fun j => j ≤ rs.length ∧ (packS W (rs.take j)).2.2 = 0) (fun j => rs.length - j) 0 ?_ ⟨by omega, rfl⟩ (fun j hj' => ?_)
      · refine le_mk ?_ ?_ ?_
        all_goals repeat' (first | exact trivial | refine And.intro ?_ ?_ | with_reducible rfl | exact Nat.le_refl _ | omega | exact rfl)
      · obtain ⟨hj1, hj2⟩ := hj'
        have hv := pack_val hW hj2
        have hvl := hv.len
        have hpl := pack_len W (rs.take j)
        have htl : (rs.take j).length ≤ rs.length := by rw [List.length_take]; omega
        rcases Nat.lt_or_ge j rs.length with hkl | hkl
        · obtain ⟨s, hsj⟩ : ∃ s, rs[j]? = some s := ⟨rs[j], by simp⟩
          have hsj' : rs[(j : Int).toNat]? = some s := by rw [show (j : Int).toNat = j by omega]; exact hsj
          have hnext := packS_take (W := W) hsj
          by_cases hpe : (placeP W (packS W (rs.take j)).1 s).2.2 = 0
          · obtain ⟨hp1, hp2⟩ := place_val hpe
            have e : packS W (rs.take (j + 1)) = ((placeP W (packS W (rs.take j)).1 s).1.2, (packS W (rs.take j)).2.1 ++ [(placeP W (packS W (rs.take j)).1 s).2.1], 0) := by
              rw [hnext, packOne, if_neg (by simp [hj2]), if_neg (by simp [hpe])]
            have hplace : Sp 12 [envV W (packS W (rs.take j)).1, stepV s] (.tup [envV W (packS W (rs.take (j + 1))).1, plV (placeP W (packS W (rs.take j)).1 s).2.1, I 0]) := by
              have := Place_spec (W := W) (l := (packS W (rs.take j)).1) (r := s) (by omega)
              unfold placeR at this
              rw [hp1, hpe] at this
              rw [e]; exact this
            repeat' ((conv => whnf); first
              | (exfalso; omega)
              | refine idx_at hsj' ?_
              | refine call_i (hplace) false (by repeat' (first | exact trivial | refine And.intro ?_ ?_ | with_reducible rfl | exact (fun h => by cases h) | exact rfl)) rfl ?_
              | refine draw_c [(12, 12)] ⟨rfl, trivial⟩ (by kernel_rfl) ?_
              | refine need_app rfl (.inl rfl) rfl (of_decide_eq_true rfl) (pl_cells _) (by show (List.map plV _).length + 1 ≤ _; simp only [List.length_map]; omega) ?_
              | refine seq_go ?_
              | refine arith_in (by omega) ?_
              | refine need_i (p := (T.row _).eq = true) (by kernel_rfl) ?_
              | refine need_i (by omega) ?_
              | refine br_not ?_
              | refine br_dec (fun hd => ?_) (fun hd => ?_)
              | refine br_lt (fun hlt => ?_) (fun hlt => ?_)
              | refine br_le (fun hle => ?_) (fun hle => ?_)
              | refine br_eq (fun heq => ?_) (fun heq => ?_)
              | refine idx_map (by omega) (fun x hx => ?_)
              | refine live_i rfl (fun h => by cases h) ?_
              | refine ret_i ?_)
            refine ⟨j + 1, ?_, ⟨by omega, by rw [e]⟩, by omega⟩
            refine le_mk ?_ ?_ ?_
            all_goals repeat' (first | exact trivial | refine And.intro ?_ ?_ | with_reducible rfl | exact Nat.le_refl _ | omega | exact rfl)
            · show List.map plV _ ++ [plV _] = List.map plV (packS W (rs.take (j + 1))).2.1
              rw [e]; simp
          · have e : packS W (rs.take (j + 1)) = ([], [], (placeP W (packS W (rs.take j)).1 s).2.2) := by
              rw [hnext, packOne, if_neg (by simp [hj2]), if_pos hpe]
            have e2 : packS W rs = packS W (rs.take (j + 1)) := pack_err (by rw [e]; exact hpe)
            rw [e2, e, if_pos hpe]
            repeat' ((conv => whnf); first
              | (exfalso; omega)
              | refine idx_at hsj' ?_
              | refine call_i (Place_spec (W := W) (l := (packS W (rs.take j)).1) (r := s) (by omega)) false (by repeat' (first | exact trivial | refine And.intro ?_ ?_ | with_reducible rfl | exact (fun h => by cases h) | exact rfl)) rfl ?_
              | refine seq_go ?_
              | refine arith_in (by omega) ?_
              | refine need_i (p := (T.row _).eq = true) (by kernel_rfl) ?_
              | refine need_i (by omega) ?_
              | refine br_not ?_
              | refine br_dec (fun hd => ?_) (fun hd => ?_)
              | refine br_lt (fun hlt => ?_) (fun hlt => ?_)
              | refine br_le (fun hle => ?_) (fun hle => ?_)
              | refine br_eq (fun heq => ?_) (fun heq => ?_)
              | refine idx_map (by omega) (fun x hx => ?_)
              | refine live_i rfl (fun h => by cases h) ?_
              | refine ret_i ?_)
            conv => whnf
            exact ⟨_, rfl, ⟨⟨rfl, rfl, trivial⟩, rfl, rfl, trivial⟩, rfl⟩
        · have hjl : rs.take j = rs := List.take_of_length_le hkl
          rw [hjl] at hj2 ⊢
          rw [if_neg (by simp [hj2])]
          repeat' ((conv => whnf); first
            | (exfalso; omega)
            | refine seq_go ?_
            | refine arith_in (by omega) ?_
            | refine need_i (p := (T.row _).eq = true) (by kernel_rfl) ?_
            | refine need_i (by omega) ?_
            | refine br_not ?_
            | refine br_dec (fun hd => ?_) (fun hd => ?_)
            | refine br_lt (fun hlt => ?_) (fun hlt => ?_)
            | refine br_le (fun hle => ?_) (fun hle => ?_)
            | refine br_eq (fun heq => ?_) (fun heq => ?_)
            | refine idx_map (by omega) (fun x hx => ?_)
            | refine live_i rfl (fun h => by cases h) ?_
            | refine ret_i ?_)
          conv => whnf
          exact ⟨_, rfl, ⟨⟨rfl, rfl, trivial⟩, ⟨rfl, (fun h => by cases h), rfl⟩, rfl, trivial⟩, rfl⟩
  · rw [if_neg hW]
    have hnew : Sp 34 [I W] (.tup [envV 0 [], I 2]) := by
      have := New_spec W
      unfold newR newP at this
      rw [if_neg hW] at this
      exact this
    repeat' ((conv => whnf); first
      | (exfalso; omega)
      | refine call_i (hnew) false (by repeat' (first | exact trivial | refine And.intro ?_ ?_ | with_reducible rfl | exact (fun h => by cases h) | exact rfl)) rfl ?_
      | refine seq_go ?_
      | refine draw_i (by kernel_rfl) ?_
      | refine arith_in (by omega) ?_
      | refine need_i (p := (T.row _).eq = true) (by kernel_rfl) ?_
      | refine need_i (by omega) ?_
      | refine br_not ?_
      | refine br_dec (fun hd => ?_) (fun hd => ?_)
      | refine br_lt (fun hlt => ?_) (fun hlt => ?_)
      | refine br_le (fun hle => ?_) (fun hle => ?_)
      | refine br_eq (fun heq => ?_) (fun heq => ?_)
      | refine idx_map (by omega) (fun x hx => ?_)
      | refine live_i rfl (fun h => by cases h) ?_
      | refine ret_i ?_)
    conv => whnf
    exact ⟨_, rfl, ⟨⟨rfl, rfl, trivial⟩, rfl, rfl, trivial⟩, rfl⟩
theorem Pack_spec {W : Int} {rs : List (Int × Int)} (hl : rs.length ≤ 100000) : Sp 29 [I W, .sl (rs.map stepV)] (packR W rs) := sp_of Try.func29 (by kernel_rfl) (by kernel_rfl) (Pack_vc hl)
end Go.Proofs.Env41
