/-
  The functions of the envelopes, walked: tops and wastes.
-/
import Derived.Test.YtbmbfifobonfjaaW3
set_option linter.unusedVariables false
set_option linter.unusedSimpArgs false
namespace Go.Proofs.Env41
open Go Go.Proofs Go.Ab
set_option maxRecDepth 100000

theorem arith_mul {a b : Int} {K : Int → Prop} (h0 : 0 ≤ a) (h1 : a ≤ 1000000) (h2 : 0 ≤ b) (h3 : b ≤ 1000000) (hk : K (a * b)) : arith .i64 (a * b) K := by
  have h4 := Int.mul_nonneg h0 h2
  have h5 : a * b ≤ 1000000 * 1000000 := Int.mul_le_mul h1 h3 h2 (by omega)
  exact arith_in (by omega) hk
theorem int_eq {k : IntKind} {a b : Int} (h : a = b) : Value.int k a = Value.int k b := by rw [h]
theorem idx_at {α : Type} {f : α → V} {l : List α} {i : Nat} {s : α} {K : V → Prop} (h : l[i]? = some s) (hk : K (f s)) : idx (l.map f) i K := idx_i (f s) (by rw [List.getElem?_map, h]; rfl) hk
theorem step_top {W x w : Int} {l : Steps} (h : Val W l) {i : Nat} {s : Int × Int} (hx : 0 ≤ x) (hw : 1 ≤ w) (hxw : x + w ≤ W) (hs : l[i]? = some s) (h1 : s.1 < x + w) (h2 : x < endP W l i) : 0 ≤ s.2 ∧ s.2 ≤ topP l x w ∧ topP l x w ≤ 1000000 := by
  have hi := (List.getElem?_eq_some_iff.1 hs).1
  have h3 := begP_lt h hi
  rw [begP_some hs] at h3
  have e : colF l (max s.1 x) = s.2 := col_step h hs (by omega) (by omega)
  have h4 := (h.2.2.2 i s hs).2.1
  refine ⟨h4, ?_, (topP_bd h hx hxw).2⟩
  rw [← e]
  exact le_maxR (by omega) (by omega)
theorem waste_part {W x w : Int} {l : Steps} (h : Val W l) (hx : 0 ≤ x) (hw : 1 ≤ w) (hxw : x + w ≤ W) (i : Nat) : 0 ≤ sumR (fun z => topP l x w - colF l z) x (aheadP W l x w i) ∧ sumR (fun z => topP l x w - colF l z) x (aheadP W l x w i) ≤ 2000000000 := by
  have hle : aheadP W l x w i ≤ w.toNat := by unfold aheadP; omega
  have := sumR_bd (f := fun z => topP l x w - colF l z) (a := x) (b := 1000000) (n := aheadP W l x w i) (fun z hz1 hz2 => by
    have h1 := h.col (x := z) (by omega) (by omega)
    have h2 := topP_bd h hx hxw
    have h3 : colF l z ≤ topP l x w := le_maxR hz1 (by omega)
    show 0 ≤ topP l x w - colF l z ∧ topP l x w - colF l z ≤ 1000000
    omega)
  refine ⟨this.1, Int.le_trans this.2 ?_⟩
  have h2 := h.2.1
  have : (aheadP W l x w i : Int) * 1000000 ≤ 2000 * 1000000 := Int.mul_le_mul_of_nonneg_right (by omega) (by omega)
  omega
theorem begP_gt {W x : Int} {l : Steps} (h : Val W l) {i0 j : Nat} (he : x < endP W l i0) (hj : i0 ≤ j) (hl : j < l.length) : x < endP W l j := by
  have := begP_mono h (i := i0 + 1) (j := j + 1) (by omega)
  rw [← endP_beg, ← endP_beg] at this
  omega

theorem top_vc {W x0 w : Int} {l : List (Int × Int)} (h : Val W l) (hl : l.length ≤ 100000) (hr : InP W x0 w) : fnVC T Try.prog Try.f37 [envV W l, I x0, I w] (.tup [I (topP l x0 w), I (wasteP l x0 w)]) := by
  have hs : (l.map stepV).length = l.length := by simp
  have hW := h.1
  have hW2 := h.2.1
  obtain ⟨hx0, hw1, hxw⟩ := hr
  obtain ⟨i0, hi0, hb0, he0⟩ := find_step h (x := x0) (by omega) (by omega)
  repeat' ((conv => whnf); first
    | refine call_i (at_spec h hl hi0 hb0 he0) false (by repeat' (first | exact trivial | refine And.intro ?_ ?_ | with_reducible rfl | exact rfl)) rfl ?_
    | refine seq_go ?_
    | refine draw_i (by kernel_rfl) ?_
    | refine arith_in (by omega) ?_
    | refine need_i (p := (T.row _).eq = true) (by kernel_rfl) ?_
    | refine need_i (by omega) ?_
    | refine br_not ?_
    | refine br_dec (fun hd => ?_) (fun hd => ?_)
    | refine br_lt (fun hlt => ?_) (fun hlt => ?_)
    | refine br_le (fun hle => ?_) (fun hle => ?_)
    | refine br_eq (fun heq => ?_) (fun heq => ?_)
    | refine idx_map (by omega) (fun x hx => ?_)
    | refine live_i rfl (fun h => by cases h) ?_
    | refine ret_i ?_)
  refine loop_i (A := Nat) (fun j => mkSt [(1, I x0), (2, I w), (3, .box 3 0), (6, I (maxR (colF l) x0 (aheadP W l x0 w j))), (7, I 0), (8, I i0), (9, I j)] [(3, [I W, .sl (l.map stepV)])] [])
    (fun j => i0 ≤ j ∧ j ≤ l.length) (fun j => l.length - j) i0 ?_ ⟨by omega, by omega⟩ (fun j hj' => ?_)
  · refine le_mk ?_ ?_ ?_
    all_goals repeat' (first | exact trivial | refine And.intro ?_ ?_ | with_reducible rfl | exact Nat.le_refl _ | omega | exact rfl)
    · rw [ahead_zero hb0]; rfl
  · obtain ⟨hj1, hj2⟩ := hj'
    have hj4 : (j : Int).toNat = j := by omega
    repeat' ((conv => whnf); first
      | refine seq_go ?_
      | refine draw_i (by kernel_rfl) ?_
      | refine arith_in (by omega) ?_
      | refine need_i (p := (T.row _).eq = true) (by kernel_rfl) ?_
      | refine need_i (by omega) ?_
      | refine br_not ?_
      | refine br_dec (fun hd => ?_) (fun hd => ?_)
      | refine br_lt (fun hlt => ?_) (fun hlt => ?_)
      | refine br_le (fun hle => ?_) (fun hle => ?_)
      | refine br_eq (fun heq => ?_) (fun heq => ?_)
      | refine idx_map (by omega) (fun x hx => ?_)
      | refine live_i rfl (fun h => by cases h) ?_
      | refine ret_i ?_)
    · rename_i x1 hx1
      rw [hj4] at hx1 hx
      rw [hx1] at hx; cases hx
      refine ⟨j + 1, ?_, ⟨by omega, by omega⟩, by omega⟩
      refine le_mk ?_ ?_ ?_
      all_goals repeat' (first | exact trivial | refine And.intro ?_ ?_ | with_reducible rfl | exact Nat.le_refl _ | omega | exact rfl)
      · show maxI _ _ = _
        rw [maxI_eq, top_step h hx0 hw1 hxw hx1 (by omega) (begP_gt h he0 hj1 (by omega))]
    all_goals
      have ha : aheadP W l x0 w j = w.toNat := ahead_all hxw (fun hh => by first | omega | (rw [hj4] at hx; rw [begP_some hx]; omega))
      refine loop_i (A := Nat) (fun j => mkSt [(1, I x0), (2, I w), (3, .box 3 0), (6, I (topP l x0 w)), (7, I (sumR (fun z => topP l x0 w - colF l z) x0 (aheadP W l x0 w j))), (8, I i0), (10, I j)] [(3, [I W, .sl (l.map stepV)])] [])
        (fun j => i0 ≤ j ∧ j ≤ l.length) (fun j => l.length - j) i0 ?_ ⟨by omega, by omega⟩ (fun j2 hj' => ?_)
      · refine le_mk ?_ ?_ ?_
        all_goals repeat' (first | exact trivial | refine And.intro ?_ ?_ | with_reducible rfl | exact Nat.le_refl _ | omega | exact rfl)
        · show maxR _ _ _ = _
          rw [ha]; rfl
        · rw [ahead_zero hb0]; rfl
      · obtain ⟨hk1, hk2⟩ := hj'
        have hk4 : (j2 : Int).toNat = j2 := by omega
        rcases Nat.lt_or_ge j2 l.length with hkl | hkl
        · obtain ⟨s, hsj⟩ : ∃ s, l[j2]? = some s := ⟨l[j2], by simp⟩
          have hsj' : l[(j2 : Int).toNat]? = some s := by rw [hk4]; exact hsj
          by_cases hin : s.1 < x0 + w
          · have he := begP_gt h he0 hk1 hkl
            have hst := step_top h hx0 hw1 hxw hsj hin he
            have hbe := begP_lt h hkl
            rw [begP_some hsj] at hbe
            have hbn := begP_nn h j2
            rw [begP_some hsj] at hbn
            have hws : sumR (fun z => topP l x0 w - colF l z) x0 (aheadP W l x0 w j2) + (minI (endP W l j2) (x0 + w) - maxI s.1 x0) * (topP l x0 w - s.2) = sumR (fun z => topP l x0 w - colF l z) x0 (aheadP W l x0 w (j2 + 1)) := by
              rw [minI_eq, maxI_eq, waste_step h hx0 hw1 hxw hsj hin he]
            have hwp := waste_part h hx0 hw1 hxw (j2 + 1)
            repeat' ((conv => whnf); first
              | refine call_i (end_spec W j2 l hl hkl) true (by repeat' (first | exact trivial | refine And.intro ?_ ?_ | with_reducible rfl | exact rfl)) rfl ?_
              | refine idx_at hsj' ?_
              | refine arith_in (by rw [minI_eq, maxI_eq]; omega) ?_
              | refine arith_mul (by rw [minI_eq, maxI_eq]; omega) (by rw [minI_eq, maxI_eq]; omega) (by omega) (by omega) ?_
              | refine arith_in (by rw [hws]; omega) ?_
              | refine seq_go ?_
              | refine draw_i (by kernel_rfl) ?_
              | refine arith_in (by omega) ?_
              | refine need_i (p := (T.row _).eq = true) (by kernel_rfl) ?_
              | refine need_i (by omega) ?_
              | refine br_not ?_
              | refine br_dec (fun hd => ?_) (fun hd => ?_)
              | refine br_lt (fun hlt => ?_) (fun hlt => ?_)
              | refine br_le (fun hle => ?_) (fun hle => ?_)
              | refine br_eq (fun heq => ?_) (fun heq => ?_)
              | refine idx_map (by omega) (fun x hx => ?_)
              | refine live_i rfl (fun h => by cases h) ?_
              | refine ret_i ?_)
            all_goals try (exfalso; omega)
            refine ⟨j2 + 1, ?_, ⟨by omega, by omega⟩, by omega⟩
            refine le_mk ?_ ?_ ?_
            all_goals repeat' (first | exact trivial | refine And.intro ?_ ?_ | with_reducible rfl | exact Nat.le_refl _ | omega | exact rfl)
          · have ha2 : aheadP W l x0 w j2 = w.toNat := ahead_all hxw (fun hh => by rw [begP_some hsj]; omega)
            repeat' ((conv => whnf); first
              | refine idx_at hsj' ?_
              | refine seq_go ?_
              | refine draw_i (by kernel_rfl) ?_
              | refine arith_in (by omega) ?_
              | refine need_i (p := (T.row _).eq = true) (by kernel_rfl) ?_
              | refine need_i (by omega) ?_
              | refine br_not ?_
              | refine br_dec (fun hd => ?_) (fun hd => ?_)
              | refine br_lt (fun hlt => ?_) (fun hlt => ?_)
              | refine br_le (fun hle => ?_) (fun hle => ?_)
              | refine br_eq (fun heq => ?_) (fun heq => ?_)
              | refine idx_map (by omega) (fun x hx => ?_)
              | refine live_i rfl (fun h => by cases h) ?_
              | refine ret_i ?_)
            all_goals try (exfalso; omega)
            conv => whnf
            exact ⟨_, rfl, ⟨rfl, int_eq (by rw [ha2]; rfl), trivial⟩, rfl⟩
        · have ha2 : aheadP W l x0 w j2 = w.toNat := ahead_all hxw (fun hh => by omega)
          repeat' ((conv => whnf); first
            | refine seq_go ?_
            | refine draw_i (by kernel_rfl) ?_
            | refine arith_in (by omega) ?_
            | refine need_i (p := (T.row _).eq = true) (by kernel_rfl) ?_
            | refine need_i (by omega) ?_
            | refine br_not ?_
            | refine br_dec (fun hd => ?_) (fun hd => ?_)
            | refine br_lt (fun hlt => ?_) (fun hlt => ?_)
            | refine br_le (fun hle => ?_) (fun hle => ?_)
            | refine br_eq (fun heq => ?_) (fun heq => ?_)
            | refine idx_map (by omega) (fun x hx => ?_)
            | refine live_i rfl (fun h => by cases h) ?_
            | refine ret_i ?_)
          all_goals try (exfalso; omega)
          conv => whnf
          exact ⟨_, rfl, ⟨rfl, int_eq (by rw [ha2]; rfl), trivial⟩, rfl⟩
theorem top_spec {W x0 w : Int} {l : List (Int × Int)} (h : Val W l) (hl : l.length ≤ 100000) (hr : InP W x0 w) : Sp 37 [envV W l, I x0, I w] (.tup [I (topP l x0 w), I (wasteP l x0 w)]) := sp_of Try.func37 (by kernel_rfl) (by kernel_rfl) (top_vc h hl hr)

open Classical in
/-- what Top answers -/
noncomputable def topR (W : Int) (l : Steps) (x w : Int) : V := if Val W l then (if InP W x w then .tup [I (topP l x w), I (wasteP l x w), I 0] else .tup [I 0, I 0, I 2]) else .tup [I 0, I 0, I 1]
theorem Top_vc {W x0 w : Int} {l : List (Int × Int)} (hl : l.length ≤ 100000) : fnVC T Try.prog Try.f20 [envV W l, I x0, I w] (topR W l x0 w) := by
  unfold topR
  by_cases h : Val W l
  · rw [if_pos h]
    by_cases hr : InP W x0 w
    · rw [if_pos hr]
      repeat' ((conv => whnf); first
        | refine call_i (valid_spec W l hl) false (by repeat' (first | exact trivial | refine And.intro ?_ ?_ | with_reducible rfl | exact rfl)) rfl ?_
        | refine call_i (ranged_spec W x0 w l ⟨h.1, h.2.1⟩) false (by repeat' (first | exact trivial | refine And.intro ?_ ?_ | with_reducible rfl | exact rfl)) rfl ?_
        | refine call_i (top_spec h hl hr) false (by repeat' (first | exact trivial | refine And.intro ?_ ?_ | with_reducible rfl | exact rfl)) rfl ?_
        | refine seq_go ?_
        | refine draw_i (by kernel_rfl) ?_
        | refine arith_in (by omega) ?_
        | refine need_i (p := (T.row _).eq = true) (by kernel_rfl) ?_
        | refine need_i (by omega) ?_
        | refine br_not ?_
        | refine br_dec (fun hd => ?_) (fun hd => ?_)
        | refine br_lt (fun hlt => ?_) (fun hlt => ?_)
        | refine br_le (fun hle => ?_) (fun hle => ?_)
        | refine br_eq (fun heq => ?_) (fun heq => ?_)
        | refine idx_map (by omega) (fun x hx => ?_)
        | refine live_i rfl (fun h => by cases h) ?_
        | refine ret_i ?_)
      all_goals try contradiction
      conv => whnf
      exact ⟨_, rfl, ⟨rfl, rfl, rfl, trivial⟩, rfl⟩
    · rw [if_neg hr]
      repeat' ((conv => whnf); first
        | refine br_dec (fun hd => absurd hd (by assumption)) (fun hd => ?_)
        | refine call_i (valid_spec W l hl) false (by repeat' (first | exact trivial | refine And.intro ?_ ?_ | with_reducible rfl | exact rfl)) rfl ?_
        | refine call_i (ranged_spec W x0 w l ⟨h.1, h.2.1⟩) false (by repeat' (first | exact trivial | refine And.intro ?_ ?_ | with_reducible rfl | exact rfl)) rfl ?_
        | refine seq_go ?_
        | refine draw_i (by kernel_rfl) ?_
        | refine arith_in (by omega) ?_
        | refine need_i (p := (T.row _).eq = true) (by kernel_rfl) ?_
        | refine need_i (by omega) ?_
        | refine br_not ?_
        | refine br_dec (fun hd => ?_) (fun hd => ?_)
        | refine br_lt (fun hlt => ?_) (fun hlt => ?_)
        | refine br_le (fun hle => ?_) (fun hle => ?_)
        | refine br_eq (fun heq => ?_) (fun heq => ?_)
        | refine idx_map (by omega) (fun x hx => ?_)
        | refine live_i rfl (fun h => by cases h) ?_
        | refine ret_i ?_)
      all_goals try contradiction
      conv => whnf
      exact ⟨_, rfl, ⟨rfl, rfl, rfl, trivial⟩, rfl⟩
  · rw [if_neg h]
    repeat' ((conv => whnf); first
      | refine br_dec (fun hd => absurd hd (by assumption)) (fun hd => ?_)
      | refine call_i (valid_spec W l hl) false (by repeat' (first | exact trivial | refine And.intro ?_ ?_ | with_reducible rfl | exact rfl)) rfl ?_
      | refine seq_go ?_
      | refine draw_i (by kernel_rfl) ?_
      | refine arith_in (by omega) ?_
      | refine need_i (p := (T.row _).eq = true) (by kernel_rfl) ?_
      | refine need_i (by omega) ?_
      | refine br_not ?_
      | refine br_dec (fun hd => ?_) (fun hd => ?_)
      | refine br_lt (fun hlt => ?_) (fun hlt => ?_)
      | refine br_le (fun hle => ?_) (fun hle => ?_)
      | refine br_eq (fun heq => ?_) (fun heq => ?_)
      | refine idx_map (by omega) (fun x hx => ?_)
      | refine live_i rfl (fun h => by cases h) ?_
      | refine ret_i ?_)
    all_goals try contradiction
    conv => whnf
    exact ⟨_, rfl, ⟨rfl, rfl, rfl, trivial⟩, rfl⟩
theorem Top_spec {W x0 w : Int} {l : List (Int × Int)} (hl : l.length ≤ 100000) : Sp 20 [envV W l, I x0, I w] (topR W l x0 w) := sp_of Try.func20 (by kernel_rfl) (by kernel_rfl) (Top_vc hl)

theorem rTop_vc {W x0 w : Int} {l : List (Int × Int)} (hl : l.length ≤ 100000) : fnVC T Try.prog Try.f18 [envV W l, I x0, I w] (topR W l x0 w) := by
  unfold topR
  by_cases h : Val W l
  · rw [if_pos h]
    have hW := h.1
    have hW2 := h.2.1
    by_cases hr : InP W x0 w
    · rw [if_pos hr]
      obtain ⟨hx0, hw1, hxw⟩ := id hr
      repeat' ((conv => whnf); first
        | refine br_dec (fun hd => ?_) (fun hd => absurd (by assumption) hd)
        | refine call_i (rvalid_spec W l hl) false (by repeat' (first | exact trivial | refine And.intro ?_ ?_ | with_reducible rfl | exact rfl)) rfl ?_
        | refine call_i (rranged_spec W x0 w l ⟨h.1, h.2.1⟩) false (by repeat' (first | exact trivial | refine And.intro ?_ ?_ | with_reducible rfl | exact rfl)) rfl ?_
        | refine call_i (columns_spec h hl) false (by repeat' (first | exact trivial | refine And.intro ?_ ?_ | with_reducible rfl | exact rfl)) rfl ?_
        | refine seq_go ?_
        | refine draw_i (by kernel_rfl) ?_
        | refine arith_in (by omega) ?_
        | refine need_i (p := (T.row _).eq = true) (by kernel_rfl) ?_
        | refine need_i (by omega) ?_
        | refine br_not ?_
        | refine br_dec (fun hd => ?_) (fun hd => ?_)
        | refine br_lt (fun hlt => ?_) (fun hlt => ?_)
        | refine br_le (fun hle => ?_) (fun hle => ?_)
        | refine br_eq (fun heq => ?_) (fun heq => ?_)
        | refine idx_map (by omega) (fun x hx => ?_)
        | refine live_i rfl (fun h => by cases h) ?_
        | refine ret_i ?_)
      refine loop_i (A := Nat) (fun j => mkSt [(1, I x0), (2, I w), (9, .arr 23 0), (10, I (maxR (colF l) x0 j)), (11, I 0), (12, I (x0 + j))] [] [(23, ⟨0, .own, 3, hv (colF l) W.toNat⟩)])
        (fun j => x0 + j ≤ x0 + w) (fun j => w.toNat - j) 0 ?_ (by omega) (fun j hj' => ?_)
      · refine le_mk ?_ ?_ ?_
        all_goals repeat' (first | exact trivial | refine And.intro ?_ ?_ | with_reducible rfl | exact Nat.le_refl _ | omega | exact rfl)
      · change x0 + j ≤ x0 + w at hj'
        repeat' ((conv => whnf); first
          | (refine need_hv rfl (fun h => by cases h) rfl ?_ ?_; omega)
          | (refine idx_hv ?_ ?_; omega)
          | refine seq_go ?_
          | refine draw_i (by kernel_rfl) ?_
          | refine arith_in (by omega) ?_
          | refine need_i (p := (T.row _).eq = true) (by kernel_rfl) ?_
          | refine need_i (by omega) ?_
          | refine br_not ?_
          | refine br_dec (fun hd => ?_) (fun hd => ?_)
          | refine br_lt (fun hlt => ?_) (fun hlt => ?_)
          | refine br_le (fun hle => ?_) (fun hle => ?_)
          | refine br_eq (fun heq => ?_) (fun heq => ?_)
          | refine idx_map (by omega) (fun x hx => ?_)
          | refine live_i rfl (fun h => by cases h) ?_
          | refine ret_i ?_)
        · refine ⟨j + 1, ?_, by omega, by omega⟩
          refine le_mk ?_ ?_ ?_
          all_goals repeat' (first | exact trivial | refine And.intro ?_ ?_ | with_reducible rfl | exact Nat.le_refl _ | omega | exact rfl)
          · exact maxI_eq _ _
        · have hjw : j = w.toNat := by omega
          subst hjw
          refine loop_i (A := Nat) (fun j => mkSt [(1, I x0), (2, I w), (9, .arr 23 0), (10, I (topP l x0 w)), (11, I (sumR (fun z => topP l x0 w - colF l z) x0 j)), (13, I (x0 + j))] [] [(23, ⟨0, .own, 3, hv (colF l) W.toNat⟩)])
            (fun j => x0 + j ≤ x0 + w) (fun j => w.toNat - j) 0 ?_ (by omega) (fun j hj' => ?_)
          · refine le_mk ?_ ?_ ?_
            all_goals repeat' (first | exact trivial | refine And.intro ?_ ?_ | with_reducible rfl | exact Nat.le_refl _ | omega | exact rfl)
          · change x0 + j ≤ x0 + w at hj'
            have hb1 := topP_bd h hx0 hxw
            rcases Int.lt_or_le (x0 + j) (x0 + w) with hjl | hjl
            · have hb2 := h.col (x := x0 + j) (by omega) (by omega)
              have hb3 := sumR_bd (f := fun z => topP l x0 w - colF l z) (a := x0) (b := 1000000) (n := j) (fun z hz1 hz2 => by
                have h1 := h.col (x := z) (by omega) (by omega)
                have h3 : colF l z ≤ topP l x0 w := le_maxR hz1 (by omega)
                show 0 ≤ topP l x0 w - colF l z ∧ topP l x0 w - colF l z ≤ 1000000
                omega)
              repeat' ((conv => whnf); first
                | (refine need_hv rfl (fun h => by cases h) rfl ?_ ?_; omega)
                | (refine idx_hv ?_ ?_; omega)
                | refine seq_go ?_
                | refine draw_i (by kernel_rfl) ?_
                | refine arith_in (by omega) ?_
                | refine need_i (p := (T.row _).eq = true) (by kernel_rfl) ?_
                | refine need_i (by omega) ?_
                | refine br_not ?_
                | refine br_dec (fun hd => ?_) (fun hd => ?_)
                | refine br_lt (fun hlt => ?_) (fun hlt => ?_)
                | refine br_le (fun hle => ?_) (fun hle => ?_)
                | refine br_eq (fun heq => ?_) (fun heq => ?_)
                | refine idx_map (by omega) (fun x hx => ?_)
                | refine live_i rfl (fun h => by cases h) ?_
                | refine ret_i ?_)
              all_goals try (exfalso; omega)
              refine ⟨j + 1, ?_, by omega, by omega⟩
              refine le_mk ?_ ?_ ?_
              all_goals repeat' (first | exact trivial | refine And.intro ?_ ?_ | with_reducible rfl | exact Nat.le_refl _ | omega | exact rfl)
            · have hjw : j = w.toNat := by omega
              subst hjw
              repeat' ((conv => whnf); first
                | refine seq_go ?_
                | refine draw_i (by kernel_rfl) ?_
                | refine arith_in (by omega) ?_
                | refine need_i (p := (T.row _).eq = true) (by kernel_rfl) ?_
                | refine need_i (by omega) ?_
                | refine br_not ?_
                | refine br_dec (fun hd => ?_) (fun hd => ?_)
                | refine br_lt (fun hlt => ?_) (fun hlt => ?_)
                | refine br_le (fun hle => ?_) (fun hle => ?_)
                | refine br_eq (fun heq => ?_) (fun heq => ?_)
                | refine idx_map (by omega) (fun x hx => ?_)
                | refine live_i rfl (fun h => by cases h) ?_
                | refine ret_i ?_)
              all_goals try (exfalso; omega)
              conv => whnf
              exact ⟨_, rfl, ⟨rfl, rfl, rfl, trivial⟩, rfl⟩
    · rw [if_neg hr]
      repeat' ((conv => whnf); first
        | refine br_dec (fun hd => ?_) (fun hd => absurd (by assumption) hd)
        | refine br_dec (fun hd => absurd hd (by assumption)) (fun hd => ?_)
        | refine call_i (rvalid_spec W l hl) false (by repeat' (first | exact trivial | refine And.intro ?_ ?_ | with_reducible rfl | exact rfl)) rfl ?_
        | refine call_i (rranged_spec W x0 w l ⟨h.1, h.2.1⟩) false (by repeat' (first | exact trivial | refine And.intro ?_ ?_ | with_reducible rfl | exact rfl)) rfl ?_
        | refine seq_go ?_
        | refine draw_i (by kernel_rfl) ?_
        | refine arith_in (by omega) ?_
        | refine need_i (p := (T.row _).eq = true) (by kernel_rfl) ?_
        | refine need_i (by omega) ?_
        | refine br_not ?_
        | refine br_dec (fun hd => ?_) (fun hd => ?_)
        | refine br_lt (fun hlt => ?_) (fun hlt => ?_)
        | refine br_le (fun hle => ?_) (fun hle => ?_)
        | refine br_eq (fun heq => ?_) (fun heq => ?_)
        | refine idx_map (by omega) (fun x hx => ?_)
        | refine live_i rfl (fun h => by cases h) ?_
        | refine ret_i ?_)
      conv => whnf
      exact ⟨_, rfl, ⟨rfl, rfl, rfl, trivial⟩, rfl⟩
  · rw [if_neg h]
    repeat' ((conv => whnf); first
      | refine br_dec (fun hd => absurd hd (by assumption)) (fun hd => ?_)
      | refine call_i (rvalid_spec W l hl) false (by repeat' (first | exact trivial | refine And.intro ?_ ?_ | with_reducible rfl | exact rfl)) rfl ?_
      | refine seq_go ?_
      | refine draw_i (by kernel_rfl) ?_
      | refine arith_in (by omega) ?_
      | refine need_i (p := (T.row _).eq = true) (by kernel_rfl) ?_
      | refine need_i (by omega) ?_
      | refine br_not ?_
      | refine br_dec (fun hd => ?_) (fun hd => ?_)
      | refine br_lt (fun hlt => ?_) (fun hlt => ?_)
      | refine br_le (fun hle => ?_) (fun hle => ?_)
      | refine br_eq (fun heq => ?_) (fun heq => ?_)
      | refine idx_map (by omega) (fun x hx => ?_)
      | refine live_i rfl (fun h => by cases h) ?_
      | refine ret_i ?_)
    conv => whnf
    exact ⟨_, rfl, ⟨rfl, rfl, rfl, trivial⟩, rfl⟩
theorem rTop_spec {W x0 w : Int} {l : List (Int × Int)} (hl : l.length ≤ 100000) : Sp 18 [envV W l, I x0, I w] (topR W l x0 w) := sp_of Try.func18 (by kernel_rfl) (by kernel_rfl) (rTop_vc hl)
end Go.Proofs.Env41
