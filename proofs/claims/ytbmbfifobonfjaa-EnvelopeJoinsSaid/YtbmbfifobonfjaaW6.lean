/-
  The functions of the envelopes, walked: raising by columns, heights, areas.
-/
import Derived.Test.YtbmbfifobonfjaaW5
set_option linter.unusedVariables false
set_option linter.unusedSimpArgs false
namespace Go.Proofs.Env41
open Go Go.Proofs Go.Ab
set_option maxRecDepth 100000

theorem rRaise_vc {W x0 w y : Int} {l : List (Int × Int)} (hl : l.length ≤ 10000) : fnVC T Try.prog Try.f22 [envV W l, I x0, I w, I y] (raiseR W l x0 w y) := by
  unfold raiseR
  by_cases h : Val W l
  · rw [if_pos h]
    have hW := h.1
    have hW2 := h.2.1
    by_cases hr : InP W x0 w ∧ 0 ≤ y ∧ y ≤ 1000000
    · rw [if_pos hr]
      obtain ⟨⟨hx0, hw1, hxw⟩, hy0, hy1⟩ := id hr
      repeat' ((conv => whnf); first
        | refine br_dec (fun hd => ?_) (fun hd => absurd (by first | assumption | exact hr.1 | exact hr.2) hd)
        | (exfalso; omega)
        | refine call_i (rvalid_spec W l (by omega)) false (by repeat' (first | exact trivial | refine And.intro ?_ ?_ | with_reducible rfl | exact (fun h => by cases h) | exact rfl)) rfl ?_
        | refine call_i (rranged_spec W x0 w l ⟨h.1, h.2.1⟩) false (by repeat' (first | exact trivial | refine And.intro ?_ ?_ | with_reducible rfl | exact (fun h => by cases h) | exact rfl)) rfl ?_
        | refine call_i (columns_spec h (by omega)) false (by repeat' (first | exact trivial | refine And.intro ?_ ?_ | with_reducible rfl | exact (fun h => by cases h) | exact rfl)) rfl ?_
        | refine seq_go ?_
        | refine draw_i (by kernel_rfl) ?_
        | refine arith_in (by omega) ?_
        | refine need_i (p := (T.row _).eq = true) (by kernel_rfl) ?_
        | refine need_i (by omega) ?_
        | refine br_not ?_
        | refine br_dec (fun hd => ?_) (fun hd => ?_)
        | refine br_lt (fun hlt => ?_) (fun hlt => ?_)
        | refine br_le (fun hle => ?_) (fun hle => ?_)
        | refine br_eq (fun heq => ?_) (fun heq => ?_)
        | refine idx_map (by omega) (fun x hx => ?_)
        | refine live_i rfl (fun h => by cases h) ?_
        | refine ret_i ?_)
      refine loop_i (A := Nat) (fun j => mkSt [(1, I x0), (2, I w), (3, I y), (8, .box 8 0), (10, .arr 31 0), (11, I (x0 + j))] [(8, [I 0, .lit (.slice none 0 0)])] [(31, ⟨0, .own, 3, hv (setF (colF l) x0 j y) W.toNat⟩)])
        (fun j => x0 + j ≤ x0 + w) (fun j => w.toNat - j) 0 ?_ (by omega) (fun j hj' => ?_)
      · refine le_mk ?_ ?_ ?_
        all_goals repeat' (first | exact trivial | refine And.intro ?_ ?_ | with_reducible rfl | exact Nat.le_refl _ | omega | exact rfl)
        refine hv_congr (fun z h0 h1 => ?_)
        unfold setF; rw [if_neg (by omega)]
      · change x0 + j ≤ x0 + w at hj'
        have hWW : ((W.toNat : Nat) : Int) = W := by omega
        rcases Int.lt_or_le (x0 + j) (x0 + w) with hjl | hjl
        · repeat' ((conv => whnf); first
            | (exfalso; omega)
            | (refine need_hv rfl (fun h => by cases h) rfl ?_ ?_; omega)
            | refine own_i rfl rfl ?_
            | (refine idx_hv ?_ ?_; omega)
            | refine seq_go ?_
            | refine draw_i (by kernel_rfl) ?_
            | refine arith_in (by omega) ?_
            | refine need_i (p := (T.row _).eq = true) (by kernel_rfl) ?_
            | refine need_i (by omega) ?_
            | refine br_not ?_
            | refine br_dec (fun hd => ?_) (fun hd => ?_)
            | refine br_lt (fun hlt => ?_) (fun hlt => ?_)
            | refine br_le (fun hle => ?_) (fun hle => ?_)
            | refine br_eq (fun heq => ?_) (fun heq => ?_)
            | refine idx_map (by omega) (fun x hx => ?_)
            | refine live_i rfl (fun h => by cases h) ?_
            | refine ret_i ?_)
          refine ⟨j + 1, ?_, by omega, by omega⟩
          refine le_mk ?_ ?_ ?_
          all_goals repeat' (first | exact trivial | refine And.intro ?_ ?_ | with_reducible rfl | exact Nat.le_refl _ | omega | exact rfl)
          · refine (hv_set _ _ (by omega) _).trans (hv_congr (fun z h0 h1 => ?_))
            unfold setF
            by_cases h3 : x0 ≤ z ∧ z < x0 + ((j + 1 : Nat) : Int)
            · rw [if_pos h3]
              by_cases h4 : z = x0 + j
              · rw [if_pos h4]
              · rw [if_neg h4, if_pos (by omega)]
            · rw [if_neg h3, if_neg (by omega), if_neg (by omega)]
        · have hjw : (j : Int) = w := by omega
          rw [hjw]
          repeat' ((conv => whnf); first
            | (exfalso; omega)
            | refine call_i (of_spec (setF (colF l) x0 w y) (n := W.toNat) (by omega)) false (by repeat' (first | exact trivial | refine And.intro ?_ ?_ | with_reducible rfl | exact (fun h => by cases h) | exact rfl)) rfl ?_
            | refine seq_go ?_
            | refine draw_i (by kernel_rfl) ?_
            | refine arith_in (by omega) ?_
            | refine need_i (p := (T.row _).eq = true) (by kernel_rfl) ?_
            | refine need_i (by omega) ?_
            | refine br_not ?_
            | refine br_dec (fun hd => ?_) (fun hd => ?_)
            | refine br_lt (fun hlt => ?_) (fun hlt => ?_)
            | refine br_le (fun hle => ?_) (fun hle => ?_)
            | refine br_eq (fun heq => ?_) (fun heq => ?_)
            | refine idx_map (by omega) (fun x hx => ?_)
            | refine live_i rfl (fun h => by cases h) ?_
            | refine ret_i ?_)
          conv => whnf
          refine ⟨_, rfl, ⟨⟨int_eq hWW, rfl, trivial⟩, rfl, trivial⟩, rfl⟩
    · rw [if_neg hr]
      repeat' ((conv => whnf); first
        | refine br_dec (fun hd => ?_) (fun hd => absurd h hd)
        | refine call_i (rvalid_spec W l (by omega)) false (by repeat' (first | exact trivial | refine And.intro ?_ ?_ | with_reducible rfl | exact (fun h => by cases h) | exact rfl)) rfl ?_
        | refine call_i (rranged_spec W x0 w l ⟨h.1, h.2.1⟩) false (by repeat' (first | exact trivial | refine And.intro ?_ ?_ | with_reducible rfl | exact (fun h => by cases h) | exact rfl)) rfl ?_
        | exact absurd ⟨by assumption, by omega, by omega⟩ hr
        | refine seq_go ?_
        | refine draw_i (by kernel_rfl) ?_
        | refine arith_in (by omega) ?_
        | refine need_i (p := (T.row _).eq = true) (by kernel_rfl) ?_
        | refine need_i (by omega) ?_
        | refine br_not ?_
        | refine br_dec (fun hd => ?_) (fun hd => ?_)
        | refine br_lt (fun hlt => ?_) (fun hlt => ?_)
        | refine br_le (fun hle => ?_) (fun hle => ?_)
        | refine br_eq (fun heq => ?_) (fun heq => ?_)
        | refine idx_map (by omega) (fun x hx => ?_)
        | refine live_i rfl (fun h => by cases h) ?_
        | refine ret_i ?_)
      all_goals
        conv => whnf
        exact ⟨_, rfl, ⟨⟨rfl, rfl, trivial⟩, rfl, trivial⟩, rfl⟩
  · rw [if_neg h]
    repeat' ((conv => whnf); first
      | refine br_dec (fun hd => absurd hd (by assumption)) (fun hd => ?_)
      | refine call_i (rvalid_spec W l (by omega)) false (by repeat' (first | exact trivial | refine And.intro ?_ ?_ | with_reducible rfl | exact (fun h => by cases h) | exact rfl)) rfl ?_
      | refine seq_go ?_
      | refine draw_i (by kernel_rfl) ?_
      | refine arith_in (by omega) ?_
      | refine need_i (p := (T.row _).eq = true) (by kernel_rfl) ?_
      | refine need_i (by omega) ?_
      | refine br_not ?_
      | refine br_dec (fun hd => ?_) (fun hd => ?_)
      | refine br_lt (fun hlt => ?_) (fun hlt => ?_)
      | refine br_le (fun hle => ?_) (fun hle => ?_)
      | refine br_eq (fun heq => ?_) (fun heq => ?_)
      | refine idx_map (by omega) (fun x hx => ?_)
      | refine live_i rfl (fun h => by cases h) ?_
      | refine ret_i ?_)
    conv => whnf
    exact ⟨_, rfl, ⟨⟨rfl, rfl, trivial⟩, rfl, trivial⟩, rfl⟩
theorem rRaise_spec {W x0 w y : Int} {l : List (Int × Int)} (hl : l.length ≤ 10000) : Sp 22 [envV W l, I x0, I w, I y] (raiseR W l x0 w y) := sp_of Try.func22 (by kernel_rfl) (by kernel_rfl) (rRaise_vc hl)

open Classical in
noncomputable def heightP (W : Int) (l : Steps) (x : Int) : Int := if Val W l ∧ 0 ≤ x ∧ x < W then colF l x else 0
theorem Height_vc {W x0 : Int} {l : List (Int × Int)} (hl : l.length ≤ 10000) : fnVC T Try.prog Try.f19 [envV W l, I x0] (I (heightP W l x0)) := by
  have hs : (l.map stepV).length = l.length := by simp
  unfold heightP
  by_cases h : Val W l
  · have hW := h.1
    have hW2 := h.2.1
    by_cases hr : 0 ≤ x0 ∧ x0 ≤ W - 1
    · rw [if_pos ⟨h, hr.1, by omega⟩]
      obtain ⟨i0, hi0, hb0, he0⟩ := find_step h (x := x0) (by omega) (by omega)
      obtain ⟨s, hsj⟩ : ∃ s, l[i0]? = some s := ⟨l[i0], by simp⟩
      have hsj' : l[(i0 : Int).toNat]? = some s := by rw [show (i0 : Int).toNat = i0 by omega]; exact hsj
      repeat' ((conv => whnf); first
        | refine br_dec (fun hd => ?_) (fun hd => absurd (by first | assumption) hd)
        | refine call_i (valid_spec W l (by omega)) false (by repeat' (first | exact trivial | refine And.intro ?_ ?_ | with_reducible rfl | exact (fun h => by cases h) | exact rfl)) rfl ?_
        | refine call_i (in_spec _ _ _) false (by repeat' (first | exact trivial | refine And.intro ?_ ?_ | with_reducible rfl | exact (fun h => by cases h) | exact rfl)) rfl ?_
        | refine call_i (at_spec h (by omega) hi0 hb0 he0) false (by repeat' (first | exact trivial | refine And.intro ?_ ?_ | with_reducible rfl | exact (fun h => by cases h) | exact rfl)) rfl ?_
        | refine idx_at hsj' ?_
        | refine seq_go ?_
        | refine draw_i (by kernel_rfl) ?_
        | refine arith_in (by omega) ?_
        | refine need_i (p := (T.row _).eq = true) (by kernel_rfl) ?_
        | refine need_i (by omega) ?_
        | refine br_not ?_
        | refine br_dec (fun hd => ?_) (fun hd => ?_)
        | refine br_lt (fun hlt => ?_) (fun hlt => ?_)
        | refine br_le (fun hle => ?_) (fun hle => ?_)
        | refine br_eq (fun heq => ?_) (fun heq => ?_)
        | refine idx_map (by omega) (fun x hx => ?_)
        | refine live_i rfl (fun h => by cases h) ?_
        | refine ret_i ?_)
      refine ret_int ?_
      rw [begP_some hsj] at hb0
      exact (col_step h hsj hb0 he0).symm
    · rw [if_neg (fun hh => hr ⟨hh.2.1, by omega⟩)]
      repeat' ((conv => whnf); first
        | refine br_dec (fun hd => ?_) (fun hd => absurd h hd)
        | refine br_dec (fun hd => absurd hd (by assumption)) (fun hd => ?_)
        | refine call_i (valid_spec W l (by omega)) false (by repeat' (first | exact trivial | refine And.intro ?_ ?_ | with_reducible rfl | exact (fun h => by cases h) | exact rfl)) rfl ?_
        | refine call_i (in_spec _ _ _) false (by repeat' (first | exact trivial | refine And.intro ?_ ?_ | with_reducible rfl | exact (fun h => by cases h) | exact rfl)) rfl ?_
        | refine seq_go ?_
        | refine draw_i (by kernel_rfl) ?_
        | refine arith_in (by omega) ?_
        | refine need_i (p := (T.row _).eq = true) (by kernel_rfl) ?_
        | refine need_i (by omega) ?_
        | refine br_not ?_
        | refine br_dec (fun hd => ?_) (fun hd => ?_)
        | refine br_lt (fun hlt => ?_) (fun hlt => ?_)
        | refine br_le (fun hle => ?_) (fun hle => ?_)
        | refine br_eq (fun heq => ?_) (fun heq => ?_)
        | refine idx_map (by omega) (fun x hx => ?_)
        | refine live_i rfl (fun h => by cases h) ?_
        | refine ret_i ?_)
      exact ret_int rfl
  · rw [if_neg (fun hh => h hh.1)]
    repeat' ((conv => whnf); first
      | refine br_dec (fun hd => absurd hd (by assumption)) (fun hd => ?_)
      | refine call_i (valid_spec W l (by omega)) false (by repeat' (first | exact trivial | refine And.intro ?_ ?_ | with_reducible rfl | exact (fun h => by cases h) | exact rfl)) rfl ?_
      | refine seq_go ?_
      | refine draw_i (by kernel_rfl) ?_
      | refine arith_in (by omega) ?_
      | refine need_i (p := (T.row _).eq = true) (by kernel_rfl) ?_
      | refine need_i (by omega) ?_
      | refine br_not ?_
      | refine br_dec (fun hd => ?_) (fun hd => ?_)
      | refine br_lt (fun hlt => ?_) (fun hlt => ?_)
      | refine br_le (fun hle => ?_) (fun hle => ?_)
      | refine br_eq (fun heq => ?_) (fun heq => ?_)
      | refine idx_map (by omega) (fun x hx => ?_)
      | refine live_i rfl (fun h => by cases h) ?_
      | refine ret_i ?_)
    exact ret_int rfl
theorem Height_spec {W x0 : Int} {l : List (Int × Int)} (hl : l.length ≤ 10000) : Sp 19 [envV W l, I x0] (I (heightP W l x0)) := sp_of Try.func19 (by kernel_rfl) (by kernel_rfl) (Height_vc hl)
theorem rHeight_vc {W x0 : Int} {l : List (Int × Int)} (hl : l.length ≤ 10000) : fnVC T Try.prog Try.f24 [envV W l, I x0] (I (heightP W l x0)) := by
  unfold heightP
  by_cases h : Val W l
  · have hW := h.1
    have hW2 := h.2.1
    by_cases hr : 0 ≤ x0 ∧ x0 < W
    · rw [if_pos ⟨h, hr.1, by omega⟩]
      repeat' ((conv => whnf); first
        | refine br_dec (fun hd => ?_) (fun hd => absurd (by first | assumption) hd)
        | (exfalso; omega)
        | refine call_i (rvalid_spec W l (by omega)) false (by repeat' (first | exact trivial | refine And.intro ?_ ?_ | with_reducible rfl | exact (fun h => by cases h) | exact rfl)) rfl ?_
        | refine call_i (columns_spec h (by omega)) false (by repeat' (first | exact trivial | refine And.intro ?_ ?_ | with_reducible rfl | exact (fun h => by cases h) | exact rfl)) rfl ?_
        | (refine need_hv rfl (fun h => by cases h) rfl ?_ ?_; omega)
        | (refine idx_hv ?_ ?_; omega)
        | refine seq_go ?_
        | refine draw_i (by kernel_rfl) ?_
        | refine arith_in (by omega) ?_
        | refine need_i (p := (T.row _).eq = true) (by kernel_rfl) ?_
        | refine need_i (by omega) ?_
        | refine br_not ?_
        | refine br_dec (fun hd => ?_) (fun hd => ?_)
        | refine br_lt (fun hlt => ?_) (fun hlt => ?_)
        | refine br_le (fun hle => ?_) (fun hle => ?_)
        | refine br_eq (fun heq => ?_) (fun heq => ?_)
        | refine idx_map (by omega) (fun x hx => ?_)
        | refine live_i rfl (fun h => by cases h) ?_
        | refine ret_i ?_)
      exact ret_int rfl
    · rw [if_neg (fun hh => hr ⟨hh.2.1, by omega⟩)]
      repeat' ((conv => whnf); first
        | refine br_dec (fun hd => ?_) (fun hd => absurd h hd)
        | (exfalso; omega)
        | refine call_i (rvalid_spec W l (by omega)) false (by repeat' (first | exact trivial | refine And.intro ?_ ?_ | with_reducible rfl | exact (fun h => by cases h) | exact rfl)) rfl ?_
        | refine seq_go ?_
        | refine draw_i (by kernel_rfl) ?_
        | refine arith_in (by omega) ?_
        | refine need_i (p := (T.row _).eq = true) (by kernel_rfl) ?_
        | refine need_i (by omega) ?_
        | refine br_not ?_
        | refine br_dec (fun hd => ?_) (fun hd => ?_)
        | refine br_lt (fun hlt => ?_) (fun hlt => ?_)
        | refine br_le (fun hle => ?_) (fun hle => ?_)
        | refine br_eq (fun heq => ?_) (fun heq => ?_)
        | refine idx_map (by omega) (fun x hx => ?_)
        | refine live_i rfl (fun h => by cases h) ?_
        | refine ret_i ?_)
      all_goals exact ret_int rfl
  · rw [if_neg (fun hh => h hh.1)]
    repeat' ((conv => whnf); first
      | refine br_dec (fun hd => absurd hd (by assumption)) (fun hd => ?_)
      | refine call_i (rvalid_spec W l (by omega)) false (by repeat' (first | exact trivial | refine And.intro ?_ ?_ | with_reducible rfl | exact (fun h => by cases h) | exact rfl)) rfl ?_
      | refine seq_go ?_
      | refine draw_i (by kernel_rfl) ?_
      | refine arith_in (by omega) ?_
      | refine need_i (p := (T.row _).eq = true) (by kernel_rfl) ?_
      | refine need_i (by omega) ?_
      | refine br_not ?_
      | refine br_dec (fun hd => ?_) (fun hd => ?_)
      | refine br_lt (fun hlt => ?_) (fun hlt => ?_)
      | refine br_le (fun hle => ?_) (fun hle => ?_)
      | refine br_eq (fun heq => ?_) (fun heq => ?_)
      | refine idx_map (by omega) (fun x hx => ?_)
      | refine live_i rfl (fun h => by cases h) ?_
      | refine ret_i ?_)
    exact ret_int rfl
theorem rHeight_spec {W x0 : Int} {l : List (Int × Int)} (hl : l.length ≤ 10000) : Sp 24 [envV W l, I x0] (I (heightP W l x0)) := sp_of Try.func24 (by kernel_rfl) (by kernel_rfl) (rHeight_vc hl)

open Classical in
noncomputable def areaP (W : Int) (l : Steps) : Int := if Val W l then sumR (colF l) 0 W.toNat else 0
theorem area_step {W : Int} {l : Steps} (h : Val W l) {i : Nat} {s : Int × Int} (hs : l[i]? = some s) : sumR (colF l) 0 (begP W l i).toNat + (endP W l i - s.1) * s.2 = sumR (colF l) 0 (begP W l (i + 1)).toNat := by
  have hi := (List.getElem?_eq_some_iff.1 hs).1
  have h1 := begP_lt h hi
  have h2 := begP_nn h i
  have hb := begP_some (W := W) hs
  have e : (begP W l (i + 1)).toNat = (begP W l i).toNat + (endP W l i - s.1).toNat := by rw [← endP_beg]; omega
  rw [e, sumR_const (c := s.2) (fun z hz1 hz2 => col_step h hs (by omega) (by omega))]
  have : (((endP W l i - s.1).toNat : Nat) : Int) = endP W l i - s.1 := by omega
  rw [this]
theorem area_bd {W : Int} {l : Steps} (h : Val W l) {n : Nat} (hn : (n : Int) ≤ W) : 0 ≤ sumR (colF l) 0 n ∧ sumR (colF l) 0 n ≤ 2000000000 := by
  have := sumR_bd (f := colF l) (a := 0) (b := 1000000) (n := n) (fun z h1 h2 => h.col (by omega) (by omega))
  have h2 := h.2.1
  have : (n : Int) * 1000000 ≤ 2000 * 1000000 := Int.mul_le_mul_of_nonneg_right (by omega) (by omega)
  omega
theorem Area_vc {W : Int} {l : List (Int × Int)} (hl : l.length ≤ 10000) : fnVC T Try.prog Try.f25 [envV W l] (I (areaP W l)) := by
  have hs : (l.map stepV).length = l.length := by simp
  unfold areaP
  by_cases h : Val W l
  · have hW := h.1
    have hW2 := h.2.1
    rw [if_pos h]
    repeat' ((conv => whnf); first
      | refine br_dec (fun hd => ?_) (fun hd => absurd (by first | assumption) hd)
      | refine call_i (valid_spec W l (by omega)) false (by repeat' (first | exact trivial | refine And.intro ?_ ?_ | with_reducible rfl | exact (fun h => by cases h) | exact rfl)) rfl ?_
      | refine seq_go ?_
      | refine draw_i (by kernel_rfl) ?_
      | refine arith_in (by omega) ?_
      | refine need_i (p := (T.row _).eq = true) (by kernel_rfl) ?_
      | refine need_i (by omega) ?_
      | refine br_not ?_
      | refine br_dec (fun hd => ?_) (fun hd => ?_)
      | refine br_lt (fun hlt => ?_) (fun hlt => ?_)
      | refine br_le (fun hle => ?_) (fun hle => ?_)
      | refine br_eq (fun heq => ?_) (fun heq => ?_)
      | refine idx_map (by omega) (fun x hx => ?_)
      | refine live_i rfl (fun h => by cases h) ?_
      | refine ret_i ?_)
    refine loop_i (A := Nat) (fun j => mkSt [(1, .box 1 0), (3, I (sumR (colF l) 0 (begP W l j).toNat)), (10, .sl (l.map stepV)), (11, I l.length), (12, I j)] [(1, [I W, .sl (l.map stepV)])] [])
      (fun j => j ≤ l.length) (fun j => l.length - j) 0 ?_ (by omega) (fun j hj' => ?_)
    · refine le_mk ?_ ?_ ?_
      all_goals repeat' (first | exact trivial | refine And.intro ?_ ?_ | with_reducible rfl | exact Nat.le_refl _ | omega | exact rfl)
      rw [h.beg0]; rfl
    · change j ≤ l.length at hj'
      rcases Nat.lt_or_ge j l.length with hkl | hkl
      · obtain ⟨s, hsj⟩ : ∃ s, l[j]? = some s := ⟨l[j], by simp⟩
        have hsj' : l[(j : Int).toNat]? = some s := by rw [show (j : Int).toNat = j by omega]; exact hsj
        have hst := area_step h hsj
        have hle := begP_le h (j + 1)
        have hnn := begP_nn h (j + 1)
        have hab := area_bd h (n := (begP W l (j + 1)).toNat) (by omega)
        have hbl := begP_lt h hkl
        have hb0 := begP_nn h j
        rw [begP_some hsj] at hbl hb0
        have hy := h.2.2.2 j s hsj
        obtain ⟨_, hy1, hy2, _⟩ := hy
        repeat' ((conv => whnf); first
          | (exfalso; omega)
          | refine call_i (end_spec W j l (by omega) hkl) true (by repeat' (first | exact trivial | refine And.intro ?_ ?_ | with_reducible rfl | exact (fun h => by cases h) | exact rfl)) rfl ?_
          | refine idx_at hsj' ?_
          | refine arith_mul (by omega) (by omega) (by omega) (by omega) ?_
          | refine arith_in (by rw [hst]; omega) ?_
          | refine seq_go ?_
          | refine draw_i (by kernel_rfl) ?_
          | refine arith_in (by omega) ?_
          | refine need_i (p := (T.row _).eq = true) (by kernel_rfl) ?_
          | refine need_i (by omega) ?_
          | refine br_not ?_
          | refine br_dec (fun hd => ?_) (fun hd => ?_)
          | refine br_lt (fun hlt => ?_) (fun hlt => ?_)
          | refine br_le (fun hle => ?_) (fun hle => ?_)
          | refine br_eq (fun heq => ?_) (fun heq => ?_)
          | refine idx_map (by omega) (fun x hx => ?_)
          | refine live_i rfl (fun h => by cases h) ?_
          | refine ret_i ?_)
        refine ⟨j + 1, ?_, by omega, by omega⟩
        refine le_mk ?_ ?_ ?_
        all_goals repeat' (first | exact trivial | refine And.intro ?_ ?_ | with_reducible rfl | exact Nat.le_refl _ | omega | exact rfl)
      · have hjl : j = l.length := by omega
        repeat' ((conv => whnf); first
          | (exfalso; omega)
          | refine seq_go ?_
          | refine draw_i (by kernel_rfl) ?_
          | refine arith_in (by omega) ?_
          | refine need_i (p := (T.row _).eq = true) (by kernel_rfl) ?_
          | refine need_i (by omega) ?_
          | refine br_not ?_
          | refine br_dec (fun hd => ?_) (fun hd => ?_)
          | refine br_lt (fun hlt => ?_) (fun hlt => ?_)
          | refine br_le (fun hle => ?_) (fun hle => ?_)
          | refine br_eq (fun heq => ?_) (fun heq => ?_)
          | refine idx_map (by omega) (fun x hx => ?_)
          | refine live_i rfl (fun h => by cases h) ?_
          | refine ret_i ?_)
        refine ret_int ?_
        rw [begP_end hkl]
  · rw [if_neg h]
    repeat' ((conv => whnf); first
      | refine br_dec (fun hd => absurd hd (by assumption)) (fun hd => ?_)
      | refine call_i (valid_spec W l (by omega)) false (by repeat' (first | exact trivial | refine And.intro ?_ ?_ | with_reducible rfl | exact (fun h => by cases h) | exact rfl)) rfl ?_
      | refine seq_go ?_
      | refine draw_i (by kernel_rfl) ?_
      | refine arith_in (by omega) ?_
      | refine need_i (p := (T.row _).eq = true) (by kernel_rfl) ?_
      | refine need_i (by omega) ?_
      | refine br_not ?_
      | refine br_dec (fun hd => ?_) (fun hd => ?_)
      | refine br_lt (fun hlt => ?_) (fun hlt => ?_)
      | refine br_le (fun hle => ?_) (fun hle => ?_)
      | refine br_eq (fun heq => ?_) (fun heq => ?_)
      | refine idx_map (by omega) (fun x hx => ?_)
      | refine live_i rfl (fun h => by cases h) ?_
      | refine ret_i ?_)
    exact ret_int rfl
theorem Area_spec {W : Int} {l : List (Int × Int)} (hl : l.length ≤ 10000) : Sp 25 [envV W l] (I (areaP W l)) := sp_of Try.func25 (by kernel_rfl) (by kernel_rfl) (Area_vc hl)
theorem rArea_vc {W : Int} {l : List (Int × Int)} (hl : l.length ≤ 10000) : fnVC T Try.prog Try.f26 [envV W l] (I (areaP W l)) := by
  unfold areaP
  by_cases h : Val W l
  · have hW := h.1
    have hW2 := h.2.1
    rw [if_pos h]
    have hWW : ((W.toNat : Nat) : Int) = W := by omega
    repeat' ((conv => whnf); first
      | refine br_dec (fun hd => ?_) (fun hd => absurd (by first | assumption) hd)
      | refine call_i (rvalid_spec W l (by omega)) false (by repeat' (first | exact trivial | refine And.intro ?_ ?_ | with_reducible rfl | exact (fun h => by cases h) | exact rfl)) rfl ?_
      | refine call_i (columns_spec h (by omega)) false (by repeat' (first | exact trivial | refine And.intro ?_ ?_ | with_reducible rfl | exact (fun h => by cases h) | exact rfl)) rfl ?_
      | refine seq_go ?_
      | refine draw_i (by kernel_rfl) ?_
      | refine arith_in (by omega) ?_
      | refine need_i (p := (T.row _).eq = true) (by kernel_rfl) ?_
      | refine need_i (by omega) ?_
      | refine br_not ?_
      | refine br_dec (fun hd => ?_) (fun hd => ?_)
      | refine br_lt (fun hlt => ?_) (fun hlt => ?_)
      | refine br_le (fun hle => ?_) (fun hle => ?_)
      | refine br_eq (fun heq => ?_) (fun heq => ?_)
      | refine idx_map (by omega) (fun x hx => ?_)
      | refine live_i rfl (fun h => by cases h) ?_
      | refine ret_i ?_)
    refine loop_i (A := Nat) (fun j => mkSt [(3, .arr 10 0), (4, I (sumR (colF l) 0 j)), (5, I j)] [] [(10, ⟨0, .own, 3, hv (colF l) W.toNat⟩)])
      (fun j => (j : Int) ≤ W) (fun j => W.toNat - j) 0 ?_ (by show ((0 : Nat) : Int) ≤ W; omega) (fun j hj' => ?_)
    · refine le_mk ?_ ?_ ?_
      all_goals repeat' (first | exact trivial | refine And.intro ?_ ?_ | with_reducible rfl | exact Nat.le_refl _ | omega | exact rfl)
    · change (j : Int) ≤ W at hj'
      have hlen : ((8, (⟨0, .own, 3, hv (colF l) W.toNat⟩ : AE))).snd.l.length = W.toNat := hv_len _ _
      have hlen2 : ((10, (⟨0, .own, 3, hv (colF l) W.toNat⟩ : AE))).snd.l.length = W.toNat := hv_len _ _
      have hab := area_bd h (n := j) hj'
      rcases Int.lt_or_le (j : Int) W with hjl | hjl
      · have hc := h.col (x := (j : Int)) (by omega) hjl
        repeat' ((conv => whnf); first
          | (exfalso; omega)
          | (refine need_hv rfl (fun h => by cases h) rfl ?_ ?_; omega)
          | (refine idx_hv ?_ ?_; omega)
          | refine seq_go ?_
          | refine draw_i (by kernel_rfl) ?_
          | refine arith_in (by omega) ?_
          | refine need_i (p := (T.row _).eq = true) (by kernel_rfl) ?_
          | refine need_i (by omega) ?_
          | refine br_not ?_
          | refine br_dec (fun hd => ?_) (fun hd => ?_)
          | refine br_lt (fun hlt => ?_) (fun hlt => ?_)
          | refine br_le (fun hle => ?_) (fun hle => ?_)
          | refine br_eq (fun heq => ?_) (fun heq => ?_)
          | refine idx_map (by omega) (fun x hx => ?_)
          | refine live_i rfl (fun h => by cases h) ?_
          | refine ret_i ?_)
        refine ⟨j + 1, ?_, (by show ((j + 1 : Nat) : Int) ≤ W; omega), by omega⟩
        refine le_mk ?_ ?_ ?_
        all_goals repeat' (first | exact trivial | refine And.intro ?_ ?_ | with_reducible rfl | exact Nat.le_refl _ | omega | exact rfl)
        · show _ = sumR (colF l) 0 j + colF l (0 + (j : Int))
          rw [Int.zero_add]
      · have hjw : j = W.toNat := by omega
        subst hjw
        repeat' ((conv => whnf); first
          | (exfalso; omega)
          | refine seq_go ?_
          | refine draw_i (by kernel_rfl) ?_
          | refine arith_in (by omega) ?_
          | refine need_i (p := (T.row _).eq = true) (by kernel_rfl) ?_
          | refine need_i (by omega) ?_
          | refine br_not ?_
          | refine br_dec (fun hd => ?_) (fun hd => ?_)
          | refine br_lt (fun hlt => ?_) (fun hlt => ?_)
          | refine br_le (fun hle => ?_) (fun hle => ?_)
          | refine br_eq (fun heq => ?_) (fun heq => ?_)
          | refine idx_map (by omega) (fun x hx => ?_)
          | refine live_i rfl (fun h => by cases h) ?_
          | refine ret_i ?_)
        exact ret_int rfl
  · rw [if_neg h]
    repeat' ((conv => whnf); first
      | refine br_dec (fun hd => absurd hd (by assumption)) (fun hd => ?_)
      | refine call_i (rvalid_spec W l (by omega)) false (by repeat' (first | exact trivial | refine And.intro ?_ ?_ | with_reducible rfl | exact (fun h => by cases h) | exact rfl)) rfl ?_
      | refine seq_go ?_
      | refine draw_i (by kernel_rfl) ?_
      | refine arith_in (by omega) ?_
      | refine need_i (p := (T.row _).eq = true) (by kernel_rfl) ?_
      | refine need_i (by omega) ?_
      | refine br_not ?_
      | refine br_dec (fun hd => ?_) (fun hd => ?_)
      | refine br_lt (fun hlt => ?_) (fun hlt => ?_)
      | refine br_le (fun hle => ?_) (fun hle => ?_)
      | refine br_eq (fun heq => ?_) (fun heq => ?_)
      | refine idx_map (by omega) (fun x hx => ?_)
      | refine live_i rfl (fun h => by cases h) ?_
      | refine ret_i ?_)
    exact ret_int rfl
theorem rArea_spec {W : Int} {l : List (Int × Int)} (hl : l.length ≤ 10000) : Sp 26 [envV W l] (I (areaP W l)) := sp_of Try.func26 (by kernel_rfl) (by kernel_rfl) (rArea_vc hl)
end Go.Proofs.Env41
