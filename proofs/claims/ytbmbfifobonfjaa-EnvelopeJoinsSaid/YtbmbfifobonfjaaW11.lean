/-
  The laws of lowest positions and of heights, tops and raising.
-/
import Derived.Test.YtbmbfifobonfjaaW10
set_option linter.unusedVariables false
set_option linter.unusedSimpArgs false
namespace Go.Proofs.Env41
open Go Go.Proofs Go.Ab
set_option maxRecDepth 100000

theorem br_bb {b : Bool} {A B : Prop} (h : A) : branch (eqBB b b) A B := branch_t (by rw [eqBB_eq]; cases b <;> rfl) h
theorem topR_tup (W : Int) (l : Steps) (x w : Int) : ∃ a b c : Int, topR W l x w = .tup [I a, I b, I c] := by
  unfold topR
  split
  · split
    · exact ⟨_, _, _, rfl⟩
    · exact ⟨_, _, _, rfl⟩
  · exact ⟨_, _, _, rfl⟩
theorem raiseR_tup (W : Int) (l : Steps) (x w y : Int) : ∃ (V : Int) (m : Steps) (c : Int), raiseR W l x w y = .tup [envV V m, I c] ∧ m.length ≤ 10000 := by
  unfold raiseR
  split
  · rename_i h
    split
    · rename_i h2
      refine ⟨_, _, _, rfl, ?_⟩
      have := (raise_val h (x := x) (w := w) h2.2.1 h2.2.2).len
      omega
    · exact ⟨_, _, _, rfl, by simp⟩
  · exact ⟨_, _, _, rfl, by simp⟩

theorem law_ops {W : Int} {l : List (Int × Int)} {x y z : Int} : fnVC T Try.prog Try.f5 [envV W l, .agg [I x, I y, I z]] (B true) := by
  by_cases hf : W ≤ 200 ∧ l.length ≤ 250
  · have ht := Top_spec (W := W) (l := l) (x0 := x) (w := y) (by omega)
    have ht2 := rTop_spec (W := W) (l := l) (x0 := x) (w := y) (by omega)
    obtain ⟨a, b, c, e⟩ := topR_tup W l x y
    rw [e] at ht ht2
    have hr := Raise_spec (W := W) (l := l) (x0 := x) (w := y) (y := z) (by omega)
    have hr2 := rRaise_spec (W := W) (l := l) (x0 := x) (w := y) (y := z) (by omega)
    obtain ⟨U, m, d, e', hm⟩ := raiseR_tup W l x y z
    rw [e'] at hr hr2
    repeat' ((conv => whnf); first
      | refine br_dec (fun hd => ?_) (fun hd => absurd (by first | assumption | exact ⟨rfl, rfl⟩) hd)
      | refine br_bb ?_
      | (exfalso; omega)
      | (refine call_i (awake_spec) false ?_ rfl ?_; focus ((repeat' (first | exact trivial | refine And.intro ?_ ?_ | with_reducible rfl | exact (fun h => by cases h) | exact rfl)); done))
      | (refine call_i (few_spec W l) false ?_ rfl ?_; focus ((repeat' (first | exact trivial | refine And.intro ?_ ?_ | with_reducible rfl | exact (fun h => by cases h) | exact rfl)); done))
      | (refine call_i (own_spec W l (by omega)) false ?_ rfl ?_; focus ((repeat' (first | exact trivial | refine And.intro ?_ ?_ | with_reducible rfl | exact (fun h => by cases h) | exact rfl)); done))
      | (refine call_i (ht) false ?_ rfl ?_; focus ((repeat' (first | exact trivial | refine And.intro ?_ ?_ | with_reducible rfl | exact (fun h => by cases h) | exact rfl)); done))
      | (refine call_i (ht2) false ?_ rfl ?_; focus ((repeat' (first | exact trivial | refine And.intro ?_ ?_ | with_reducible rfl | exact (fun h => by cases h) | exact rfl)); done))
      | (refine call_i (hr) false ?_ rfl ?_; focus ((repeat' (first | exact trivial | refine And.intro ?_ ?_ | with_reducible rfl | exact (fun h => by cases h) | exact rfl)); done))
      | (refine call_i (hr2) false ?_ rfl ?_; focus ((repeat' (first | exact trivial | refine And.intro ?_ ?_ | with_reducible rfl | exact (fun h => by cases h) | exact rfl)); done))
      | (refine call_i (theirs_spec U m (by omega)) false ?_ rfl ?_; focus ((repeat' (first | exact trivial | refine And.intro ?_ ?_ | with_reducible rfl | exact (fun h => by cases h) | exact rfl)); done))
      | (refine call_i (equal_spec U U m m (by omega)) false ?_ rfl ?_; focus ((repeat' (first | exact trivial | refine And.intro ?_ ?_ | with_reducible rfl | exact (fun h => by cases h) | exact rfl)); done))
      | (refine call_i (valid_spec W l (by omega)) false ?_ rfl ?_; focus ((repeat' (first | exact trivial | refine And.intro ?_ ?_ | with_reducible rfl | exact (fun h => by cases h) | exact rfl)); done))
      | (refine call_i (rvalid_spec W l (by omega)) false ?_ rfl ?_; focus ((repeat' (first | exact trivial | refine And.intro ?_ ?_ | with_reducible rfl | exact (fun h => by cases h) | exact rfl)); done))
      | (refine call_i (Height_spec (W := W) (l := l) (x0 := x) (by omega)) false ?_ rfl ?_; focus ((repeat' (first | exact trivial | refine And.intro ?_ ?_ | with_reducible rfl | exact (fun h => by cases h) | exact rfl)); done))
      | (refine call_i (rHeight_spec (W := W) (l := l) (x0 := x) (by omega)) false ?_ rfl ?_; focus ((repeat' (first | exact trivial | refine And.intro ?_ ?_ | with_reducible rfl | exact (fun h => by cases h) | exact rfl)); done))
      | (refine call_i (Area_spec (W := W) (l := l) (by omega)) false ?_ rfl ?_; focus ((repeat' (first | exact trivial | refine And.intro ?_ ?_ | with_reducible rfl | exact (fun h => by cases h) | exact rfl)); done))
      | (refine call_i (rArea_spec (W := W) (l := l) (by omega)) false ?_ rfl ?_; focus ((repeat' (first | exact trivial | refine And.intro ?_ ?_ | with_reducible rfl | exact (fun h => by cases h) | exact rfl)); done))
      | refine seq_go ?_
      | refine draw_i (by kernel_rfl) ?_
      | refine arith_in (by omega) ?_
      | refine need_i (p := (T.row _).eq = true) (by kernel_rfl) ?_
      | refine need_i (by omega) ?_
      | refine br_not ?_
      | refine br_dec (fun hd => ?_) (fun hd => ?_)
      | refine br_lt (fun hlt => ?_) (fun hlt => ?_)
      | refine br_le (fun hle => ?_) (fun hle => ?_)
      | refine br_eq (fun heq => ?_) (fun heq => ?_)
      | refine idx_map (by omega) (fun x hx => ?_)
      | refine live_i rfl (fun h => by cases h) ?_
      | refine ret_i ?_)
    exact ret_bool (eqB_t.2 rfl)
  · repeat' ((conv => whnf); first
      | refine br_dec (fun hd => absurd hd hf) (fun hd => ?_)
      | (refine call_i (awake_spec) false ?_ rfl ?_; focus ((repeat' (first | exact trivial | refine And.intro ?_ ?_ | with_reducible rfl | exact (fun h => by cases h) | exact rfl)); done))
      | (refine call_i (few_spec W l) false ?_ rfl ?_; focus ((repeat' (first | exact trivial | refine And.intro ?_ ?_ | with_reducible rfl | exact (fun h => by cases h) | exact rfl)); done))
      | refine seq_go ?_
      | refine draw_i (by kernel_rfl) ?_
      | refine arith_in (by omega) ?_
      | refine need_i (p := (T.row _).eq = true) (by kernel_rfl) ?_
      | refine need_i (by omega) ?_
      | refine br_not ?_
      | refine br_dec (fun hd => ?_) (fun hd => ?_)
      | refine br_lt (fun hlt => ?_) (fun hlt => ?_)
      | refine br_le (fun hle => ?_) (fun hle => ?_)
      | refine br_eq (fun heq => ?_) (fun heq => ?_)
      | refine idx_map (by omega) (fun x hx => ?_)
      | refine live_i rfl (fun h => by cases h) ?_
      | refine ret_i ?_)
    exact ret_bool rfl
theorem law_ops_spec {W : Int} {l : List (Int × Int)} {x y z : Int} : Sp 5 [envV W l, .agg [I x, I y, I z]] (B true) := sp_of Try.func5 (by kernel_rfl) (by kernel_rfl) law_ops

theorem place_codes (W : Int) (l : Steps) (r : Int × Int) : (placeP W l r).2.2 = 0 ∨ (placeP W l r).2.2 = 1 ∨ (placeP W l r).2.2 = 19 ∨ (placeP W l r).2.2 = 9 := by
  unfold placeP
  split
  · split
    · exact .inr (.inr (.inl rfl))
    · split
      · exact .inr (.inr (.inr rfl))
      · exact .inl rfl
  · exact .inr (.inl rfl)
theorem law_lowest {W : Int} {l : List (Int × Int)} {r : Int × Int} : fnVC T Try.prog Try.f4 [envV W l, stepV r] (B true) := by
  by_cases hf : W ≤ 200 ∧ l.length ≤ 250
  · by_cases h : Val W l
    · have hplace := Place_spec (W := W) (l := l) (r := r) (by omega)
      by_cases he : (placeP W l r).2.2 = 0
      · obtain ⟨_, hz, hrW, hlim, e⟩ := place_ok he
        unfold placeR at hplace
        rw [e] at hplace
        obtain ⟨⟨hz1, hz2⟩, hz3, hz4⟩ := hz
        have hbp := bestP_bd W l r.1 hrW
        have htp := topP_bd h (x := bestP W l r.1) (w := r.1) hbp.1 hbp.2
        have hv := raise_val h (x := bestP W l r.1) (w := r.1) (y := topP l (bestP W l r.1) r.1 + r.2) (by omega) hlim
        have hvl := hv.len
        have hW2 := h.2.1
        change Sp 12 [envV W l, stepV r] (.tup [envV W (raiseP W l (bestP W l r.1) r.1 (topP l (bestP W l r.1) r.1 + r.2)), plV (bestP W l r.1, topP l (bestP W l r.1) r.1, wasteP l (bestP W l r.1) r.1), I 0]) at hplace
        have hh : ∀ x : Int, bestP W l r.1 ≤ x → x < bestP W l r.1 + r.1 → heightP W (raiseP W l (bestP W l r.1) r.1 (topP l (bestP W l r.1) r.1 + r.2)) x = topP l (bestP W l r.1) r.1 + r.2 := fun x hx1 hx2 => by
          unfold heightP
          rw [if_pos ⟨hv, by omega, by omega⟩, raise_col (by omega) (by omega), setF, if_pos ⟨hx1, hx2⟩]
        have hh1 := hh (bestP W l r.1) (by omega) (by omega)
        have hh2 := hh (bestP W l r.1 + r.1 - 1) (by omega) (by omega)
        repeat' ((conv => whnf); first
          | refine br_dec (fun hd => ?_) (fun hd => absurd (by assumption) hd)
          | (exfalso; omega)
          | (refine call_i (awake_spec) false ?_ rfl ?_; focus ((repeat' (first | exact trivial | refine And.intro ?_ ?_ | with_reducible rfl | exact (fun h => by cases h) | exact rfl)); done))
          | (refine call_i (few_spec W l) false ?_ rfl ?_; focus ((repeat' (first | exact trivial | refine And.intro ?_ ?_ | with_reducible rfl | exact (fun h => by cases h) | exact rfl)); done))
          | (refine call_i (rvalid_spec W l (by omega)) false ?_ rfl ?_; focus ((repeat' (first | exact trivial | refine And.intro ?_ ?_ | with_reducible rfl | exact (fun h => by cases h) | exact rfl)); done))
          | (refine call_i (own_spec W l (by omega)) false ?_ rfl ?_; focus ((repeat' (first | exact trivial | refine And.intro ?_ ?_ | with_reducible rfl | exact (fun h => by cases h) | exact rfl)); done))
          | (refine call_i (hplace) false ?_ rfl ?_; focus ((repeat' (first | exact trivial | refine And.intro ?_ ?_ | with_reducible rfl | exact (fun h => by cases h) | exact rfl)); done))
          | refine seq_go ?_
          | refine draw_i (by kernel_rfl) ?_
          | refine arith_in (by omega) ?_
          | refine need_i (p := (T.row _).eq = true) (by kernel_rfl) ?_
          | refine need_i (by omega) ?_
          | refine br_not ?_
          | refine br_dec (fun hd => ?_) (fun hd => ?_)
          | refine br_lt (fun hlt => ?_) (fun hlt => ?_)
          | refine br_le (fun hle => ?_) (fun hle => ?_)
          | refine br_eq (fun heq => ?_) (fun heq => ?_)
          | refine idx_map (by omega) (fun x hx => ?_)
          | refine live_i rfl (fun h => by cases h) ?_
          | refine ret_i ?_)
        refine loop_i (A := Nat) (fun j => mkSt [(2, .box 2 0), (3, .box 3 0), (5, .box 5 0), (6, .box 6 0), (8, I j)]
            [(2, [I W, .sl (l.map stepV)]), (3, [I r.1, I r.2]), (5, [I W, .sl ((raiseP W l (bestP W l r.1) r.1 (topP l (bestP W l r.1) r.1 + r.2)).map stepV)]), (6, [I (bestP W l r.1), I (topP l (bestP W l r.1) r.1), I (wasteP l (bestP W l r.1) r.1)])] [])
          (fun j => (j : Int) ≤ W - r.1 + 1) (fun j => (W - r.1 + 1).toNat - j) 0 ?_ (by show ((0 : Nat) : Int) ≤ _; omega) (fun j hj' => ?_)
        · refine le_mk ?_ ?_ ?_
          all_goals repeat' (first | exact trivial | refine And.intro ?_ ?_ | with_reducible rfl | exact Nat.le_refl _ | omega | exact rfl)
        · change (j : Int) ≤ W - r.1 + 1 at hj'
          rcases Int.lt_or_le (j : Int) (W - r.1 + 1) with hjl | hjl
          · obtain ⟨hle1, hle2⟩ := argm_le (fun z => topP l z r.1) (W - r.1).toNat (j : Int) (by omega) (by omega)
            change topP l (bestP W l r.1) r.1 ≤ topP l j r.1 at hle1
            change (j : Int) < bestP W l r.1 → topP l (bestP W l r.1) r.1 < topP l j r.1 at hle2
            by_cases hb : (j : Int) = bestP W l r.1
            · have ht := rTop_in (x0 := (j : Int)) (w := r.1) (l := l) (by omega) h ⟨by omega, hz1, by omega⟩
              rw [hb] at ht ⊢
              repeat' ((conv => whnf); first
                | (exfalso; omega)
                | (refine call_i (ht) false ?_ rfl ?_; focus ((repeat' (first | exact trivial | refine And.intro ?_ ?_ | with_reducible rfl | exact (fun h => by cases h) | exact rfl)); done))
                | (refine call_i (Height_spec (W := W) (l := raiseP W l (bestP W l r.1) r.1 (topP l (bestP W l r.1) r.1 + r.2)) (x0 := bestP W l r.1) (by omega)) false ?_ rfl ?_; focus ((repeat' (first | exact trivial | refine And.intro ?_ ?_ | with_reducible rfl | exact (fun h => by cases h) | exact rfl)); done))
                | (refine call_i (Height_spec (W := W) (l := raiseP W l (bestP W l r.1) r.1 (topP l (bestP W l r.1) r.1 + r.2)) (x0 := bestP W l r.1 + r.1 - 1) (by omega)) false ?_ rfl ?_; focus ((repeat' (first | exact trivial | refine And.intro ?_ ?_ | with_reducible rfl | exact (fun h => by cases h) | exact rfl)); done))
                | refine seq_go ?_
                | refine draw_i (by kernel_rfl) ?_
                | refine arith_in (by omega) ?_
                | refine need_i (p := (T.row _).eq = true) (by kernel_rfl) ?_
                | refine need_i (by omega) ?_
                | refine br_not ?_
                | refine br_dec (fun hd => ?_) (fun hd => ?_)
                | refine br_lt (fun hlt => ?_) (fun hlt => ?_)
                | refine br_le (fun hle => ?_) (fun hle => ?_)
                | refine br_eq (fun heq => ?_) (fun heq => ?_)
                | refine idx_map (by omega) (fun x hx => ?_)
                | refine live_i rfl (fun h => by cases h) ?_
                | refine ret_i ?_)
              refine ⟨j + 1, ?_, (by show ((j + 1 : Nat) : Int) ≤ _; omega), by omega⟩
              refine le_mk ?_ ?_ ?_
              all_goals repeat' (first | exact trivial | refine And.intro ?_ ?_ | with_reducible rfl | exact Nat.le_refl _ | omega | exact rfl)
            · repeat' ((conv => whnf); first
                | (exfalso; omega)
                | (refine call_i (rTop_in (x0 := (j : Int)) (w := r.1) (l := l) (by omega) h ⟨by omega, hz1, by omega⟩) false ?_ rfl ?_; focus ((repeat' (first | exact trivial | refine And.intro ?_ ?_ | with_reducible rfl | exact (fun h => by cases h) | exact rfl)); done))
                | refine seq_go ?_
                | refine draw_i (by kernel_rfl) ?_
                | refine arith_in (by omega) ?_
                | refine need_i (p := (T.row _).eq = true) (by kernel_rfl) ?_
                | refine need_i (by omega) ?_
                | refine br_not ?_
                | refine br_dec (fun hd => ?_) (fun hd => ?_)
                | refine br_lt (fun hlt => ?_) (fun hlt => ?_)
                | refine br_le (fun hle => ?_) (fun hle => ?_)
                | refine br_eq (fun heq => ?_) (fun heq => ?_)
                | refine idx_map (by omega) (fun x hx => ?_)
                | refine live_i rfl (fun h => by cases h) ?_
                | refine ret_i ?_)
              all_goals
                refine ⟨j + 1, ?_, (by show ((j + 1 : Nat) : Int) ≤ _; omega), by omega⟩
                refine le_mk ?_ ?_ ?_
                all_goals repeat' (first | exact trivial | refine And.intro ?_ ?_ | with_reducible rfl | exact Nat.le_refl _ | omega | exact rfl)
          · repeat' ((conv => whnf); first
              | (exfalso; omega)
              | refine seq_go ?_
              | refine draw_i (by kernel_rfl) ?_
              | refine arith_in (by omega) ?_
              | refine need_i (p := (T.row _).eq = true) (by kernel_rfl) ?_
              | refine need_i (by omega) ?_
              | refine br_not ?_
              | refine br_dec (fun hd => ?_) (fun hd => ?_)
              | refine br_lt (fun hlt => ?_) (fun hlt => ?_)
              | refine br_le (fun hle => ?_) (fun hle => ?_)
              | refine br_eq (fun heq => ?_) (fun heq => ?_)
              | refine idx_map (by omega) (fun x hx => ?_)
              | refine live_i rfl (fun h => by cases h) ?_
              | refine ret_i ?_)
            exact ret_bool (leB_t.2 (by omega))
      · have hc := place_codes W l r
        repeat' ((conv => whnf); first
          | refine br_dec (fun hd => ?_) (fun hd => absurd (by assumption) hd)
          | (exfalso; omega)
          | (refine call_i (awake_spec) false ?_ rfl ?_; focus ((repeat' (first | exact trivial | refine And.intro ?_ ?_ | with_reducible rfl | exact (fun h => by cases h) | exact rfl)); done))
          | (refine call_i (few_spec W l) false ?_ rfl ?_; focus ((repeat' (first | exact trivial | refine And.intro ?_ ?_ | with_reducible rfl | exact (fun h => by cases h) | exact rfl)); done))
          | (refine call_i (rvalid_spec W l (by omega)) false ?_ rfl ?_; focus ((repeat' (first | exact trivial | refine And.intro ?_ ?_ | with_reducible rfl | exact (fun h => by cases h) | exact rfl)); done))
          | (refine call_i (own_spec W l (by omega)) false ?_ rfl ?_; focus ((repeat' (first | exact trivial | refine And.intro ?_ ?_ | with_reducible rfl | exact (fun h => by cases h) | exact rfl)); done))
          | (refine call_i (hplace) false ?_ rfl ?_; focus ((repeat' (first | exact trivial | refine And.intro ?_ ?_ | with_reducible rfl | exact (fun h => by cases h) | exact rfl)); done))
          | refine seq_go ?_
          | refine draw_i (by kernel_rfl) ?_
          | refine arith_in (by omega) ?_
          | refine need_i (p := (T.row _).eq = true) (by kernel_rfl) ?_
          | refine need_i (by omega) ?_
          | refine br_not ?_
          | refine br_dec (fun hd => ?_) (fun hd => ?_)
          | refine br_lt (fun hlt => ?_) (fun hlt => ?_)
          | refine br_le (fun hle => ?_) (fun hle => ?_)
          | refine br_eq (fun heq => ?_) (fun heq => ?_)
          | refine idx_map (by omega) (fun x hx => ?_)
          | refine live_i rfl (fun h => by cases h) ?_
          | refine ret_i ?_)
        all_goals first
          | exact ret_bool rfl
          | exact ret_bool (eqB_t.2 (by omega))
    · repeat' ((conv => whnf); first
        | refine br_dec (fun hd => absurd hd h) (fun hd => ?_)
        | refine br_dec (fun hd => ?_) (fun hd => absurd hf hd)
        | (refine call_i (awake_spec) false ?_ rfl ?_; focus ((repeat' (first | exact trivial | refine And.intro ?_ ?_ | with_reducible rfl | exact (fun h => by cases h) | exact rfl)); done))
        | (refine call_i (few_spec W l) false ?_ rfl ?_; focus ((repeat' (first | exact trivial | refine And.intro ?_ ?_ | with_reducible rfl | exact (fun h => by cases h) | exact rfl)); done))
        | (refine call_i (rvalid_spec W l (by omega)) false ?_ rfl ?_; focus ((repeat' (first | exact trivial | refine And.intro ?_ ?_ | with_reducible rfl | exact (fun h => by cases h) | exact rfl)); done))
        | refine seq_go ?_
        | refine draw_i (by kernel_rfl) ?_
        | refine arith_in (by omega) ?_
        | refine need_i (p := (T.row _).eq = true) (by kernel_rfl) ?_
        | refine need_i (by omega) ?_
        | refine br_not ?_
        | refine br_dec (fun hd => ?_) (fun hd => ?_)
        | refine br_lt (fun hlt => ?_) (fun hlt => ?_)
        | refine br_le (fun hle => ?_) (fun hle => ?_)
        | refine br_eq (fun heq => ?_) (fun heq => ?_)
        | refine idx_map (by omega) (fun x hx => ?_)
        | refine live_i rfl (fun h => by cases h) ?_
        | refine ret_i ?_)
      exact ret_bool rfl
  · repeat' ((conv => whnf); first
      | refine br_dec (fun hd => absurd hd hf) (fun hd => ?_)
      | (refine call_i (awake_spec) false ?_ rfl ?_; focus ((repeat' (first | exact trivial | refine And.intro ?_ ?_ | with_reducible rfl | exact (fun h => by cases h) | exact rfl)); done))
      | (refine call_i (few_spec W l) false ?_ rfl ?_; focus ((repeat' (first | exact trivial | refine And.intro ?_ ?_ | with_reducible rfl | exact (fun h => by cases h) | exact rfl)); done))
      | refine seq_go ?_
      | refine draw_i (by kernel_rfl) ?_
      | refine arith_in (by omega) ?_
      | refine need_i (p := (T.row _).eq = true) (by kernel_rfl) ?_
      | refine need_i (by omega) ?_
      | refine br_not ?_
      | refine br_dec (fun hd => ?_) (fun hd => ?_)
      | refine br_lt (fun hlt => ?_) (fun hlt => ?_)
      | refine br_le (fun hle => ?_) (fun hle => ?_)
      | refine br_eq (fun heq => ?_) (fun heq => ?_)
      | refine idx_map (by omega) (fun x hx => ?_)
      | refine live_i rfl (fun h => by cases h) ?_
      | refine ret_i ?_)
    exact ret_bool rfl
theorem law_lowest_spec {W : Int} {l : List (Int × Int)} {r : Int × Int} : Sp 4 [envV W l, stepV r] (B true) := sp_of Try.func4 (by kernel_rfl) (by kernel_rfl) law_lowest
end Go.Proofs.Env41
