/-
  The law of maxima.
-/
import Derived.Test.YtbmbfifobonfjaaW12
set_option linter.unusedVariables false
set_option linter.unusedSimpArgs false
namespace Go.Proofs.Env41
open Go Go.Proofs Go.Ab
set_option maxRecDepth 100000

theorem max_comm (W : Int) (a : Steps) (U : Int) (b : Steps) : maxP W a U b = maxP U b W a := by
  unfold maxP
  by_cases h : Val W a ∧ Val U b ∧ W = U
  · obtain ⟨h1, h2, rfl⟩ := h
    rw [if_pos ⟨h1, h2, rfl⟩, if_pos ⟨h2, h1, rfl⟩, ofP_congr (h := maxF a b) (g := maxF b a) (fun z _ _ => by unfold maxF; omega)]
  · rw [if_neg h, if_neg (fun hh => h ⟨hh.2.1, hh.1, hh.2.2.symm⟩)]
theorem maxF_bd {W : Int} {a b : Steps} (h1 : Val W a) (h2 : Val W b) (z : Int) (hz : 0 ≤ z) (hz2 : z < W) : 0 ≤ maxF a b z ∧ maxF a b z ≤ 1000000 := by
  have := h1.col hz hz2
  have := h2.col hz hz2
  unfold maxF; omega
theorem max_ok {W : Int} {a : Steps} {U : Int} {b : Steps} (h : (maxP W a U b).2 = 0) : Val W a ∧ Val W b ∧ W = U ∧ maxP W a U b = ((W, ofP (maxF a b) W.toNat), 0) ∧ Val W (ofP (maxF a b) W.toNat) := by
  unfold maxP at h ⊢
  by_cases hh : Val W a ∧ Val U b ∧ W = U
  · rw [if_pos hh]
    obtain ⟨h1, h2, rfl⟩ := hh
    exact ⟨h1, h2, rfl, rfl, val_ofP h1.1 h1.2.1 (maxF_bd h1 h2)⟩
  · rw [if_neg hh] at h; cases h
theorem max_eval {W : Int} {a b : Steps} (h1 : Val W a) (h2 : Val W b) : maxP W a W b = ((W, ofP (maxF a b) W.toNat), 0) := if_pos ⟨h1, h2, rfl⟩
theorem max_len (W : Int) (a : Steps) (U : Int) (b : Steps) : (maxP W a U b).1.2.length ≤ 2000 := by
  by_cases h : (maxP W a U b).2 = 0
  · obtain ⟨_, _, _, e, hv⟩ := max_ok h
    rw [e]; exact hv.len
  · unfold maxP at h ⊢
    split
    · rename_i hh; rw [if_pos hh] at h; exact absurd rfl h
    · simp
theorem max_assoc {W : Int} {a b c : Steps} : ofP (maxF (ofP (maxF a b) W.toNat) c) W.toNat = ofP (maxF a (ofP (maxF b c) W.toNat)) W.toNat :=
  ofP_congr (fun z h0 h1 => by
    show max (colF (ofP (maxF a b) W.toNat) z) (colF c z) = max (colF a z) (colF (ofP (maxF b c) W.toNat) z)
    rw [colF_ofP' _ h0 h1, colF_ofP' _ h0 h1]
    unfold maxF; omega)
theorem max_same {W : Int} {a : Steps} (h : Val W a) : ofP (maxF a a) W.toNat = a := by
  rw [ofP_congr (h := maxF a a) (g := colF a) (fun z _ _ => by unfold maxF; omega)]
  exact h.canon.symm

set_option maxHeartbeats 4000000 in
theorem law_max {A B' C : Int} {a b c : List (Int × Int)} : fnVC T Try.prog Try.f6 [envV A a, envV B' b, envV C c] (B true) := by
  by_cases hf : (A ≤ 200 ∧ a.length ≤ 250) ∧ (B' ≤ 200 ∧ b.length ≤ 250) ∧ (C ≤ 200 ∧ c.length ≤ 250)
  · obtain ⟨hfa, hfb, hfc⟩ := hf
    have m1 := Max_spec (W := A) (U := B') (a := a) (b := b) (by omega) (by omega)
    have m2 := rMax_spec (W := A) (U := B') (a := a) (b := b) (by omega) (by omega)
    have m3 := Max_spec (W := B') (U := A) (a := b) (b := a) (by omega) (by omega)
    have l1 := max_len A a B' b
    have l2 := max_len B' b C c
    have m4 := Max_spec (W := (maxP A a B' b).1.1) (a := (maxP A a B' b).1.2) (U := C) (b := c) (by omega) (by omega)
    have m5 := Max_spec (W := B') (U := C) (a := b) (b := c) (by omega) (by omega)
    have l4 := max_len (maxP A a B' b).1.1 (maxP A a B' b).1.2 C c
    unfold maxR' at m1 m2 m3 m4 m5
    rw [max_comm B' b A a] at m3
    by_cases he : (maxP A a B' b).2 = 0 ∧ (maxP B' b C c).2 = 0
    · obtain ⟨he1, he2⟩ := he
      obtain ⟨va, vb, rfl, e1, v1⟩ := max_ok he1
      obtain ⟨_, vc, rfl, e2, v2⟩ := max_ok he2
      have e4 := max_eval v1 vc
      have e5 := max_eval va v2
      have e6 := max_eval va va
      rw [max_same va] at e6
      rw [max_assoc] at e4
      rw [e1] at m1 m2 m3
      rw [e1] at m4 l1 l4
      rw [e2] at m5 l2
      simp only at m4 l4 l1 l2
      rw [e4] at m4 l4
      have m6 := Max_spec (W := A) (U := A) (a := a) (b := ofP (maxF b c) A.toNat) (by omega) (by omega)
      have m7 := Max_spec (W := A) (U := A) (a := a) (b := a) (by omega) (by omega)
      unfold maxR' at m6 m7
      rw [e5] at m6
      rw [e6] at m7
      simp only at m1 m2 m3 m4 m5 m6 m7 l4
      clear e1 e2 e4 e5 e6 he1 he2 v1 v2
      generalize ofP (maxF a (ofP (maxF b c) A.toNat)) A.toNat = abc at m1 m2 m3 m4 m5 m6 m7 l1 l2 l4
      generalize ofP (maxF b c) A.toNat = bc at m1 m2 m3 m4 m5 m6 m7 l1 l2 l4
      generalize ofP (maxF a b) A.toNat = ab at m1 m2 m3 m4 m5 m6 m7 l1 l2 l4
      repeat' ((conv => whnf); first
        | refine br_dec (fun hd => ?_) (fun hd => absurd (by first | assumption | exact ⟨rfl, rfl⟩) hd)
        | (exfalso; omega)
        | (refine call_i (awake_spec) false ?_ rfl ?_; focus ((repeat' (first | exact trivial | refine And.intro ?_ ?_ | with_reducible rfl | exact (fun h => by cases h) | exact rfl)); done))
        | (refine call_i (few_spec A a) false ?_ rfl ?_; focus ((repeat' (first | exact trivial | refine And.intro ?_ ?_ | with_reducible rfl | exact (fun h => by cases h) | exact rfl)); done))
        | (refine call_i (few_spec A b) false ?_ rfl ?_; focus ((repeat' (first | exact trivial | refine And.intro ?_ ?_ | with_reducible rfl | exact (fun h => by cases h) | exact rfl)); done))
        | (refine call_i (few_spec A c) false ?_ rfl ?_; focus ((repeat' (first | exact trivial | refine And.intro ?_ ?_ | with_reducible rfl | exact (fun h => by cases h) | exact rfl)); done))
        | (refine call_i (own_spec A a (by omega)) false ?_ rfl ?_; focus ((repeat' (first | exact trivial | refine And.intro ?_ ?_ | with_reducible rfl | exact (fun h => by cases h) | exact rfl)); done))
        | (refine call_i (own_spec A b (by omega)) false ?_ rfl ?_; focus ((repeat' (first | exact trivial | refine And.intro ?_ ?_ | with_reducible rfl | exact (fun h => by cases h) | exact rfl)); done))
        | (refine call_i (own_spec A c (by omega)) false ?_ rfl ?_; focus ((repeat' (first | exact trivial | refine And.intro ?_ ?_ | with_reducible rfl | exact (fun h => by cases h) | exact rfl)); done))
        | (refine call_i (m1) false ?_ rfl ?_; focus ((repeat' (first | exact trivial | refine And.intro ?_ ?_ | with_reducible rfl | exact (fun h => by cases h) | exact rfl)); done))
        | (refine call_i (m2) false ?_ rfl ?_; focus ((repeat' (first | exact trivial | refine And.intro ?_ ?_ | with_reducible rfl | exact (fun h => by cases h) | exact rfl)); done))
        | (refine call_i (m3) false ?_ rfl ?_; focus ((repeat' (first | exact trivial | refine And.intro ?_ ?_ | with_reducible rfl | exact (fun h => by cases h) | exact rfl)); done))
        | (refine call_i (m4) false ?_ rfl ?_; focus ((repeat' (first | exact trivial | refine And.intro ?_ ?_ | with_reducible rfl | exact (fun h => by cases h) | exact rfl)); done))
        | (refine call_i (m5) false ?_ rfl ?_; focus ((repeat' (first | exact trivial | refine And.intro ?_ ?_ | with_reducible rfl | exact (fun h => by cases h) | exact rfl)); done))
        | (refine call_i (m6) false ?_ rfl ?_; focus ((repeat' (first | exact trivial | refine And.intro ?_ ?_ | with_reducible rfl | exact (fun h => by cases h) | exact rfl)); done))
        | (refine call_i (m7) false ?_ rfl ?_; focus ((repeat' (first | exact trivial | refine And.intro ?_ ?_ | with_reducible rfl | exact (fun h => by cases h) | exact rfl)); done))
        | (refine call_i (theirs_spec A ab (by omega)) false ?_ rfl ?_; focus ((repeat' (first | exact trivial | refine And.intro ?_ ?_ | with_reducible rfl | exact (fun h => by cases h) | exact rfl)); done))
        | (refine call_i (theirs_spec A abc (by omega)) false ?_ rfl ?_; focus ((repeat' (first | exact trivial | refine And.intro ?_ ?_ | with_reducible rfl | exact (fun h => by cases h) | exact rfl)); done))
        | (refine call_i (theirs_spec A a (by omega)) false ?_ rfl ?_; focus ((repeat' (first | exact trivial | refine And.intro ?_ ?_ | with_reducible rfl | exact (fun h => by cases h) | exact rfl)); done))
        | (refine call_i (equal_spec A A ab ab (by omega)) false ?_ rfl ?_; focus ((repeat' (first | exact trivial | refine And.intro ?_ ?_ | with_reducible rfl | exact (fun h => by cases h) | exact rfl)); done))
        | (refine call_i (equal_spec A A abc abc (by omega)) false ?_ rfl ?_; focus ((repeat' (first | exact trivial | refine And.intro ?_ ?_ | with_reducible rfl | exact (fun h => by cases h) | exact rfl)); done))
        | (refine call_i (equal_spec A A a a (by omega)) false ?_ rfl ?_; focus ((repeat' (first | exact trivial | refine And.intro ?_ ?_ | with_reducible rfl | exact (fun h => by cases h) | exact rfl)); done))
        | refine seq_go ?_
        | refine draw_i (by kernel_rfl) ?_
        | refine arith_in (by omega) ?_
        | refine need_i (p := (T.row _).eq = true) (by kernel_rfl) ?_
        | refine need_i (by omega) ?_
        | refine br_not ?_
        | refine br_dec (fun hd => ?_) (fun hd => ?_)
        | refine br_lt (fun hlt => ?_) (fun hlt => ?_)
        | refine br_le (fun hle => ?_) (fun hle => ?_)
        | refine br_eq (fun heq => ?_) (fun heq => ?_)
        | refine idx_map (by omega) (fun x hx => ?_)
        | refine live_i rfl (fun h => by cases h) ?_
        | refine ret_i ?_)
      exact ret_bool (decB_t.2 ⟨rfl, rfl⟩)
    · generalize maxP A a B' b = p at m1 m2 m3 m4 m5 l1 l2 l4 he
      generalize maxP p.1.1 p.1.2 C c = q at m1 m2 m3 m4 m5 l1 l2 l4 he
      generalize maxP B' b C c = s at m1 m2 m3 m4 m5 l1 l2 l4 he
      repeat' ((conv => whnf); first
        | refine br_dec (fun hd => ?_) (fun hd => absurd (by first | assumption | exact ⟨rfl, rfl⟩) hd)
        | (exfalso; omega)
        | exact absurd ⟨by assumption, by assumption⟩ he
        | (refine call_i (awake_spec) false ?_ rfl ?_; focus ((repeat' (first | exact trivial | refine And.intro ?_ ?_ | with_reducible rfl | exact (fun h => by cases h) | exact rfl)); done))
        | (refine call_i (few_spec A a) false ?_ rfl ?_; focus ((repeat' (first | exact trivial | refine And.intro ?_ ?_ | with_reducible rfl | exact (fun h => by cases h) | exact rfl)); done))
        | (refine call_i (few_spec B' b) false ?_ rfl ?_; focus ((repeat' (first | exact trivial | refine And.intro ?_ ?_ | with_reducible rfl | exact (fun h => by cases h) | exact rfl)); done))
        | (refine call_i (few_spec C c) false ?_ rfl ?_; focus ((repeat' (first | exact trivial | refine And.intro ?_ ?_ | with_reducible rfl | exact (fun h => by cases h) | exact rfl)); done))
        | (refine call_i (own_spec A a (by omega)) false ?_ rfl ?_; focus ((repeat' (first | exact trivial | refine And.intro ?_ ?_ | with_reducible rfl | exact (fun h => by cases h) | exact rfl)); done))
        | (refine call_i (own_spec B' b (by omega)) false ?_ rfl ?_; focus ((repeat' (first | exact trivial | refine And.intro ?_ ?_ | with_reducible rfl | exact (fun h => by cases h) | exact rfl)); done))
        | (refine call_i (own_spec C c (by omega)) false ?_ rfl ?_; focus ((repeat' (first | exact trivial | refine And.intro ?_ ?_ | with_reducible rfl | exact (fun h => by cases h) | exact rfl)); done))
        | (refine call_i (m1) false ?_ rfl ?_; focus ((repeat' (first | exact trivial | refine And.intro ?_ ?_ | with_reducible rfl | exact (fun h => by cases h) | exact rfl)); done))
        | (refine call_i (m2) false ?_ rfl ?_; focus ((repeat' (first | exact trivial | refine And.intro ?_ ?_ | with_reducible rfl | exact (fun h => by cases h) | exact rfl)); done))
        | (refine call_i (m3) false ?_ rfl ?_; focus ((repeat' (first | exact trivial | refine And.intro ?_ ?_ | with_reducible rfl | exact (fun h => by cases h) | exact rfl)); done))
        | (refine call_i (m4) false ?_ rfl ?_; focus ((repeat' (first | exact trivial | refine And.intro ?_ ?_ | with_reducible rfl | exact (fun h => by cases h) | exact rfl)); done))
        | (refine call_i (m5) false ?_ rfl ?_; focus ((repeat' (first | exact trivial | refine And.intro ?_ ?_ | with_reducible rfl | exact (fun h => by cases h) | exact rfl)); done))
        | (refine call_i (theirs_spec p.1.1 p.1.2 (by omega)) false ?_ rfl ?_; focus ((repeat' (first | exact trivial | refine And.intro ?_ ?_ | with_reducible rfl | exact (fun h => by cases h) | exact rfl)); done))
        | (refine call_i (equal_spec p.1.1 p.1.1 p.1.2 p.1.2 (by omega)) false ?_ rfl ?_; focus ((repeat' (first | exact trivial | refine And.intro ?_ ?_ | with_reducible rfl | exact (fun h => by cases h) | exact rfl)); done))
        | refine seq_go ?_
        | refine draw_i (by kernel_rfl) ?_
        | refine arith_in (by omega) ?_
        | refine need_i (p := (T.row _).eq = true) (by kernel_rfl) ?_
        | refine need_i (by omega) ?_
        | refine br_not ?_
        | refine br_dec (fun hd => ?_) (fun hd => ?_)
        | refine br_lt (fun hlt => ?_) (fun hlt => ?_)
        | refine br_le (fun hle => ?_) (fun hle => ?_)
        | refine br_eq (fun heq => ?_) (fun heq => ?_)
        | refine idx_map (by omega) (fun x hx => ?_)
        | refine live_i rfl (fun h => by cases h) ?_
        | refine ret_i ?_)
      all_goals exact ret_bool rfl
  · repeat' ((conv => whnf); first
      | exact absurd ⟨by assumption, by assumption, by assumption⟩ hf
      | (refine call_i (awake_spec) false ?_ rfl ?_; focus ((repeat' (first | exact trivial | refine And.intro ?_ ?_ | with_reducible rfl | exact (fun h => by cases h) | exact rfl)); done))
      | (refine call_i (few_spec A a) false ?_ rfl ?_; focus ((repeat' (first | exact trivial | refine And.intro ?_ ?_ | with_reducible rfl | exact (fun h => by cases h) | exact rfl)); done))
      | (refine call_i (few_spec B' b) false ?_ rfl ?_; focus ((repeat' (first | exact trivial | refine And.intro ?_ ?_ | with_reducible rfl | exact (fun h => by cases h) | exact rfl)); done))
      | (refine call_i (few_spec C c) false ?_ rfl ?_; focus ((repeat' (first | exact trivial | refine And.intro ?_ ?_ | with_reducible rfl | exact (fun h => by cases h) | exact rfl)); done))
      | refine seq_go ?_
      | refine draw_i (by kernel_rfl) ?_
      | refine arith_in (by omega) ?_
      | refine need_i (p := (T.row _).eq = true) (by kernel_rfl) ?_
      | refine need_i (by omega) ?_
      | refine br_not ?_
      | refine br_dec (fun hd => ?_) (fun hd => ?_)
      | refine br_lt (fun hlt => ?_) (fun hlt => ?_)
      | refine br_le (fun hle => ?_) (fun hle => ?_)
      | refine br_eq (fun heq => ?_) (fun heq => ?_)
      | refine idx_map (by omega) (fun x hx => ?_)
      | refine live_i rfl (fun h => by cases h) ?_
      | refine ret_i ?_)
    all_goals exact ret_bool rfl
theorem law_max_spec {A B' C : Int} {a b c : List (Int × Int)} : Sp 6 [envV A a, envV B' b, envV C c] (B true) := sp_of Try.func6 (by kernel_rfl) (by kernel_rfl) law_max
end Go.Proofs.Env41
