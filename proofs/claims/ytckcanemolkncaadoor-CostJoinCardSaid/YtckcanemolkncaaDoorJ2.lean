/-
  The statement on joined programs, walked.
-/
import Derived.Test.YtckcanemolkncaaDoorJ1
set_option linter.unusedVariables false
set_option linter.unusedSimpArgs false
namespace Go.Proofs.Cost58
open Go Go.Proofs Go.Ab
set_option maxRecDepth 100000

def twiceR (r : Rt) : Rt := ⟨2 * r.sheet, 2 * r.bar, 2 * r.cut, 2 * r.rapid, 2 * r.pierce, 2 * r.joint, 2 * r.setup⟩
set_option maxHeartbeats 2000000 in
theorem law_join_vc (r : Rt) (a b : List Mv) : fnVC T Tryd.prog Tryd.f6 [rtV r, .sl (a.map mvV), .sl (b.map mvV)] (.lit (.bool true)) := by
  have hla : (a.map mvV).length = a.length := by simp
  have hlb : (b.map mvV).length = b.length := by simp
  rcases Nat.lt_or_ge 60 a.length with hbig | hsa
  · repeat' ((conv => whnf); first
      | (refine call_i (awake_spec) false ?_ rfl ?_; focus ((repeat' (first | exact trivial | refine And.intro ?_ ?_ | with_reducible rfl | exact (fun h => by cases h) | exact rfl)); done))
      | (exfalso; omega)
      | refine seq_go ?_
      | refine draw_i (by kernel_rfl) ?_
      | refine arith_half (by omega) ?_
      | refine arith_in (by omega) ?_
      | refine arith_u (by omega) ?_
      | refine need_i (p := (T.row _).eq = true) (by kernel_rfl) ?_
      | refine need_i (by omega) ?_
      | refine br_not ?_
      | refine br_dec (fun hd => ?_) (fun hd => ?_)
      | refine br_lt (fun hlt => ?_) (fun hlt => ?_)
      | refine br_le (fun hle => ?_) (fun hle => ?_)
      | refine br_eq (fun heq => ?_) (fun heq => ?_)
      | refine idx_map (by omega) (fun x hx => ?_)
      | refine live_i rfl (fun h => by cases h) ?_
      | refine branch_s (fun hbb => ?_) (fun hbb => ?_)
      | refine ret_i ?_)
    conv => whnf
    exact ret_bool rfl
  rcases Nat.lt_or_ge 60 b.length with hbig | hsb
  · repeat' ((conv => whnf); first
      | (refine call_i (awake_spec) false ?_ rfl ?_; focus ((repeat' (first | exact trivial | refine And.intro ?_ ?_ | with_reducible rfl | exact (fun h => by cases h) | exact rfl)); done))
      | (exfalso; omega)
      | refine seq_go ?_
      | refine draw_i (by kernel_rfl) ?_
      | refine arith_half (by omega) ?_
      | refine arith_in (by omega) ?_
      | refine arith_u (by omega) ?_
      | refine need_i (p := (T.row _).eq = true) (by kernel_rfl) ?_
      | refine need_i (by omega) ?_
      | refine br_not ?_
      | refine br_dec (fun hd => ?_) (fun hd => ?_)
      | refine br_lt (fun hlt => ?_) (fun hlt => ?_)
      | refine br_le (fun hle => ?_) (fun hle => ?_)
      | refine br_eq (fun heq => ?_) (fun heq => ?_)
      | refine idx_map (by omega) (fun x hx => ?_)
      | refine live_i rfl (fun h => by cases h) ?_
      | refine branch_s (fun hbb => ?_) (fun hbb => ?_)
      | refine ret_i ?_)
    conv => whnf
    exact ret_bool rfl
  by_cases hg : rtOk r ∧ prOk a ∧ prOk b
  · obtain ⟨hr, hpa, hpb⟩ := hg
    obtain ⟨f1, f2, f3, f4⟩ := firstP_ok hpa hsa
    have hpz : prOk (firstP a ++ b) := ⟨by rw [List.length_append]; omega, fun m hm => (List.mem_append.1 hm).elim (f1.2 m) (hpb.2 m)⟩
    have hfm : List.map mvV (firstP a) = List.map mvV (a.filter fun m => decide (m.1 ≠ 6)) ++ [mvV (1, (0, 0))] := by unfold firstP; rw [List.map_append]; rfl
    have hx := pprog_spec r (firstP a) (by omega)
    have hy := pprog_spec r b (by omega)
    have hz := pprog_spec r (firstP a ++ b) (by rw [List.length_append]; omega)
    have hw := pprog_spec (twiceR r) (firstP a ++ b) (by rw [List.length_append]; omega)
    have hj := join49_spec (firstP a) b f1 hpb (by omega) f3
    rw [billR_ok hr f1] at hx
    rw [billR_ok hr hpb] at hy
    rw [billR_ok hr hpz] at hz
    repeat' ((conv => whnf); first
      | (refine call_i (awake_spec) false ?_ rfl ?_; focus ((repeat' (first | exact trivial | refine And.intro ?_ ?_ | with_reducible rfl | exact (fun h => by cases h) | exact rfl)); done))
      | (exfalso; omega)
      | (refine call_i (rvalid_spec r) false ?_ rfl ?_; focus ((repeat' (first | exact trivial | refine And.intro ?_ ?_ | with_reducible rfl | exact (fun h => by cases h) | exact rfl)); done))
      | (refine call_i (rvalid49_spec a (by omega)) false ?_ rfl ?_; focus ((repeat' (first | exact trivial | refine And.intro ?_ ?_ | with_reducible rfl | exact (fun h => by cases h) | exact rfl)); done))
      | (refine call_i (rvalid49_spec b (by omega)) false ?_ rfl ?_; focus ((repeat' (first | exact trivial | refine And.intro ?_ ?_ | with_reducible rfl | exact (fun h => by cases h) | exact rfl)); done))
      | (exact (hd hr).elim)
      | (exact (hd hpa).elim)
      | (exact (hd hpb).elim)
      | refine seq_go ?_
      | refine draw_i (by kernel_rfl) ?_
      | refine arith_half (by omega) ?_
      | refine arith_in (by omega) ?_
      | refine arith_u (by omega) ?_
      | refine need_i (p := (T.row _).eq = true) (by kernel_rfl) ?_
      | refine need_i (by omega) ?_
      | refine br_not ?_
      | refine br_dec (fun hd => ?_) (fun hd => ?_)
      | refine br_lt (fun hlt => ?_) (fun hlt => ?_)
      | refine br_le (fun hle => ?_) (fun hle => ?_)
      | refine br_eq (fun heq => ?_) (fun heq => ?_)
      | refine idx_map (by omega) (fun x hx => ?_)
      | refine live_i rfl (fun h => by cases h) ?_
      | refine branch_s (fun hbb => ?_) (fun hbb => ?_)
      | refine ret_i ?_)
    rw [hfm] at hx hj
    have hBx := sumB49 _ f1.2
    have hBy := sumB49 _ hpb.2
    have hBz := sumB49 _ hpz.2
    have hzl : (firstP a ++ b).length ≤ 121 := by rw [List.length_append]; omega
    obtain ⟨j1, j2, j3, j4⟩ := sum_join (firstP a) b f4
    have q0 := hr r.sheet (by simp [Rt.l])
    have q0' := hr r.bar (by simp [Rt.l])
    have q1 := hr r.cut (by simp [Rt.l])
    have q2 := hr r.rapid (by simp [Rt.l])
    have q3 := hr r.pierce (by simp [Rt.l])
    have q4 := hr r.joint (by simp [Rt.l])
    have q5 := hr r.setup (by simp [Rt.l])
    have mB : ∀ {s : Sm} {n : Nat}, SmB s n → n ≤ 2000 → (0 ≤ s.cu * r.cut ∧ s.cu * r.cut ≤ 8000000 * 1000) ∧ (0 ≤ s.ra * r.rapid ∧ s.ra * r.rapid ≤ 8000000 * 1000) ∧ (0 ≤ s.pi * r.pierce ∧ s.pi * r.pierce ≤ 8000000 * 1000) ∧ (0 ≤ s.jo * r.joint ∧ s.jo * r.joint ≤ 8000000 * 1000) := by
      intro s n hB hn
      obtain ⟨b1, b2, b3, b4, _, _⟩ := hB
      exact ⟨mulB (by omega) q1, mulB (by omega) q2, mulB (by omega) q3, mulB (by omega) q4⟩
    obtain ⟨x1, x2, x3, x4⟩ := mB hBx (by omega)
    obtain ⟨y1, y2, y3, y4⟩ := mB hBy (by omega)
    obtain ⟨z1, z2, z3, z4⟩ := mB hBz (by omega)
    have k1 : (sumS (firstP a ++ b)).cu * r.cut = (sumS (firstP a)).cu * r.cut + (sumS b).cu * r.cut := by rw [j2, Int.add_mul]
    have k2 : (sumS (firstP a ++ b)).ra * r.rapid = (sumS (firstP a)).ra * r.rapid + (sumS b).ra * r.rapid := by rw [j1, Int.add_mul]
    have k3 : (sumS (firstP a ++ b)).pi * r.pierce = (sumS (firstP a)).pi * r.pierce + (sumS b).pi * r.pierce := by rw [j3, Int.add_mul]
    have k4 : (sumS (firstP a ++ b)).jo * r.joint = (sumS (firstP a)).jo * r.joint + (sumS b).jo * r.joint := by rw [j4, Int.add_mul]
    have hw2 : (rtOk (twiceR r) ∧ ∃ wc wr wp wj ws : Int, billR (twiceR r) (firstP a ++ b) = ([wc, wr, wp, wj, ws, 2 * ((sumS (firstP a ++ b)).cu * r.cut + (sumS (firstP a ++ b)).ra * r.rapid + (sumS (firstP a ++ b)).pi * r.pierce + (sumS (firstP a ++ b)).jo * r.joint + r.setup)], 0)) ∨ (¬ rtOk (twiceR r) ∧ billR (twiceR r) (firstP a ++ b) = ([0, 0, 0, 0, 0, 0], 1)) := by
      by_cases ht : rtOk (twiceR r)
      · refine .inl ⟨ht, (sumS (firstP a ++ b)).cu * (2 * r.cut), (sumS (firstP a ++ b)).ra * (2 * r.rapid), (sumS (firstP a ++ b)).pi * (2 * r.pierce), (sumS (firstP a ++ b)).jo * (2 * r.joint), 2 * r.setup, ?_⟩
        rw [billR_ok ht hpz]
        have e1 := Int.mul_left_comm (sumS (firstP a ++ b)).cu 2 r.cut
        have e2 := Int.mul_left_comm (sumS (firstP a ++ b)).ra 2 r.rapid
        have e3 := Int.mul_left_comm (sumS (firstP a ++ b)).pi 2 r.pierce
        have e4 := Int.mul_left_comm (sumS (firstP a ++ b)).jo 2 r.joint
        have e5 : (sumS (firstP a ++ b)).cu * (2 * r.cut) + (sumS (firstP a ++ b)).ra * (2 * r.rapid) + (sumS (firstP a ++ b)).pi * (2 * r.pierce) + (sumS (firstP a ++ b)).jo * (2 * r.joint) + 2 * r.setup = 2 * ((sumS (firstP a ++ b)).cu * r.cut + (sumS (firstP a ++ b)).ra * r.rapid + (sumS (firstP a ++ b)).pi * r.pierce + (sumS (firstP a ++ b)).jo * r.joint + r.setup) := by omega
        rw [← e5]; rfl
      · exact .inr ⟨ht, billR_no (fun h => ht h.1)⟩
    unfold billL at hx hy hz
    generalize (sumS (firstP a)).cu * r.cut = xc at *
    generalize (sumS (firstP a)).ra * r.rapid = xr at *
    generalize (sumS (firstP a)).pi * r.pierce = xp at *
    generalize (sumS (firstP a)).jo * r.joint = xj at *
    generalize (sumS b).cu * r.cut = yc at *
    generalize (sumS b).ra * r.rapid = yr at *
    generalize (sumS b).pi * r.pierce = yp at *
    generalize (sumS b).jo * r.joint = yj at *
    generalize (sumS (firstP a ++ b)).cu * r.cut = zc at *
    generalize (sumS (firstP a ++ b)).ra * r.rapid = zr at *
    generalize (sumS (firstP a ++ b)).pi * r.pierce = zp at *
    generalize (sumS (firstP a ++ b)).jo * r.joint = zj at *
    generalize firstP a ++ b = Z at *
    refine loop_3 (A := List Mv) (B := List Mv) (C := Nat) (fun D R g => mkSt [(1, .sl (a.map mvV)), (2, .sl (b.map mvV)), (3, .box 3 0), (7, .arr 62 g), (50, .sl (a.map mvV)), (51, I a.length), (52, I D.length)]
        [(3, [I r.sheet, I r.bar, I r.cut, I r.rapid, I r.pierce, I r.joint, I r.setup])] [(62, ⟨g, .own, 67, (D.filter fun m => decide (m.1 ≠ 6)).map mvV⟩)])
      (fun D R g => a = D ++ R) (fun D R g => R.length) [] a 0 ?_ rfl (fun D R g hp => ?_)
    · refine le_mk ?_ ?_ ?_ ?_
      all_goals repeat' (first | exact trivial | refine And.intro ?_ ?_ | with_reducible rfl | exact Nat.le_refl _ | omega | exact rfl)
    · have h1 : a = D ++ R := hp
      have hlen : a.length = D.length + R.length := by rw [h1]; simp
      have hfl : (D.filter fun m => decide (m.1 ≠ 6)).length ≤ D.length := List.length_filter_le _ _
      cases R with
      | cons x R =>
        rw [List.length_cons] at hlen
        repeat' ((conv => whnf); first
          | (exfalso; omega)
          | refine idx_mid (l := a) (A := D) (x := x) (B := R) h1 (by omega) ?_
          | refine need_app rfl (.inl rfl) rfl (of_decide_eq_true rfl) (one_cells rfl) (by show (List.map mvV _).length + 1 ≤ _; rw [List.length_map]; omega) ?_
          | refine seq_go ?_
          | refine draw_i (by kernel_rfl) ?_
          | refine arith_half (by omega) ?_
          | refine arith_in (by omega) ?_
          | refine arith_u (by omega) ?_
          | refine need_i (p := (T.row _).eq = true) (by kernel_rfl) ?_
          | refine need_i (by omega) ?_
          | refine br_not ?_
          | refine br_dec (fun hd => ?_) (fun hd => ?_)
          | refine br_lt (fun hlt => ?_) (fun hlt => ?_)
          | refine br_le (fun hle => ?_) (fun hle => ?_)
          | refine br_eq (fun heq => ?_) (fun heq => ?_)
          | refine idx_map (by omega) (fun x hx => ?_)
          | refine live_i rfl (fun h => by cases h) ?_
          | refine branch_s (fun hbb => ?_) (fun hbb => ?_)
          | refine ret_i ?_)
        · have hfx : (D ++ [x]).filter (fun m => decide (m.1 ≠ 6)) = D.filter (fun m => decide (m.1 ≠ 6)) := by rw [List.filter_append]; simp [heq]
          conv => whnf
          refine ⟨(D ++ [x], R, g), ?_, ?_, ?_⟩
          · refine le_mk ?_ ?_ ?_ ?_
            all_goals repeat' (first | exact trivial | refine And.intro ?_ ?_ | with_reducible rfl | exact Nat.le_refl _ | omega | exact rfl)
            · show List.map mvV (D.filter fun m => decide (m.1 ≠ 6)) = List.map mvV ((D ++ [x]).filter fun m => decide (m.1 ≠ 6))
              rw [hfx]
            · show (D.length : Int) + 1 = (D ++ [x]).length
              simp
          · show a = D ++ [x] ++ R
            rw [h1]; simp
          · show R.length < (x :: R).length
            simp
        · have hfx : (D ++ [x]).filter (fun m => decide (m.1 ≠ 6)) = D.filter (fun m => decide (m.1 ≠ 6)) ++ [x] := by rw [List.filter_append]; simp [heq]
          conv => whnf
          refine ⟨(D ++ [x], R, g + 1), ?_, ?_, ?_⟩
          · refine le_mk ?_ ?_ ?_ ?_
            all_goals repeat' (first | exact trivial | refine And.intro ?_ ?_ | with_reducible rfl | exact Nat.le_refl _ | omega | exact rfl)
            · show List.map mvV (D.filter fun m => decide (m.1 ≠ 6)) ++ [mvV x] = List.map mvV ((D ++ [x]).filter fun m => decide (m.1 ≠ 6))
              rw [hfx]; simp
            · show (D.length : Int) + 1 = (D ++ [x]).length
              simp
          · show a = D ++ [x] ++ R
            rw [h1]; simp
          · show R.length < (x :: R).length
            simp
      | nil =>
        have e : a = D := by rw [h1]; simp
        subst e
        clear hlen hp h1
        rcases hw2 with ⟨ht, wc, wr, wp, wj, ws, e⟩ | ⟨ht, e⟩
        · rw [e] at hw
          repeat' ((conv => whnf); first
            | (exfalso; omega)
            | refine need_app rfl (.inl rfl) rfl (of_decide_eq_true rfl) (one_cells rfl) (by show (List.map mvV _).length + 1 ≤ _; rw [List.length_map]; omega) ?_
            | (refine call_i (own_spec b (by omega)) false ?_ rfl ?_; focus ((repeat' (first | exact trivial | refine And.intro ?_ ?_ | with_reducible rfl | exact (fun h => by cases h) | exact rfl)); done))
            | refine call_i hj false ⟨⟨rfl, (fun h => by cases h), rfl⟩, ⟨rfl, (fun h => by cases h), rfl⟩, trivial⟩ rfl ?_
            | refine call_i hx true ⟨⟨rfl, rfl, rfl, rfl, rfl, rfl, rfl, trivial⟩, ⟨rfl, (fun h => by cases h), rfl⟩, trivial⟩ rfl ?_
            | refine call_i hy true ⟨⟨rfl, rfl, rfl, rfl, rfl, rfl, rfl, trivial⟩, ⟨rfl, (fun h => by cases h), rfl⟩, trivial⟩ rfl ?_
            | refine call_i hz true ⟨⟨rfl, rfl, rfl, rfl, rfl, rfl, rfl, trivial⟩, ⟨rfl, (fun h => by cases h), rfl⟩, trivial⟩ rfl ?_
            | refine call_i hw true ⟨⟨rfl, rfl, rfl, rfl, rfl, rfl, rfl, trivial⟩, ⟨rfl, (fun h => by cases h), rfl⟩, trivial⟩ rfl ?_
            | (refine call_i (valid_spec (twiceR r)) false ?_ rfl ?_; focus ((repeat' (first | exact trivial | refine And.intro ?_ ?_ | with_reducible rfl | exact (fun h => by cases h) | exact rfl)); done))
            | (exfalso; exact heq rfl)
            | (exact (hd ht).elim)
            | (exact (ht hd).elim)
            | refine seq_go ?_
            | refine draw_i (by kernel_rfl) ?_
            | refine arith_half (by omega) ?_
            | refine arith_in (by omega) ?_
            | refine arith_u (by omega) ?_
            | refine need_i (p := (T.row _).eq = true) (by kernel_rfl) ?_
            | refine need_i (by omega) ?_
            | refine br_not ?_
            | refine br_dec (fun hd => ?_) (fun hd => ?_)
            | refine br_lt (fun hlt => ?_) (fun hlt => ?_)
            | refine br_le (fun hle => ?_) (fun hle => ?_)
            | refine br_eq (fun heq => ?_) (fun heq => ?_)
            | refine idx_map (by omega) (fun x hx => ?_)
            | refine live_i rfl (fun h => by cases h) ?_
            | refine branch_s (fun hbb => ?_) (fun hbb => ?_)
            | refine ret_i ?_)
          conv => whnf
          refine ret_bool ?_
          exact eqB_t.2 (by omega)
        · rw [e] at hw
          repeat' ((conv => whnf); first
            | (exfalso; omega)
            | refine need_app rfl (.inl rfl) rfl (of_decide_eq_true rfl) (one_cells rfl) (by show (List.map mvV _).length + 1 ≤ _; rw [List.length_map]; omega) ?_
            | (refine call_i (own_spec b (by omega)) false ?_ rfl ?_; focus ((repeat' (first | exact trivial | refine And.intro ?_ ?_ | with_reducible rfl | exact (fun h => by cases h) | exact rfl)); done))
            | refine call_i hj false ⟨⟨rfl, (fun h => by cases h), rfl⟩, ⟨rfl, (fun h => by cases h), rfl⟩, trivial⟩ rfl ?_
            | refine call_i hx true ⟨⟨rfl, rfl, rfl, rfl, rfl, rfl, rfl, trivial⟩, ⟨rfl, (fun h => by cases h), rfl⟩, trivial⟩ rfl ?_
            | refine call_i hy true ⟨⟨rfl, rfl, rfl, rfl, rfl, rfl, rfl, trivial⟩, ⟨rfl, (fun h => by cases h), rfl⟩, trivial⟩ rfl ?_
            | refine call_i hz true ⟨⟨rfl, rfl, rfl, rfl, rfl, rfl, rfl, trivial⟩, ⟨rfl, (fun h => by cases h), rfl⟩, trivial⟩ rfl ?_
            | refine call_i hw true ⟨⟨rfl, rfl, rfl, rfl, rfl, rfl, rfl, trivial⟩, ⟨rfl, (fun h => by cases h), rfl⟩, trivial⟩ rfl ?_
            | (refine call_i (valid_spec (twiceR r)) false ?_ rfl ?_; focus ((repeat' (first | exact trivial | refine And.intro ?_ ?_ | with_reducible rfl | exact (fun h => by cases h) | exact rfl)); done))
            | (exfalso; exact heq rfl)
            | (exact (hd ht).elim)
            | (exact (ht hd).elim)
            | refine seq_go ?_
            | refine draw_i (by kernel_rfl) ?_
            | refine arith_half (by omega) ?_
            | refine arith_in (by omega) ?_
            | refine arith_u (by omega) ?_
            | refine need_i (p := (T.row _).eq = true) (by kernel_rfl) ?_
            | refine need_i (by omega) ?_
            | refine br_not ?_
            | refine br_dec (fun hd => ?_) (fun hd => ?_)
            | refine br_lt (fun hlt => ?_) (fun hlt => ?_)
            | refine br_le (fun hle => ?_) (fun hle => ?_)
            | refine br_eq (fun heq => ?_) (fun heq => ?_)
            | refine idx_map (by omega) (fun x hx => ?_)
            | refine live_i rfl (fun h => by cases h) ?_
            | refine branch_s (fun hbb => ?_) (fun hbb => ?_)
            | refine ret_i ?_)
          conv => whnf
          exact ret_bool rfl
  · repeat' ((conv => whnf); first
      | (refine call_i (awake_spec) false ?_ rfl ?_; focus ((repeat' (first | exact trivial | refine And.intro ?_ ?_ | with_reducible rfl | exact (fun h => by cases h) | exact rfl)); done))
      | (exfalso; omega)
      | (refine call_i (rvalid_spec r) false ?_ rfl ?_; focus ((repeat' (first | exact trivial | refine And.intro ?_ ?_ | with_reducible rfl | exact (fun h => by cases h) | exact rfl)); done))
      | (refine call_i (rvalid49_spec a (by omega)) false ?_ rfl ?_; focus ((repeat' (first | exact trivial | refine And.intro ?_ ?_ | with_reducible rfl | exact (fun h => by cases h) | exact rfl)); done))
      | (refine call_i (rvalid49_spec b (by omega)) false ?_ rfl ?_; focus ((repeat' (first | exact trivial | refine And.intro ?_ ?_ | with_reducible rfl | exact (fun h => by cases h) | exact rfl)); done))
      | (exfalso; exact hg ⟨by assumption, by assumption, by assumption⟩)
      | refine seq_go ?_
      | refine draw_i (by kernel_rfl) ?_
      | refine arith_half (by omega) ?_
      | refine arith_in (by omega) ?_
      | refine arith_u (by omega) ?_
      | refine need_i (p := (T.row _).eq = true) (by kernel_rfl) ?_
      | refine need_i (by omega) ?_
      | refine br_not ?_
      | refine br_dec (fun hd => ?_) (fun hd => ?_)
      | refine br_lt (fun hlt => ?_) (fun hlt => ?_)
      | refine br_le (fun hle => ?_) (fun hle => ?_)
      | refine br_eq (fun heq => ?_) (fun heq => ?_)
      | refine idx_map (by omega) (fun x hx => ?_)
      | refine live_i rfl (fun h => by cases h) ?_
      | refine branch_s (fun hbb => ?_) (fun hbb => ?_)
      | refine ret_i ?_)
    all_goals (conv => whnf)
    all_goals exact ret_bool rfl
theorem law_join_spec (r : Rt) (a b : List Mv) : Sp 6 [rtV r, .sl (a.map mvV), .sl (b.map mvV)] (.lit (.bool true)) := sp_of Tryd.func6 (by kernel_rfl) (by kernel_rfl) (law_join_vc r a b)
end Go.Proofs.Cost58
