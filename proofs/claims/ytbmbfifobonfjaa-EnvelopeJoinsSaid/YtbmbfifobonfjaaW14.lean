/-
  The functions of the envelopes, walked: packing by columns, rectangles.
-/
import Derived.Test.YtbmbfifobonfjaaW10
set_option linter.unusedVariables false
set_option linter.unusedSimpArgs false
namespace Go.Proofs.Env41
open Go Go.Proofs Go.Ab
set_option maxRecDepth 100000

theorem rects_vc (rs : List (Int × Int)) (hl : rs.length ≤ 100000) : fnVC T Try.prog Try.f30 [.sl (rs.map stepV)] (.own 38 (rs.map stepV)) := by
  have hs : (rs.map stepV).length = rs.length := by simp
  repeat' ((conv => whnf); first
    | refine seq_go ?_
    | refine draw_i (by kernel_rfl) ?_
    | refine arith_in (by omega) ?_
    | refine need_i (p := (T.row _).eq = true) (by kernel_rfl) ?_
    | refine need_i (by omega) ?_
    | refine br_not ?_
    | refine br_dec (fun hd => ?_) (fun hd => ?_)
    | refine br_lt (fun hlt => ?_) (fun hlt => ?_)
    | refine br_le (fun hle => ?_) (fun hle => ?_)
    | refine br_eq (fun heq => ?_) (fun heq => ?_)
    | refine idx_map (by omega) (fun x hx => ?_)
    | refine live_i rfl (fun h => by cases h) ?_
    | refine ret_i ?_)
  refine loop_i (A := Nat) (fun j => mkSt [(3, .arr 15 j), (6, .sl (rs.map stepV)), (7, I rs.length), (8, I j)] [] [(15, ⟨j, .own, 38, (rs.take j).map stepV⟩)])
    (fun j => j ≤ rs.length) (fun j => rs.length - j) 0 ?_ (by omega) (fun j hj' => ?_)
  · refine le_mk ?_ ?_ ?_
    all_goals repeat' (first | exact trivial | refine And.intro ?_ ?_ | with_reducible rfl | exact Nat.le_refl _ | omega | exact rfl)
  · change j ≤ rs.length at hj'
    rcases Nat.lt_or_ge j rs.length with hkl | hkl
    · obtain ⟨s, hsj⟩ : ∃ s, rs[j]? = some s := ⟨rs[j], by simp⟩
      have hsj' : rs[(j : Int).toNat]? = some s := by rw [show (j : Int).toNat = j by omega]; exact hsj
      have htl : (rs.take j).length ≤ rs.length := by rw [List.length_take]; omega
      repeat' ((conv => whnf); first
        | (exfalso; omega)
        | refine idx_at hsj' ?_
        | refine need_app rfl (.inl rfl) rfl (of_decide_eq_true rfl) (one_cells rfl) (by show (List.map stepV (rs.take j)).length + 1 ≤ _; simp only [List.length_map]; omega) ?_
        | refine seq_go ?_
        | refine draw_i (by kernel_rfl) ?_
        | refine arith_in (by omega) ?_
        | refine need_i (p := (T.row _).eq = true) (by kernel_rfl) ?_
        | refine need_i (by omega) ?_
        | refine br_not ?_
        | refine br_dec (fun hd => ?_) (fun hd => ?_)
        | refine br_lt (fun hlt => ?_) (fun hlt => ?_)
        | refine br_le (fun hle => ?_) (fun hle => ?_)
        | refine br_eq (fun heq => ?_) (fun heq => ?_)
        | refine idx_map (by omega) (fun x hx => ?_)
        | refine live_i rfl (fun h => by cases h) ?_
        | refine ret_i ?_)
      refine ⟨j + 1, ?_, (by show j + 1 ≤ _; omega), by omega⟩
      have ht : (rs.take (j + 1)) = rs.take j ++ [s] := by rw [List.take_add_one, hsj]; rfl
      refine le_mk ?_ ?_ ?_
      all_goals repeat' (first | exact trivial | refine And.intro ?_ ?_ | with_reducible rfl | exact Nat.le_refl _ | omega | exact rfl)
      · show List.map stepV (rs.take j) ++ [stepV s] = List.map stepV (rs.take (j + 1))
        rw [ht]; simp
    · have hj : rs.take j = rs := List.take_of_length_le hkl
      rw [hj]
      repeat' ((conv => whnf); first
        | (exfalso; omega)
        | refine seq_go ?_
        | refine draw_i (by kernel_rfl) ?_
        | refine arith_in (by omega) ?_
        | refine need_i (p := (T.row _).eq = true) (by kernel_rfl) ?_
        | refine need_i (by omega) ?_
        | refine br_not ?_
        | refine br_dec (fun hd => ?_) (fun hd => ?_)
        | refine br_lt (fun hlt => ?_) (fun hlt => ?_)
        | refine br_le (fun hle => ?_) (fun hle => ?_)
        | refine br_eq (fun heq => ?_) (fun heq => ?_)
        | refine idx_map (by omega) (fun x hx => ?_)
        | refine live_i rfl (fun h => by cases h) ?_
        | refine ret_i ?_)
      conv => whnf
      exact ⟨⟨⟨rfl, rfl, rfl, rfl⟩, trivial⟩, rfl, fun _ h => by cases h⟩
theorem rects_spec (rs : List (Int × Int)) (hl : rs.length ≤ 100000) : Sp 30 [.sl (rs.map stepV)] (.own 38 (rs.map stepV)) := sp_of Try.func30 (by kernel_rfl) (by kernel_rfl) (rects_vc rs hl)

theorem rPack_vc {W : Int} {rs : List (Int × Int)} (hl : rs.length ≤ 100000) : fnVC T Try.prog Try.f31 [I W, .sl (rs.map stepV)] (packR W rs) := by
  have hs : (rs.map stepV).length = rs.length := by simp
  unfold packR packP
  by_cases hW : 1 ≤ W ∧ W ≤ 2000
  · rw [if_pos hW]
    have hnew : Sp 35 [I W] (.tup [envV W [(0, 0)], I 0]) := by
      have := rNew_spec W
      unfold newR newP at this
      rw [if_pos hW] at this
      exact this
    by_cases h500 : 500 < rs.length
    · rw [if_pos h500]
      repeat' ((conv => whnf); first
        | (exfalso; omega)
        | (refine call_i (hnew) false ?_ rfl ?_; focus ((repeat' (first | exact trivial | refine And.intro ?_ ?_ | with_reducible rfl | exact (fun h => by cases h) | exact rfl)); done))
        | refine seq_go ?_
        | refine draw_i (by kernel_rfl) ?_
        | refine arith_in (by omega) ?_
        | refine need_i (p := (T.row _).eq = true) (by kernel_rfl) ?_
        | refine need_i (by omega) ?_
        | refine br_not ?_
        | refine br_dec (fun hd => ?_) (fun hd => ?_)
        | refine br_lt (fun hlt => ?_) (fun hlt => ?_)
        | refine br_le (fun hle => ?_) (fun hle => ?_)
        | refine br_eq (fun heq => ?_) (fun heq => ?_)
        | refine idx_map (by omega) (fun x hx => ?_)
        | refine live_i rfl (fun h => by cases h) ?_
        | refine ret_i ?_)
      conv => whnf
      exact ⟨_, rfl, ⟨⟨rfl, rfl, trivial⟩, rfl, rfl, trivial⟩, rfl⟩
    · rw [if_neg h500]
      repeat' ((conv => whnf); first
        | (exfalso; omega)
        | (refine call_i (hnew) false ?_ rfl ?_; focus ((repeat' (first | exact trivial | refine And.intro ?_ ?_ | with_reducible rfl | exact (fun h => by cases h) | exact rfl)); done))
        | refine seq_go ?_
        | refine draw_i (by kernel_rfl) ?_
        | refine arith_in (by omega) ?_
        | refine need_i (p := (T.row _).eq = true) (by kernel_rfl) ?_
        | refine need_i (by omega) ?_
        | refine br_not ?_
        | refine br_dec (fun hd => ?_) (fun hd => ?_)
        | refine br_lt (fun hlt => ?_) (fun hlt => ?_)
        | refine br_le (fun hle => ?_) (fun hle => ?_)
        | refine br_eq (fun heq => ?_) (fun heq => ?_)
        | refine idx_map (by omega) (fun x hx => ?_)
        | refine live_i rfl (fun h => by cases h) ?_
        | refine ret_i ?_)
      refine loop_i (A := Nat) (fun j => mkSt [(1, .sl (rs.map stepV)), (4, .box 4 0), (7, .box 7 0), (9, .arr 51 j), (10, I j)]
          [(4, [I 0, .lit (.slice none 0 0)]), (7, [I W, .sl ((packS W (rs.take j)).1.map stepV)])] [(51, ⟨j, .own, 39, (packS W (rs.take j)).2.1.map plV⟩)])
        (fun j => j ≤ rs.length ∧ (packS W (rs.take j)).2.2 = 0) (fun j => rs.length - j) 0 ?_ ⟨by omega, rfl⟩ (fun j hj' => ?_)
      · refine le_mk ?_ ?_ ?_
        all_goals repeat' (first | exact trivial | refine And.intro ?_ ?_ | with_reducible rfl | exact Nat.le_refl _ | omega | exact rfl)
      · obtain ⟨hj1, hj2⟩ := hj'
        have hv := pack_val hW hj2
        have hvl := hv.len
        have hpl := pack_len W (rs.take j)
        have htl : (rs.take j).length ≤ rs.length := by rw [List.length_take]; omega
        rcases Nat.lt_or_ge j rs.length with hkl | hkl
        · obtain ⟨s, hsj⟩ : ∃ s, rs[j]? = some s := ⟨rs[j], by simp⟩
          have hsj' : rs[(j : Int).toNat]? = some s := by rw [show (j : Int).toNat = j by omega]; exact hsj
          have hnext := packS_take (W := W) hsj
          by_cases hpe : (placeP W (packS W (rs.take j)).1 s).2.2 = 0
          · obtain ⟨hp1, hp2⟩ := place_val hpe
            have e : packS W (rs.take (j + 1)) = ((placeP W (packS W (rs.take j)).1 s).1.2, (packS W (rs.take j)).2.1 ++ [(placeP W (packS W (rs.take j)).1 s).2.1], 0) := by
              rw [hnext, packOne, if_neg (by simp [hj2]), if_neg (by simp [hpe])]
            have hplace : Sp 14 [envV W (packS W (rs.take j)).1, stepV s] (.tup [envV W (packS W (rs.take (j + 1))).1, plV (placeP W (packS W (rs.take j)).1 s).2.1, I 0]) := by
              have := rPlace_spec (W := W) (l := (packS W (rs.take j)).1) (r := s) (by omega)
              unfold placeR at this
              rw [hp1, hpe] at this
              rw [e]; exact this
            repeat' ((conv => whnf); first
              | (exfalso; omega)
              | refine idx_at hsj' ?_
              | (refine call_i (hplace) false ?_ rfl ?_; focus ((repeat' (first | exact trivial | refine And.intro ?_ ?_ | with_reducible rfl | exact (fun h => by cases h) | exact rfl)); done))
              | refine need_app rfl (.inl rfl) rfl (of_decide_eq_true rfl) (pl_cells _) (by show (List.map plV _).length + 1 ≤ _; simp only [List.length_map]; omega) ?_
              | refine seq_go ?_
              | refine draw_i (by kernel_rfl) ?_
              | refine arith_in (by omega) ?_
              | refine need_i (p := (T.row _).eq = true) (by kernel_rfl) ?_
              | refine need_i (by omega) ?_
              | refine br_not ?_
              | refine br_dec (fun hd => ?_) (fun hd => ?_)
              | refine br_lt (fun hlt => ?_) (fun hlt => ?_)
              | refine br_le (fun hle => ?_) (fun hle => ?_)
              | refine br_eq (fun heq => ?_) (fun heq => ?_)
              | refine idx_map (by omega) (fun x hx => ?_)
              | refine live_i rfl (fun h => by cases h) ?_
              | refine ret_i ?_)
            refine ⟨j + 1, ?_, ⟨by omega, by rw [e]⟩, by omega⟩
            refine le_mk ?_ ?_ ?_
            all_goals repeat' (first | exact trivial | refine And.intro ?_ ?_ | with_reducible rfl | exact Nat.le_refl _ | omega | exact rfl)
            · show List.map plV _ ++ [plV _] = List.map plV (packS W (rs.take (j + 1))).2.1
              rw [e]; simp
          · have e : packS W (rs.take (j + 1)) = ([], [], (placeP W (packS W (rs.take j)).1 s).2.2) := by
              rw [hnext, packOne, if_neg (by simp [hj2]), if_pos hpe]
            have e2 : packS W rs = packS W (rs.take (j + 1)) := pack_err (by rw [e]; exact hpe)
            rw [e2, e, if_pos hpe]
            repeat' ((conv => whnf); first
              | (exfalso; omega)
              | refine idx_at hsj' ?_
              | (refine call_i (rPlace_spec (W := W) (l := (packS W (rs.take j)).1) (r := s) (by omega)) false ?_ rfl ?_; focus ((repeat' (first | exact trivial | refine And.intro ?_ ?_ | with_reducible rfl | exact (fun h => by cases h) | exact rfl)); done))
              | refine seq_go ?_
              | refine draw_i (by kernel_rfl) ?_
              | refine arith_in (by omega) ?_
              | refine need_i (p := (T.row _).eq = true) (by kernel_rfl) ?_
              | refine need_i (by omega) ?_
              | refine br_not ?_
              | refine br_dec (fun hd => ?_) (fun hd => ?_)
              | refine br_lt (fun hlt => ?_) (fun hlt => ?_)
              | refine br_le (fun hle => ?_) (fun hle => ?_)
              | refine br_eq (fun heq => ?_) (fun heq => ?_)
              | refine idx_map (by omega) (fun x hx => ?_)
              | refine live_i rfl (fun h => by cases h) ?_
              | refine ret_i ?_)
            conv => whnf
            exact ⟨_, rfl, ⟨⟨rfl, rfl, trivial⟩, rfl, rfl, trivial⟩, rfl⟩
        · have hjl : rs.take j = rs := List.take_of_length_le hkl
          rw [hjl] at hj2 ⊢
          rw [if_neg (by simp [hj2])]
          repeat' ((conv => whnf); first
            | (exfalso; omega)
            | refine seq_go ?_
            | refine draw_i (by kernel_rfl) ?_
            | refine arith_in (by omega) ?_
            | refine need_i (p := (T.row _).eq = true) (by kernel_rfl) ?_
            | refine need_i (by omega) ?_
            | refine br_not ?_
            | refine br_dec (fun hd => ?_) (fun hd => ?_)
            | refine br_lt (fun hlt => ?_) (fun hlt => ?_)
            | refine br_le (fun hle => ?_) (fun hle => ?_)
            | refine br_eq (fun heq => ?_) (fun heq => ?_)
            | refine idx_map (by omega) (fun x hx => ?_)
            | refine live_i rfl (fun h => by cases h) ?_
            | refine ret_i ?_)
          conv => whnf
          exact ⟨_, rfl, ⟨⟨rfl, rfl, trivial⟩, ⟨rfl, (fun h => by cases h), rfl⟩, rfl, trivial⟩, rfl⟩
  · rw [if_neg hW]
    have hnew : Sp 35 [I W] (.tup [envV 0 [], I 2]) := by
      have := rNew_spec W
      unfold newR newP at this
      rw [if_neg hW] at this
      exact this
    repeat' ((conv => whnf); first
      | (exfalso; omega)
      | (refine call_i (hnew) false ?_ rfl ?_; focus ((repeat' (first | exact trivial | refine And.intro ?_ ?_ | with_reducible rfl | exact (fun h => by cases h) | exact rfl)); done))
      | refine seq_go ?_
      | refine draw_i (by kernel_rfl) ?_
      | refine arith_in (by omega) ?_
      | refine need_i (p := (T.row _).eq = true) (by kernel_rfl) ?_
      | refine need_i (by omega) ?_
      | refine br_not ?_
      | refine br_dec (fun hd => ?_) (fun hd => ?_)
      | refine br_lt (fun hlt => ?_) (fun hlt => ?_)
      | refine br_le (fun hle => ?_) (fun hle => ?_)
      | refine br_eq (fun heq => ?_) (fun heq => ?_)
      | refine idx_map (by omega) (fun x hx => ?_)
      | refine live_i rfl (fun h => by cases h) ?_
      | refine ret_i ?_)
    conv => whnf
    exact ⟨_, rfl, ⟨⟨rfl, rfl, trivial⟩, rfl, rfl, trivial⟩, rfl⟩
theorem rPack_spec {W : Int} {rs : List (Int × Int)} (hl : rs.length ≤ 100000) : Sp 31 [I W, .sl (rs.map stepV)] (packR W rs) := sp_of Try.func31 (by kernel_rfl) (by kernel_rfl) (rPack_vc hl)

/-! ### profiles -/
def raiseF (H : Int → Int) (r : Int × Int) (p : Int × Int × Int) : Int → Int := fun z => if p.1 ≤ z ∧ z < p.1 + r.1 then max (H z) (p.2.1 + r.2) else H z
def profH (rs : List (Int × Int)) (ps : List (Int × Int × Int)) : Nat → Int → Int
  | 0 => fun _ => 0
  | j + 1 => match rs[j]?, ps[j]? with
    | some r, some p => raiseF (profH rs ps j) r p
    | _, _ => profH rs ps j
def insideP (W : Int) (r : Int × Int) (p : Int × Int × Int) : Prop := 0 ≤ p.1 ∧ p.1 ≤ W - r.1 ∧ 0 ≤ p.2.1 ∧ p.2.1 ≤ 1000000 - r.2
def AllIn (W : Int) (rs : List (Int × Int)) (ps : List (Int × Int × Int)) (n : Nat) : Prop := ∀ j r p, j < n → rs[j]? = some r → ps[j]? = some p → insideP W r p
def AllSized (rs : List (Int × Int)) (n : Nat) : Prop := ∀ j r, j < n → rs[j]? = some r → SizedP r.1 r.2
open Classical in
noncomputable def profP (W : Int) (rs : List (Int × Int)) (ps : List (Int × Int × Int)) : (Int × Steps) × Int :=
  if 1 ≤ W ∧ W ≤ 2000 then
    if rs.length = ps.length ∧ rs.length ≤ 500 ∧ AllSized rs rs.length then
      if AllIn W rs ps rs.length then ((W, ofP (profH rs ps rs.length) W.toNat), 0) else ((0, []), 13)
    else ((0, []), 1)
  else ((0, []), 2)
noncomputable def profR (W : Int) (rs : List (Int × Int)) (ps : List (Int × Int × Int)) : V := .tup [envV (profP W rs ps).1.1 (profP W rs ps).1.2, I (profP W rs ps).2]
theorem profH_step {rs : List (Int × Int)} {ps : List (Int × Int × Int)} {j : Nat} {r : Int × Int} {p : Int × Int × Int} (hr : rs[j]? = some r) (hp : ps[j]? = some p) : profH rs ps (j + 1) = raiseF (profH rs ps j) r p := by
  rw [profH]; simp only [hr, hp]

theorem Profile_vc {W : Int} {rs : List (Int × Int)} {ps : List (Int × Int × Int)} : fnVC T Try.prog Try.f32 [I W, .sl (rs.map stepV), .sl (ps.map plV)] (profR W rs ps) := by
  have hs : (rs.map stepV).length = rs.length := by simp
  have hs' : (ps.map plV).length = ps.length := by simp
  unfold profR profP
  by_cases hW : 1 ≤ W ∧ W ≤ 2000
  · rw [if_pos hW]
    have hWW : ((W.toNat : Nat) : Int) = W := by omega
    by_cases hlen : rs.length = ps.length ∧ rs.length ≤ 500
    · repeat' ((conv => whnf); first
        | refine br_dec (fun hd => ?_) (fun hd => absurd (by assumption) hd)
        | (exfalso; omega)
        | refine call_i (in_spec _ _ _) false (by (repeat' (first | exact trivial | refine And.intro ?_ ?_ | with_reducible rfl | exact (fun h => by cases h) | exact rfl)); done) rfl ?_
        | refine seq_go ?_
        | refine draw_i (by kernel_rfl) ?_
        | refine arith_in (by omega) ?_
        | refine need_i (p := (T.row _).eq = true) (by kernel_rfl) ?_
        | refine need_i (by omega) ?_
        | refine br_not ?_
        | refine br_dec (fun hd => ?_) (fun hd => ?_)
        | refine br_lt (fun hlt => ?_) (fun hlt => ?_)
        | refine br_le (fun hle => ?_) (fun hle => ?_)
        | refine br_eq (fun heq => ?_) (fun heq => ?_)
        | refine idx_map (by omega) (fun x hx => ?_)
        | refine live_i rfl (fun h => by cases h) ?_
        | refine ret_i ?_)
      refine loop_i (A := Nat) (fun j => mkSt [(0, I W), (1, .sl (rs.map stepV)), (2, .sl (ps.map plV)), (6, .box 6 0), (30, .sl (rs.map stepV)), (31, I rs.length), (32, I j)] [(6, [I 0, .lit (.slice none 0 0)])] [])
        (fun j => j ≤ rs.length ∧ AllSized rs j) (fun j => rs.length - j) 0 ?_ ⟨by omega, fun j r hj _ => by omega⟩ (fun j hj' => ?_)
      · refine le_mk ?_ ?_ ?_
        all_goals repeat' (first | exact trivial | refine And.intro ?_ ?_ | with_reducible rfl | exact Nat.le_refl _ | omega | exact rfl)
      · obtain ⟨hj1, hj2⟩ := hj'
        rcases Nat.lt_or_ge j rs.length with hkl | hkl
        · obtain ⟨s, hsj⟩ : ∃ s, rs[j]? = some s := ⟨rs[j], by simp⟩
          have hsj' : rs[(j : Int).toNat]? = some s := by rw [show (j : Int).toNat = j by omega]; exact hsj
          by_cases hz : SizedP s.1 s.2
          · repeat' ((conv => whnf); first
              | refine br_dec (fun hd => ?_) (fun hd => absurd hz hd)
              | (exfalso; omega)
              | refine idx_at hsj' ?_
              | (refine call_i (sized_spec s.1 s.2) false ?_ rfl ?_; focus ((repeat' (first | exact trivial | refine And.intro ?_ ?_ | with_reducible rfl | exact (fun h => by cases h) | exact rfl)); done))
              | refine seq_go ?_
              | refine draw_i (by kernel_rfl) ?_
              | refine arith_in (by omega) ?_
              | refine need_i (p := (T.row _).eq = true) (by kernel_rfl) ?_
              | refine need_i (by omega) ?_
              | refine br_not ?_
              | refine br_dec (fun hd => ?_) (fun hd => ?_)
              | refine br_lt (fun hlt => ?_) (fun hlt => ?_)
              | refine br_le (fun hle => ?_) (fun hle => ?_)
              | refine br_eq (fun heq => ?_) (fun heq => ?_)
              | refine idx_map (by omega) (fun x hx => ?_)
              | refine live_i rfl (fun h => by cases h) ?_
              | refine ret_i ?_)
            refine ⟨j + 1, ?_, ⟨by omega, fun i r hi hr => ?_⟩, by omega⟩
            · refine le_mk ?_ ?_ ?_
              all_goals repeat' (first | exact trivial | refine And.intro ?_ ?_ | with_reducible rfl | exact Nat.le_refl _ | omega | exact rfl)
            · rcases Nat.lt_or_ge i j with hij | hij
              · exact hj2 i r hij hr
              · have : i = j := by omega
                subst this
                rw [hsj] at hr; cases hr; exact hz
          · rw [if_neg (fun hh => hz (hh.2.2 j s hkl hsj))]
            repeat' ((conv => whnf); first
              | refine br_dec (fun hd => absurd hd hz) (fun hd => ?_)
              | (exfalso; omega)
              | refine idx_at hsj' ?_
              | (refine call_i (sized_spec s.1 s.2) false ?_ rfl ?_; focus ((repeat' (first | exact trivial | refine And.intro ?_ ?_ | with_reducible rfl | exact (fun h => by cases h) | exact rfl)); done))
              | refine seq_go ?_
              | refine draw_i (by kernel_rfl) ?_
              | refine arith_in (by omega) ?_
              | refine need_i (p := (T.row _).eq = true) (by kernel_rfl) ?_
              | refine need_i (by omega) ?_
              | refine br_not ?_
              | refine br_dec (fun hd => ?_) (fun hd => ?_)
              | refine br_lt (fun hlt => ?_) (fun hlt => ?_)
              | refine br_le (fun hle => ?_) (fun hle => ?_)
              | refine br_eq (fun heq => ?_) (fun heq => ?_)
              | refine idx_map (by omega) (fun x hx => ?_)
              | refine live_i rfl (fun h => by cases h) ?_
              | refine ret_i ?_)
            conv => whnf
            exact ⟨_, rfl, ⟨⟨rfl, rfl, trivial⟩, rfl, trivial⟩, rfl⟩
        · have hje : j = rs.length := by omega
          subst hje
          rw [if_pos ⟨hlen.1, hlen.2, hj2⟩]
          have hsz := hj2
          repeat' ((conv => whnf); first
            | (exfalso; omega)
            | refine need_make (by omega) rfl (by omega) (of_decide_eq_true rfl) ?_
            | refine seq_go ?_
            | refine draw_i (by kernel_rfl) ?_
            | refine arith_in (by omega) ?_
            | refine need_i (p := (T.row _).eq = true) (by kernel_rfl) ?_
            | refine need_i (by omega) ?_
            | refine br_not ?_
            | refine br_dec (fun hd => ?_) (fun hd => ?_)
            | refine br_lt (fun hlt => ?_) (fun hlt => ?_)
            | refine br_le (fun hle => ?_) (fun hle => ?_)
            | refine br_eq (fun heq => ?_) (fun heq => ?_)
            | refine idx_map (by omega) (fun x hx => ?_)
            | refine live_i rfl (fun h => by cases h) ?_
            | refine ret_i ?_)
          refine loop_i (A := Nat) (fun j => mkSt [(0, I W), (2, .sl (ps.map plV)), (6, .box 6 0), (10, .arr 42 0), (43, .sl (rs.map stepV)), (44, I rs.length), (45, I j)] [(6, [I 0, .lit (.slice none 0 0)])] [(42, ⟨0, .own, 3, hv (profH rs ps j) W.toNat⟩)])
            (fun j => j ≤ rs.length ∧ AllIn W rs ps j) (fun j => rs.length - j) 0 ?_ ⟨by omega, fun j r p hj _ _ => by omega⟩ (fun j hj' => ?_)
          · refine le_mk ?_ ?_ ?_
            all_goals repeat' (first | exact trivial | refine And.intro ?_ ?_ | with_reducible rfl | exact Nat.le_refl _ | omega | exact rfl)
            show List.replicate W.toNat (I 0) = hv (profH rs ps 0) W.toNat
            rw [hv_zero]; rfl
          · obtain ⟨hj1, hj2⟩ := hj'
            rcases Nat.lt_or_ge j rs.length with hkl | hkl
            · obtain ⟨s, hsj⟩ : ∃ s, rs[j]? = some s := ⟨rs[j], by simp⟩
              have hsj' : rs[(j : Int).toNat]? = some s := by rw [show (j : Int).toNat = j by omega]; exact hsj
              obtain ⟨p, hpj⟩ : ∃ p, ps[j]? = some p := ⟨ps[j], by simp⟩
              have hpj' : ps[(j : Int).toNat]? = some p := by rw [show (j : Int).toNat = j by omega]; exact hpj
              obtain ⟨⟨hz1, hz2⟩, hz3, hz4⟩ := hsz j s hkl hsj
              by_cases hin : insideP W s p
              · obtain ⟨hi1, hi2, hi3, hi4⟩ := id hin
                have hnx := profH_step hsj hpj
                repeat' ((conv => whnf); first
                  | (exfalso; omega)
                  | refine idx_at hsj' ?_
                  | refine idx_at hpj' ?_
                  | refine seq_go ?_
                  | refine draw_i (by kernel_rfl) ?_
                  | refine arith_in (by omega) ?_
                  | refine need_i (p := (T.row _).eq = true) (by kernel_rfl) ?_
                  | refine need_i (by omega) ?_
                  | refine br_not ?_
                  | refine br_dec (fun hd => ?_) (fun hd => ?_)
                  | refine br_lt (fun hlt => ?_) (fun hlt => ?_)
                  | refine br_le (fun hle => ?_) (fun hle => ?_)
                  | refine br_eq (fun heq => ?_) (fun heq => ?_)
                  | refine idx_map (by omega) (fun x hx => ?_)
                  | refine live_i rfl (fun h => by cases h) ?_
                  | refine ret_i ?_)
                refine loop_i (A := Nat) (fun k => mkSt [(0, I W), (2, .sl (ps.map plV)), (6, .box 6 0), (10, .arr 42 0), (12, .box 12 0), (13, .box 13 0), (14, I (p.1 + k)), (43, .sl (rs.map stepV)), (44, I rs.length), (45, I j)] [(6, [I 0, .lit (.slice none 0 0)]), (12, [I s.1, I s.2]), (13, [I p.1, I p.2.1, I p.2.2])] [(42, ⟨0, .own, 3, hv (raiseF (profH rs ps j) ((k : Int), s.2) p) W.toNat⟩)])
                  (fun k => (k : Int) ≤ s.1) (fun k => s.1.toNat - k) 0 ?_ (by show ((0 : Nat) : Int) ≤ s.1; omega) (fun k hk' => ?_)
                · refine le_mk ?_ ?_ ?_
                  all_goals repeat' (first | exact trivial | refine And.intro ?_ ?_ | with_reducible rfl | exact Nat.le_refl _ | omega | exact rfl)
                  refine hv_congr (fun z h0 h1 => ?_)
                  unfold raiseF; rw [if_neg (by simp only; omega)]
                · change (k : Int) ≤ s.1 at hk'
                  rcases Int.lt_or_le (k : Int) s.1 with hkk | hkk
                  · repeat' ((conv => whnf); first
                      | (exfalso; omega)
                      | (refine need_hv rfl (fun h => by cases h) rfl ?_ ?_; omega)
                      | refine own_i rfl rfl ?_
                      | (refine idx_hv ?_ ?_; omega)
                      | refine seq_go ?_
                      | refine draw_i (by kernel_rfl) ?_
                      | refine arith_in (by omega) ?_
                      | refine need_i (p := (T.row _).eq = true) (by kernel_rfl) ?_
                      | refine need_i (by omega) ?_
                      | refine br_not ?_
                      | refine br_dec (fun hd => ?_) (fun hd => ?_)
                      | refine br_lt (fun hlt => ?_) (fun hlt => ?_)
                      | refine br_le (fun hle => ?_) (fun hle => ?_)
                      | refine br_eq (fun heq => ?_) (fun heq => ?_)
                      | refine idx_map (by omega) (fun x hx => ?_)
                      | refine live_i rfl (fun h => by cases h) ?_
                      | refine ret_i ?_)
                    refine ⟨k + 1, ?_, (by show ((k + 1 : Nat) : Int) ≤ s.1; omega), by omega⟩
                    refine le_mk ?_ ?_ ?_
                    all_goals repeat' (first | exact trivial | refine And.intro ?_ ?_ | with_reducible rfl | exact Nat.le_refl _ | omega | exact rfl)
                    · refine (hv_set _ _ (by omega) _).trans (hv_congr (fun z h0 h1 => ?_))
                      unfold raiseF
                      simp only
                      by_cases h3 : p.1 ≤ z ∧ z < p.1 + ((k + 1 : Nat) : Int)
                      · rw [if_pos h3]
                        by_cases h4 : z = p.1 + k
                        · rw [if_pos h4, h4, if_neg (by omega)]; exact maxI_eq _ _
                        · rw [if_neg h4, if_pos (by omega)]
                      · rw [if_neg h3, if_neg (by omega), if_neg (by omega)]
                  · have hke : (k : Int) = s.1 := by omega
                    rw [hke]
                    repeat' ((conv => whnf); first
                      | (exfalso; omega)
                      | refine seq_go ?_
                      | refine draw_i (by kernel_rfl) ?_
                      | refine arith_in (by omega) ?_
                      | refine need_i (p := (T.row _).eq = true) (by kernel_rfl) ?_
                      | refine need_i (by omega) ?_
                      | refine br_not ?_
                      | refine br_dec (fun hd => ?_) (fun hd => ?_)
                      | refine br_lt (fun hlt => ?_) (fun hlt => ?_)
                      | refine br_le (fun hle => ?_) (fun hle => ?_)
                      | refine br_eq (fun heq => ?_) (fun heq => ?_)
                      | refine idx_map (by omega) (fun x hx => ?_)
                      | refine live_i rfl (fun h => by cases h) ?_
                      | refine ret_i ?_)
                    refine ⟨j + 1, ?_, ⟨by omega, fun i r q hi hr hq => ?_⟩, by omega⟩
                    · rw [hnx]
                      refine le_mk ?_ ?_ ?_
                      all_goals repeat' (first | exact trivial | refine And.intro ?_ ?_ | with_reducible rfl | exact Nat.le_refl _ | omega | exact rfl)
                    · rcases Nat.lt_or_ge i j with hij | hij
                      · exact hj2 i r q hij hr hq
                      · have : i = j := by omega
                        subst this
                        rw [hsj] at hr; cases hr
                        rw [hpj] at hq; cases hq
                        exact hin
              · rw [if_neg (fun hh => hin (hh j s p hkl hsj hpj))]
                repeat' ((conv => whnf); first
                  | (exfalso; omega)
                  | refine idx_at hsj' ?_
                  | refine idx_at hpj' ?_
                  | exact absurd (⟨by omega, by omega, by omega, by omega⟩ : insideP W s p) hin
                  | refine seq_go ?_
                  | refine draw_i (by kernel_rfl) ?_
                  | refine arith_in (by omega) ?_
                  | refine need_i (p := (T.row _).eq = true) (by kernel_rfl) ?_
                  | refine need_i (by omega) ?_
                  | refine br_not ?_
                  | refine br_dec (fun hd => ?_) (fun hd => ?_)
                  | refine br_lt (fun hlt => ?_) (fun hlt => ?_)
                  | refine br_le (fun hle => ?_) (fun hle => ?_)
                  | refine br_eq (fun heq => ?_) (fun heq => ?_)
                  | refine idx_map (by omega) (fun x hx => ?_)
                  | refine live_i rfl (fun h => by cases h) ?_
                  | refine ret_i ?_)
                all_goals
                  conv => whnf
                  exact ⟨_, rfl, ⟨⟨rfl, rfl, trivial⟩, rfl, trivial⟩, rfl⟩
            · have hje : j = rs.length := by omega
              subst hje
              rw [if_pos hj2]
              repeat' ((conv => whnf); first
                | (exfalso; omega)
                | (refine call_i (merged_spec (profH rs ps rs.length) (n := W.toNat) (by omega)) false ?_ rfl ?_; focus ((repeat' (first | exact trivial | refine And.intro ?_ ?_ | with_reducible rfl | exact (fun h => by cases h) | exact rfl)); done))
                | refine seq_go ?_
                | refine draw_i (by kernel_rfl) ?_
                | refine arith_in (by omega) ?_
                | refine need_i (p := (T.row _).eq = true) (by kernel_rfl) ?_
                | refine need_i (by omega) ?_
                | refine br_not ?_
                | refine br_dec (fun hd => ?_) (fun hd => ?_)
                | refine br_lt (fun hlt => ?_) (fun hlt => ?_)
                | refine br_le (fun hle => ?_) (fun hle => ?_)
                | refine br_eq (fun heq => ?_) (fun heq => ?_)
                | refine idx_map (by omega) (fun x hx => ?_)
                | refine live_i rfl (fun h => by cases h) ?_
                | refine ret_i ?_)
              conv => whnf
              refine ⟨_, rfl, ⟨⟨int_eq hWW, rfl, trivial⟩, rfl, trivial⟩, rfl⟩
    · rw [if_neg (fun hh => hlen ⟨hh.1, hh.2.1⟩)]
      repeat' ((conv => whnf); first
        | refine br_dec (fun hd => ?_) (fun hd => absurd (by assumption) hd)
        | (exfalso; omega)
        | refine call_i (in_spec _ _ _) false (by (repeat' (first | exact trivial | refine And.intro ?_ ?_ | with_reducible rfl | exact (fun h => by cases h) | exact rfl)); done) rfl ?_
        | refine seq_go ?_
        | refine draw_i (by kernel_rfl) ?_
        | refine arith_in (by omega) ?_
        | refine need_i (p := (T.row _).eq = true) (by kernel_rfl) ?_
        | refine need_i (by omega) ?_
        | refine br_not ?_
        | refine br_dec (fun hd => ?_) (fun hd => ?_)
        | refine br_lt (fun hlt => ?_) (fun hlt => ?_)
        | refine br_le (fun hle => ?_) (fun hle => ?_)
        | refine br_eq (fun heq => ?_) (fun heq => ?_)
        | refine idx_map (by omega) (fun x hx => ?_)
        | refine live_i rfl (fun h => by cases h) ?_
        | refine ret_i ?_)
      all_goals
        conv => whnf
        exact ⟨_, rfl, ⟨⟨rfl, rfl, trivial⟩, rfl, trivial⟩, rfl⟩
  · rw [if_neg hW]
    repeat' ((conv => whnf); first
      | refine br_dec (fun hd => absurd hd hW) (fun hd => ?_)
      | refine call_i (in_spec _ _ _) false (by (repeat' (first | exact trivial | refine And.intro ?_ ?_ | with_reducible rfl | exact (fun h => by cases h) | exact rfl)); done) rfl ?_
      | refine seq_go ?_
      | refine draw_i (by kernel_rfl) ?_
      | refine arith_in (by omega) ?_
      | refine need_i (p := (T.row _).eq = true) (by kernel_rfl) ?_
      | refine need_i (by omega) ?_
      | refine br_not ?_
      | refine br_dec (fun hd => ?_) (fun hd => ?_)
      | refine br_lt (fun hlt => ?_) (fun hlt => ?_)
      | refine br_le (fun hle => ?_) (fun hle => ?_)
      | refine br_eq (fun heq => ?_) (fun heq => ?_)
      | refine idx_map (by omega) (fun x hx => ?_)
      | refine live_i rfl (fun h => by cases h) ?_
      | refine ret_i ?_)
    conv => whnf
    exact ⟨_, rfl, ⟨⟨rfl, rfl, trivial⟩, rfl, trivial⟩, rfl⟩
theorem Profile_spec {W : Int} {rs : List (Int × Int)} {ps : List (Int × Int × Int)} : Sp 32 [I W, .sl (rs.map stepV), .sl (ps.map plV)] (profR W rs ps) := sp_of Try.func32 (by kernel_rfl) (by kernel_rfl) Profile_vc
end Go.Proofs.Env41
