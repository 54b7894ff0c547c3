/-
  The functions of the envelopes, walked: profiles by columns.
-/
import Derived.Test.YtbmbfifobonfjaaW14
set_option linter.unusedVariables false
set_option linter.unusedSimpArgs false
namespace Go.Proofs.Env41
open Go Go.Proofs Go.Ab
set_option maxRecDepth 100000

theorem rProfile_vc {W : Int} {rs : List (Int × Int)} {ps : List (Int × Int × Int)} : fnVC T Try.prog Try.f33 [I W, .sl (rs.map stepV), .sl (ps.map plV)] (profR W rs ps) := by
  have hs : (rs.map stepV).length = rs.length := by simp
  have hs' : (ps.map plV).length = ps.length := by simp
  unfold profR profP
  by_cases hW : 1 ≤ W ∧ W ≤ 2000
  · rw [if_pos hW]
    have hWW : ((W.toNat : Nat) : Int) = W := by omega
    have hnew : Sp 35 [I W] (.tup [envV W [(0, 0)], I 0]) := by
      have := rNew_spec W
      unfold newR newP at this
      rw [if_pos hW] at this
      exact this
    have hcols : Sp 41 [envV W [(0, 0)]] (.own 3 (hv (profH rs ps 0) W.toNat)) := by
      have := columns_spec (new_val hW) (by decide)
      rw [hv_congr (G := profH rs ps 0) (fun z h0 h1 => by simp [colF, colG, profH])] at this
      exact this
    by_cases hlen : rs.length = ps.length ∧ rs.length ≤ 500
    · repeat' ((conv => whnf); first
        | (exfalso; omega)
        | (refine call_i (hnew) false ?_ rfl ?_; focus ((repeat' (first | exact trivial | refine And.intro ?_ ?_ | with_reducible rfl | exact (fun h => by cases h) | exact rfl)); done))
        | refine seq_go ?_
        | refine draw_i (by kernel_rfl) ?_
        | refine arith_in (by omega) ?_
        | refine need_i (p := (T.row _).eq = true) (by kernel_rfl) ?_
        | refine need_i (by omega) ?_
        | refine br_not ?_
        | refine br_dec (fun hd => ?_) (fun hd => ?_)
        | refine br_lt (fun hlt => ?_) (fun hlt => ?_)
        | refine br_le (fun hle => ?_) (fun hle => ?_)
        | refine br_eq (fun heq => ?_) (fun heq => ?_)
        | refine idx_map (by omega) (fun x hx => ?_)
        | refine live_i rfl (fun h => by cases h) ?_
        | refine ret_i ?_)
      refine loop_i (A := Nat) (fun j => mkSt [(0, I W), (1, .sl (rs.map stepV)), (2, .sl (ps.map plV)), (6, .box 6 0), (8, .box 8 0), (10, I j)] [(6, [I 0, .lit (.slice none 0 0)]), (8, [I W, .sl (List.map stepV [(0, 0)])])] [])
        (fun j => j ≤ rs.length ∧ AllSized rs j) (fun j => rs.length - j) 0 ?_ ⟨by omega, fun j r hj _ => by omega⟩ (fun j hj' => ?_)
      · refine le_mk ?_ ?_ ?_
        all_goals repeat' (first | exact trivial | refine And.intro ?_ ?_ | with_reducible rfl | exact Nat.le_refl _ | omega | exact rfl)
      · obtain ⟨hj1, hj2⟩ := hj'
        rcases Nat.lt_or_ge j rs.length with hkl | hkl
        · obtain ⟨s, hsj⟩ : ∃ s, rs[j]? = some s := ⟨rs[j], by simp⟩
          have hsj' : rs[(j : Int).toNat]? = some s := by rw [show (j : Int).toNat = j by omega]; exact hsj
          by_cases hz : SizedP s.1 s.2
          · repeat' ((conv => whnf); first
              | refine br_dec (fun hd => ?_) (fun hd => absurd hz hd)
              | (exfalso; omega)
              | refine idx_at hsj' ?_
              | (refine call_i (rsized_spec s.1 s.2) false ?_ rfl ?_; focus ((repeat' (first | exact trivial | refine And.intro ?_ ?_ | with_reducible rfl | exact (fun h => by cases h) | exact rfl)); done))
              | refine seq_go ?_
              | refine draw_i (by kernel_rfl) ?_
              | refine arith_in (by omega) ?_
              | refine need_i (p := (T.row _).eq = true) (by kernel_rfl) ?_
              | refine need_i (by omega) ?_
              | refine br_not ?_
              | refine br_dec (fun hd => ?_) (fun hd => ?_)
              | refine br_lt (fun hlt => ?_) (fun hlt => ?_)
              | refine br_le (fun hle => ?_) (fun hle => ?_)
              | refine br_eq (fun heq => ?_) (fun heq => ?_)
              | refine idx_map (by omega) (fun x hx => ?_)
              | refine live_i rfl (fun h => by cases h) ?_
              | refine ret_i ?_)
            refine ⟨j + 1, ?_, ⟨by omega, fun i r hi hr => ?_⟩, by omega⟩
            · refine le_mk ?_ ?_ ?_
              all_goals repeat' (first | exact trivial | refine And.intro ?_ ?_ | with_reducible rfl | exact Nat.le_refl _ | omega | exact rfl)
            · rcases Nat.lt_or_ge i j with hij | hij
              · exact hj2 i r hij hr
              · have : i = j := by omega
                subst this
                rw [hsj] at hr; cases hr; exact hz
          · rw [if_neg (fun hh => hz (hh.2.2 j s hkl hsj))]
            repeat' ((conv => whnf); first
              | refine br_dec (fun hd => absurd hd hz) (fun hd => ?_)
              | (exfalso; omega)
              | refine idx_at hsj' ?_
              | (refine call_i (rsized_spec s.1 s.2) false ?_ rfl ?_; focus ((repeat' (first | exact trivial | refine And.intro ?_ ?_ | with_reducible rfl | exact (fun h => by cases h) | exact rfl)); done))
              | refine seq_go ?_
              | refine draw_i (by kernel_rfl) ?_
              | refine arith_in (by omega) ?_
              | refine need_i (p := (T.row _).eq = true) (by kernel_rfl) ?_
              | refine need_i (by omega) ?_
              | refine br_not ?_
              | refine br_dec (fun hd => ?_) (fun hd => ?_)
              | refine br_lt (fun hlt => ?_) (fun hlt => ?_)
              | refine br_le (fun hle => ?_) (fun hle => ?_)
              | refine br_eq (fun heq => ?_) (fun heq => ?_)
              | refine idx_map (by omega) (fun x hx => ?_)
              | refine live_i rfl (fun h => by cases h) ?_
              | refine ret_i ?_)
            conv => whnf
            exact ⟨_, rfl, ⟨⟨rfl, rfl, trivial⟩, rfl, trivial⟩, rfl⟩
        · have hje : j = rs.length := by omega
          subst hje
          rw [if_pos ⟨hlen.1, hlen.2, hj2⟩]
          have hsz := hj2
          repeat' ((conv => whnf); first
            | (exfalso; omega)
            | (refine call_i (hcols) false ?_ rfl ?_; focus ((repeat' (first | exact trivial | refine And.intro ?_ ?_ | with_reducible rfl | exact (fun h => by cases h) | exact rfl)); done))
            | refine seq_go ?_
            | refine draw_i (by kernel_rfl) ?_
            | refine arith_in (by omega) ?_
            | refine need_i (p := (T.row _).eq = true) (by kernel_rfl) ?_
            | refine need_i (by omega) ?_
            | refine br_not ?_
            | refine br_dec (fun hd => ?_) (fun hd => ?_)
            | refine br_lt (fun hlt => ?_) (fun hlt => ?_)
            | refine br_le (fun hle => ?_) (fun hle => ?_)
            | refine br_eq (fun heq => ?_) (fun heq => ?_)
            | refine idx_map (by omega) (fun x hx => ?_)
            | refine live_i rfl (fun h => by cases h) ?_
            | refine ret_i ?_)
          refine loop_i (A := Nat) (fun j => mkSt [(0, I W), (1, .sl (rs.map stepV)), (2, .sl (ps.map plV)), (6, .box 6 0), (11, .arr 49 0), (12, I j)] [(6, [I 0, .lit (.slice none 0 0)])] [(49, ⟨0, .own, 3, hv (profH rs ps j) W.toNat⟩)])
            (fun j => j ≤ rs.length ∧ AllIn W rs ps j) (fun j => rs.length - j) 0 ?_ ⟨by omega, fun j r p hj _ _ => by omega⟩ (fun j hj' => ?_)
          · refine le_mk ?_ ?_ ?_
            all_goals repeat' (first | exact trivial | refine And.intro ?_ ?_ | with_reducible rfl | exact Nat.le_refl _ | omega | exact rfl)
          · obtain ⟨hj1, hj2⟩ := hj'
            rcases Nat.lt_or_ge j rs.length with hkl | hkl
            · obtain ⟨s, hsj⟩ : ∃ s, rs[j]? = some s := ⟨rs[j], by simp⟩
              have hsj' : rs[(j : Int).toNat]? = some s := by rw [show (j : Int).toNat = j by omega]; exact hsj
              obtain ⟨p, hpj⟩ : ∃ p, ps[j]? = some p := ⟨ps[j], by simp⟩
              have hpj' : ps[(j : Int).toNat]? = some p := by rw [show (j : Int).toNat = j by omega]; exact hpj
              obtain ⟨⟨hz1, hz2⟩, hz3, hz4⟩ := hsz j s hkl hsj
              by_cases hin : insideP W s p
              · obtain ⟨hi1, hi2, hi3, hi4⟩ := id hin
                have hnx := profH_step hsj hpj
                repeat' ((conv => whnf); first
                  | (exfalso; omega)
                  | refine idx_at hsj' ?_
                  | refine idx_at hpj' ?_
                  | refine seq_go ?_
                  | refine draw_i (by kernel_rfl) ?_
                  | refine arith_in (by omega) ?_
                  | refine need_i (p := (T.row _).eq = true) (by kernel_rfl) ?_
                  | refine need_i (by omega) ?_
                  | refine br_not ?_
                  | refine br_dec (fun hd => ?_) (fun hd => ?_)
                  | refine br_lt (fun hlt => ?_) (fun hlt => ?_)
                  | refine br_le (fun hle => ?_) (fun hle => ?_)
                  | refine br_eq (fun heq => ?_) (fun heq => ?_)
                  | refine idx_map (by omega) (fun x hx => ?_)
                  | refine live_i rfl (fun h => by cases h) ?_
                  | refine ret_i ?_)
                refine loop_i (A := Nat) (fun k => mkSt [(0, I W), (1, .sl (rs.map stepV)), (2, .sl (ps.map plV)), (6, .box 6 0), (11, .arr 49 0), (12, I j), (13, .box 13 0), (14, I (p.1 + k))] [(6, [I 0, .lit (.slice none 0 0)]), (13, [I p.1, I p.2.1, I p.2.2])] [(49, ⟨0, .own, 3, hv (raiseF (profH rs ps j) ((k : Int), s.2) p) W.toNat⟩)])
                  (fun k => (k : Int) ≤ s.1) (fun k => s.1.toNat - k) 0 ?_ (by show ((0 : Nat) : Int) ≤ s.1; omega) (fun k hk' => ?_)
                · refine le_mk ?_ ?_ ?_
                  all_goals repeat' (first | exact trivial | refine And.intro ?_ ?_ | with_reducible rfl | exact Nat.le_refl _ | omega | exact rfl)
                  refine hv_congr (fun z h0 h1 => ?_)
                  unfold raiseF; rw [if_neg (by simp only; omega)]
                · change (k : Int) ≤ s.1 at hk'
                  rcases Int.lt_or_le (k : Int) s.1 with hkk | hkk
                  · repeat' ((conv => whnf); first
                      | (exfalso; omega)
                      | refine idx_at hsj' ?_
                      | (refine need_hv rfl (fun h => by cases h) rfl ?_ ?_; omega)
                      | refine own_i rfl rfl ?_
                      | (refine idx_hv ?_ ?_; omega)
                      | refine seq_go ?_
                      | refine draw_i (by kernel_rfl) ?_
                      | refine arith_in (by omega) ?_
                      | refine need_i (p := (T.row _).eq = true) (by kernel_rfl) ?_
                      | refine need_i (by omega) ?_
                      | refine br_not ?_
                      | refine br_dec (fun hd => ?_) (fun hd => ?_)
                      | refine br_lt (fun hlt => ?_) (fun hlt => ?_)
                      | refine br_le (fun hle => ?_) (fun hle => ?_)
                      | refine br_eq (fun heq => ?_) (fun heq => ?_)
                      | refine idx_map (by omega) (fun x hx => ?_)
                      | refine live_i rfl (fun h => by cases h) ?_
                      | refine ret_i ?_)
                    refine ⟨k + 1, ?_, (by show ((k + 1 : Nat) : Int) ≤ s.1; omega), by omega⟩
                    refine le_mk ?_ ?_ ?_
                    all_goals repeat' (first | exact trivial | refine And.intro ?_ ?_ | with_reducible rfl | exact Nat.le_refl _ | omega | exact rfl)
                    · refine (hv_set _ _ (by omega) _).trans (hv_congr (fun z h0 h1 => ?_))
                      unfold raiseF
                      simp only
                      by_cases h3 : p.1 ≤ z ∧ z < p.1 + ((k + 1 : Nat) : Int)
                      · rw [if_pos h3]
                        by_cases h4 : z = p.1 + k
                        · rw [if_pos h4, h4, if_neg (by omega)]; exact maxI_eq _ _
                        · rw [if_neg h4, if_pos (by omega)]
                      · rw [if_neg h3, if_neg (by omega), if_neg (by omega)]
                  · have hke : (k : Int) = s.1 := by omega
                    rw [hke]
                    repeat' ((conv => whnf); first
                      | (exfalso; omega)
                      | refine idx_at hsj' ?_
                      | refine seq_go ?_
                      | refine draw_i (by kernel_rfl) ?_
                      | refine arith_in (by omega) ?_
                      | refine need_i (p := (T.row _).eq = true) (by kernel_rfl) ?_
                      | refine need_i (by omega) ?_
                      | refine br_not ?_
                      | refine br_dec (fun hd => ?_) (fun hd => ?_)
                      | refine br_lt (fun hlt => ?_) (fun hlt => ?_)
                      | refine br_le (fun hle => ?_) (fun hle => ?_)
                      | refine br_eq (fun heq => ?_) (fun heq => ?_)
                      | refine idx_map (by omega) (fun x hx => ?_)
                      | refine live_i rfl (fun h => by cases h) ?_
                      | refine ret_i ?_)
                    refine ⟨j + 1, ?_, ⟨by omega, fun i r q hi hr hq => ?_⟩, by omega⟩
                    · rw [hnx]
                      refine le_mk ?_ ?_ ?_
                      all_goals repeat' (first | exact trivial | refine And.intro ?_ ?_ | with_reducible rfl | exact Nat.le_refl _ | omega | exact rfl)
                    · rcases Nat.lt_or_ge i j with hij | hij
                      · exact hj2 i r q hij hr hq
                      · have : i = j := by omega
                        subst this
                        rw [hsj] at hr; cases hr
                        rw [hpj] at hq; cases hq
                        exact hin
              · rw [if_neg (fun hh => hin (hh j s p hkl hsj hpj))]
                repeat' ((conv => whnf); first
                  | (exfalso; omega)
                  | refine idx_at hsj' ?_
                  | refine idx_at hpj' ?_
                  | exact absurd (⟨by omega, by omega, by omega, by omega⟩ : insideP W s p) hin
                  | refine seq_go ?_
                  | refine draw_i (by kernel_rfl) ?_
                  | refine arith_in (by omega) ?_
                  | refine need_i (p := (T.row _).eq = true) (by kernel_rfl) ?_
                  | refine need_i (by omega) ?_
                  | refine br_not ?_
                  | refine br_dec (fun hd => ?_) (fun hd => ?_)
                  | refine br_lt (fun hlt => ?_) (fun hlt => ?_)
                  | refine br_le (fun hle => ?_) (fun hle => ?_)
                  | refine br_eq (fun heq => ?_) (fun heq => ?_)
                  | refine idx_map (by omega) (fun x hx => ?_)
                  | refine live_i rfl (fun h => by cases h) ?_
                  | refine ret_i ?_)
                all_goals
                  conv => whnf
                  exact ⟨_, rfl, ⟨⟨rfl, rfl, trivial⟩, rfl, trivial⟩, rfl⟩
            · have hje : j = rs.length := by omega
              subst hje
              rw [if_pos hj2]
              repeat' ((conv => whnf); first
                | (exfalso; omega)
                | (refine call_i (of_spec (profH rs ps rs.length) (n := W.toNat) (by omega)) false ?_ rfl ?_; focus ((repeat' (first | exact trivial | refine And.intro ?_ ?_ | with_reducible rfl | exact (fun h => by cases h) | exact rfl)); done))
                | refine seq_go ?_
                | refine draw_i (by kernel_rfl) ?_
                | refine arith_in (by omega) ?_
                | refine need_i (p := (T.row _).eq = true) (by kernel_rfl) ?_
                | refine need_i (by omega) ?_
                | refine br_not ?_
                | refine br_dec (fun hd => ?_) (fun hd => ?_)
                | refine br_lt (fun hlt => ?_) (fun hlt => ?_)
                | refine br_le (fun hle => ?_) (fun hle => ?_)
                | refine br_eq (fun heq => ?_) (fun heq => ?_)
                | refine idx_map (by omega) (fun x hx => ?_)
                | refine live_i rfl (fun h => by cases h) ?_
                | refine ret_i ?_)
              conv => whnf
              refine ⟨_, rfl, ⟨⟨int_eq hWW, rfl, trivial⟩, rfl, trivial⟩, rfl⟩
    · rw [if_neg (fun hh => hlen ⟨hh.1, hh.2.1⟩)]
      repeat' ((conv => whnf); first
        | (exfalso; omega)
        | (refine call_i (hnew) false ?_ rfl ?_; focus ((repeat' (first | exact trivial | refine And.intro ?_ ?_ | with_reducible rfl | exact (fun h => by cases h) | exact rfl)); done))
        | refine seq_go ?_
        | refine draw_i (by kernel_rfl) ?_
        | refine arith_in (by omega) ?_
        | refine need_i (p := (T.row _).eq = true) (by kernel_rfl) ?_
        | refine need_i (by omega) ?_
        | refine br_not ?_
        | refine br_dec (fun hd => ?_) (fun hd => ?_)
        | refine br_lt (fun hlt => ?_) (fun hlt => ?_)
        | refine br_le (fun hle => ?_) (fun hle => ?_)
        | refine br_eq (fun heq => ?_) (fun heq => ?_)
        | refine idx_map (by omega) (fun x hx => ?_)
        | refine live_i rfl (fun h => by cases h) ?_
        | refine ret_i ?_)
      all_goals
        conv => whnf
        exact ⟨_, rfl, ⟨⟨rfl, rfl, trivial⟩, rfl, trivial⟩, rfl⟩
  · rw [if_neg hW]
    have hnew : Sp 35 [I W] (.tup [envV 0 [], I 2]) := by
      have := rNew_spec W
      unfold newR newP at this
      rw [if_neg hW] at this
      exact this
    repeat' ((conv => whnf); first
      | (exfalso; omega)
      | (refine call_i (hnew) false ?_ rfl ?_; focus ((repeat' (first | exact trivial | refine And.intro ?_ ?_ | with_reducible rfl | exact (fun h => by cases h) | exact rfl)); done))
      | refine seq_go ?_
      | refine draw_i (by kernel_rfl) ?_
      | refine arith_in (by omega) ?_
      | refine need_i (p := (T.row _).eq = true) (by kernel_rfl) ?_
      | refine need_i (by omega) ?_
      | refine br_not ?_
      | refine br_dec (fun hd => ?_) (fun hd => ?_)
      | refine br_lt (fun hlt => ?_) (fun hlt => ?_)
      | refine br_le (fun hle => ?_) (fun hle => ?_)
      | refine br_eq (fun heq => ?_) (fun heq => ?_)
      | refine idx_map (by omega) (fun x hx => ?_)
      | refine live_i rfl (fun h => by cases h) ?_
      | refine ret_i ?_)
    conv => whnf
    exact ⟨_, rfl, ⟨⟨rfl, rfl, trivial⟩, rfl, trivial⟩, rfl⟩
theorem rProfile_spec {W : Int} {rs : List (Int × Int)} {ps : List (Int × Int × Int)} : Sp 33 [I W, .sl (rs.map stepV), .sl (ps.map plV)] (profR W rs ps) := sp_of Try.func33 (by kernel_rfl) (by kernel_rfl) rProfile_vc

theorem prof_len (W : Int) (rs : List (Int × Int)) (ps : List (Int × Int × Int)) : (profP W rs ps).1.2.length ≤ 2000 := by
  unfold profP
  split
  · rename_i h
    split
    · split
      · have := ofP_len (profH rs ps rs.length) W.toNat
        show (ofP (profH rs ps rs.length) W.toNat).length ≤ 2000
        omega
      · simp
    · simp
  · simp
theorem packP_len {W : Int} {rs : List (Int × Int)} : (packP W rs).1.2.length ≤ 2000 ∧ (packP W rs).2.1.length ≤ rs.length := by
  unfold packP
  split
  · rename_i hW
    split
    · simp
    · split
      · simp
      · rename_i h
        exact ⟨(pack_val hW (Decidable.not_not.1 h)).len, pack_len W rs⟩
  · simp
theorem new_len (W : Int) : (newP W).1.2.length ≤ 2000 := by
  unfold newP
  split <;> simp

set_option maxHeartbeats 4000000 in
theorem law_pack {W : Int} {rs : List (Int × Int)} {ps : List (Int × Int × Int)} : fnVC T Try.prog Try.f7 [I W, .sl (rs.map stepV), .sl (ps.map plV)] (B true) := by
  have hs : (rs.map stepV).length = rs.length := by simp
  have hs' : (ps.map plV).length = ps.length := by simp
  by_cases hg : (200 < W ∧ W ≤ 2000) ∨ 40 < rs.length ∨ 40 < ps.length
  · repeat' ((conv => whnf); first
      | (exfalso; omega)
      | (refine call_i (awake_spec) false ?_ rfl ?_; focus ((repeat' (first | exact trivial | refine And.intro ?_ ?_ | with_reducible rfl | exact (fun h => by cases h) | exact rfl)); done))
      | refine seq_go ?_
      | refine draw_i (by kernel_rfl) ?_
      | refine arith_in (by omega) ?_
      | refine need_i (p := (T.row _).eq = true) (by kernel_rfl) ?_
      | refine need_i (by omega) ?_
      | refine br_not ?_
      | refine br_dec (fun hd => ?_) (fun hd => ?_)
      | refine br_lt (fun hlt => ?_) (fun hlt => ?_)
      | refine br_le (fun hle => ?_) (fun hle => ?_)
      | refine br_eq (fun heq => ?_) (fun heq => ?_)
      | refine idx_map (by omega) (fun x hx => ?_)
      | refine live_i rfl (fun h => by cases h) ?_
      | refine ret_i ?_)
    all_goals exact ret_bool rfl
  · have p1 := Pack_spec (W := W) (rs := rs) (by omega)
    have p2 := rPack_spec (W := W) (rs := rs) (by omega)
    have q1 := Profile_spec (W := W) (rs := rs) (ps := ps)
    have q2 := rProfile_spec (W := W) (rs := rs) (ps := ps)
    have n1 := New_spec W
    have n2 := rNew_spec W
    unfold packR at p1 p2
    unfold profR at q1 q2
    unfold newR at n1 n2
    obtain ⟨l1, l2⟩ := packP_len (W := W) (rs := rs)
    have l3 := prof_len W rs ps
    have l4 := new_len W
    generalize packP W rs = pk at p1 p2 l1 l2
    generalize profP W rs ps = pf at q1 q2 l3
    generalize newP W = nw at n1 n2 l4
    have hs2 : (pk.2.1.map plV).length = pk.2.1.length := by simp
    repeat' ((conv => whnf); first
      | refine br_dec (fun hd => ?_) (fun hd => absurd (by first | assumption | exact ⟨rfl, rfl⟩) hd)
      | (exfalso; omega)
      | (refine call_i (awake_spec) false ?_ rfl ?_; focus ((repeat' (first | exact trivial | refine And.intro ?_ ?_ | with_reducible rfl | exact (fun h => by cases h) | exact rfl)); done))
      | (refine call_i (rects_spec rs (by omega)) false ?_ rfl ?_; focus ((repeat' (first | exact trivial | refine And.intro ?_ ?_ | with_reducible rfl | exact (fun h => by cases h) | exact rfl)); done))
      | (refine call_i (p1) false ?_ rfl ?_; focus ((repeat' (first | exact trivial | refine And.intro ?_ ?_ | with_reducible rfl | exact (fun h => by cases h) | exact rfl)); done))
      | (refine call_i (p2) false ?_ rfl ?_; focus ((repeat' (first | exact trivial | refine And.intro ?_ ?_ | with_reducible rfl | exact (fun h => by cases h) | exact rfl)); done))
      | (refine call_i (theirs_spec pk.1.1 pk.1.2 (by omega)) false ?_ rfl ?_; focus ((repeat' (first | exact trivial | refine And.intro ?_ ?_ | with_reducible rfl | exact (fun h => by cases h) | exact rfl)); done))
      | (refine call_i (equal_spec pk.1.1 pk.1.1 pk.1.2 pk.1.2 (by omega)) false ?_ rfl ?_; focus ((repeat' (first | exact trivial | refine And.intro ?_ ?_ | with_reducible rfl | exact (fun h => by cases h) | exact rfl)); done))
      | refine seq_go ?_
      | refine draw_i (by kernel_rfl) ?_
      | refine arith_in (by omega) ?_
      | refine need_i (p := (T.row _).eq = true) (by kernel_rfl) ?_
      | refine need_i (by omega) ?_
      | refine br_not ?_
      | refine br_dec (fun hd => ?_) (fun hd => ?_)
      | refine br_lt (fun hlt => ?_) (fun hlt => ?_)
      | refine br_le (fun hle => ?_) (fun hle => ?_)
      | refine br_eq (fun heq => ?_) (fun heq => ?_)
      | refine idx_map (by omega) (fun x hx => ?_)
      | refine live_i rfl (fun h => by cases h) ?_
      | refine ret_i ?_)
    all_goals
      refine loop_i (A := Nat) (fun j => mkSt [(0, I W), (1, .sl (rs.map stepV)), (2, .sl (ps.map plV)), (8, .sl (pk.2.1.map plV)), (11, .sl (pk.2.1.map plV)), (76, I pk.2.1.length), (77, I j)] [] [])
        (fun j => j ≤ pk.2.1.length) (fun j => pk.2.1.length - j) 0 ?_ (by omega) (fun j hj' => ?_)
      · refine le_mk ?_ ?_ ?_
        all_goals repeat' (first | exact trivial | refine And.intro ?_ ?_ | with_reducible rfl | exact Nat.le_refl _ | omega | exact rfl)
      · change j ≤ pk.2.1.length at hj'
        rcases Nat.lt_or_ge j pk.2.1.length with hkl | hkl
        · obtain ⟨s, hsj⟩ : ∃ s, pk.2.1[j]? = some s := ⟨pk.2.1[j], by simp⟩
          have hsj' : pk.2.1[(j : Int).toNat]? = some s := by rw [show (j : Int).toNat = j by omega]; exact hsj
          repeat' ((conv => whnf); first
            | (exfalso; omega)
            | refine br_three (fun hp => ?_) (fun hp => absurd ⟨rfl, rfl, rfl⟩ hp)
            | refine idx_at hsj' ?_
            | refine seq_go ?_
            | refine draw_i (by kernel_rfl) ?_
            | refine arith_in (by omega) ?_
            | refine need_i (p := (T.row _).eq = true) (by kernel_rfl) ?_
            | refine need_i (by omega) ?_
            | refine br_not ?_
            | refine br_dec (fun hd => ?_) (fun hd => ?_)
            | refine br_lt (fun hlt => ?_) (fun hlt => ?_)
            | refine br_le (fun hle => ?_) (fun hle => ?_)
            | refine br_eq (fun heq => ?_) (fun heq => ?_)
            | refine idx_map (by omega) (fun x hx => ?_)
            | refine live_i rfl (fun h => by cases h) ?_
            | refine ret_i ?_)
          refine ⟨j + 1, ?_, (by show j + 1 ≤ _; omega), by omega⟩
          refine le_mk ?_ ?_ ?_
          all_goals repeat' (first | exact trivial | refine And.intro ?_ ?_ | with_reducible rfl | exact Nat.le_refl _ | omega | exact rfl)
        · repeat' ((conv => whnf); first
            | (exfalso; omega)
            | refine seq_go ?_
            | refine draw_i (by kernel_rfl) ?_
            | refine arith_in (by omega) ?_
            | refine need_i (p := (T.row _).eq = true) (by kernel_rfl) ?_
            | refine need_i (by omega) ?_
            | refine br_not ?_
            | refine br_dec (fun hd => ?_) (fun hd => ?_)
            | refine br_lt (fun hlt => ?_) (fun hlt => ?_)
            | refine br_le (fun hle => ?_) (fun hle => ?_)
            | refine br_eq (fun heq => ?_) (fun heq => ?_)
            | refine idx_map (by omega) (fun x hx => ?_)
            | refine live_i rfl (fun h => by cases h) ?_
            | refine ret_i ?_)
          refine loop_i (A := Nat) (fun j => mkSt [(0, I W), (1, .sl (rs.map stepV)), (2, .sl (ps.map plV)), (14, .arr 99 j), (90, .sl (ps.map plV)), (91, I ps.length), (92, I j)] [] [(99, ⟨j, .own, 33, (ps.take j).map plV⟩)])
            (fun j => j ≤ ps.length) (fun j => ps.length - j) 0 ?_ (by omega) (fun j hj' => ?_)
          · refine le_mk ?_ ?_ ?_
            all_goals repeat' (first | exact trivial | refine And.intro ?_ ?_ | with_reducible rfl | exact Nat.le_refl _ | omega | exact rfl)
          · change j ≤ ps.length at hj'
            rcases Nat.lt_or_ge j ps.length with hkl | hkl
            · obtain ⟨s, hsj⟩ : ∃ s, ps[j]? = some s := ⟨ps[j], by simp⟩
              have hsj' : ps[(j : Int).toNat]? = some s := by rw [show (j : Int).toNat = j by omega]; exact hsj
              have htl : (ps.take j).length ≤ ps.length := by rw [List.length_take]; omega
              repeat' ((conv => whnf); first
                | (exfalso; omega)
                | refine idx_at hsj' ?_
                | refine need_app rfl (.inl rfl) rfl (of_decide_eq_true rfl) (pl_cells _) (by show (List.map plV (ps.take j)).length + 1 ≤ _; simp only [List.length_map]; omega) ?_
                | refine seq_go ?_
                | refine draw_i (by kernel_rfl) ?_
                | refine arith_in (by omega) ?_
                | refine need_i (p := (T.row _).eq = true) (by kernel_rfl) ?_
                | refine need_i (by omega) ?_
                | refine br_not ?_
                | refine br_dec (fun hd => ?_) (fun hd => ?_)
                | refine br_lt (fun hlt => ?_) (fun hlt => ?_)
                | refine br_le (fun hle => ?_) (fun hle => ?_)
                | refine br_eq (fun heq => ?_) (fun heq => ?_)
                | refine idx_map (by omega) (fun x hx => ?_)
                | refine live_i rfl (fun h => by cases h) ?_
                | refine ret_i ?_)
              refine ⟨j + 1, ?_, (by show j + 1 ≤ _; omega), by omega⟩
              have ht : (ps.take (j + 1)) = ps.take j ++ [s] := by rw [List.take_add_one, hsj]; rfl
              refine le_mk ?_ ?_ ?_
              all_goals repeat' (first | exact trivial | refine And.intro ?_ ?_ | with_reducible rfl | exact Nat.le_refl _ | omega | exact rfl)
              · show List.map plV (ps.take j) ++ [plV s] = List.map plV (ps.take (j + 1))
                rw [ht]; simp
            · have hj : ps.take j = ps := List.take_of_length_le hkl
              rw [hj]
              repeat' ((conv => whnf); first
                | refine br_dec (fun hd => ?_) (fun hd => absurd (by first | assumption | exact ⟨rfl, rfl⟩) hd)
                | (exfalso; omega)
                | (refine call_i (rects_spec rs (by omega)) false ?_ rfl ?_; focus ((repeat' (first | exact trivial | refine And.intro ?_ ?_ | with_reducible rfl | exact (fun h => by cases h) | exact rfl)); done))
                | (refine call_i (q1) false ?_ rfl ?_; focus ((repeat' (first | exact trivial | refine And.intro ?_ ?_ | with_reducible rfl | exact (fun h => by cases h) | exact rfl)); done))
                | (refine call_i (q2) false ?_ rfl ?_; focus ((repeat' (first | exact trivial | refine And.intro ?_ ?_ | with_reducible rfl | exact (fun h => by cases h) | exact rfl)); done))
                | (refine call_i (n1) false ?_ rfl ?_; focus ((repeat' (first | exact trivial | refine And.intro ?_ ?_ | with_reducible rfl | exact (fun h => by cases h) | exact rfl)); done))
                | (refine call_i (n2) false ?_ rfl ?_; focus ((repeat' (first | exact trivial | refine And.intro ?_ ?_ | with_reducible rfl | exact (fun h => by cases h) | exact rfl)); done))
                | (refine call_i (theirs_spec pf.1.1 pf.1.2 (by omega)) false ?_ rfl ?_; focus ((repeat' (first | exact trivial | refine And.intro ?_ ?_ | with_reducible rfl | exact (fun h => by cases h) | exact rfl)); done))
                | (refine call_i (equal_spec pf.1.1 pf.1.1 pf.1.2 pf.1.2 (by omega)) false ?_ rfl ?_; focus ((repeat' (first | exact trivial | refine And.intro ?_ ?_ | with_reducible rfl | exact (fun h => by cases h) | exact rfl)); done))
                | (refine call_i (theirs_spec nw.1.1 nw.1.2 (by omega)) false ?_ rfl ?_; focus ((repeat' (first | exact trivial | refine And.intro ?_ ?_ | with_reducible rfl | exact (fun h => by cases h) | exact rfl)); done))
                | (refine call_i (equal_spec nw.1.1 nw.1.1 nw.1.2 nw.1.2 (by omega)) false ?_ rfl ?_; focus ((repeat' (first | exact trivial | refine And.intro ?_ ?_ | with_reducible rfl | exact (fun h => by cases h) | exact rfl)); done))
                | refine seq_go ?_
                | refine draw_i (by kernel_rfl) ?_
                | refine arith_in (by omega) ?_
                | refine need_i (p := (T.row _).eq = true) (by kernel_rfl) ?_
                | refine need_i (by omega) ?_
                | refine br_not ?_
                | refine br_dec (fun hd => ?_) (fun hd => ?_)
                | refine br_lt (fun hlt => ?_) (fun hlt => ?_)
                | refine br_le (fun hle => ?_) (fun hle => ?_)
                | refine br_eq (fun heq => ?_) (fun heq => ?_)
                | refine idx_map (by omega) (fun x hx => ?_)
                | refine live_i rfl (fun h => by cases h) ?_
                | refine ret_i ?_)
              exact ret_bool (decB_t.2 ⟨rfl, rfl⟩)
theorem law_pack_spec {W : Int} {rs : List (Int × Int)} {ps : List (Int × Int × Int)} : Sp 7 [I W, .sl (rs.map stepV), .sl (ps.map plV)] (B true) := sp_of Try.func7 (by kernel_rfl) (by kernel_rfl) law_pack
end Go.Proofs.Env41
