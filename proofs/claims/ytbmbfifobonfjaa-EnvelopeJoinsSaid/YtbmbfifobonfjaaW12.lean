/-
  The functions of the envelopes, walked: maxima.
-/
import Derived.Test.YtbmbfifobonfjaaW11
set_option linter.unusedVariables false
set_option linter.unusedSimpArgs false
namespace Go.Proofs.Env41
open Go Go.Proofs Go.Ab
set_option maxRecDepth 100000

def maxF (a b : Steps) : Int → Int := fun z => max (colF a z) (colF b z)
open Classical in
noncomputable def maxP (W : Int) (a : Steps) (U : Int) (b : Steps) : (Int × Steps) × Int :=
  if Val W a ∧ Val U b ∧ W = U then ((W, ofP (maxF a b) W.toNat), 0) else ((0, []), 1)
noncomputable def maxR' (W : Int) (a : Steps) (U : Int) (b : Steps) : V := .tup [envV (maxP W a U b).1.1 (maxP W a U b).1.2, I (maxP W a U b).2]
def HM (H : Int → Int) (l : Steps) (n : Int) : Int → Int := fun z => if z < n then max (H z) (colF l z) else H z

theorem rMax_vc {W U : Int} {a b : List (Int × Int)} (ha : a.length ≤ 10000) (hb : b.length ≤ 10000) : fnVC T Try.prog Try.f28 [envV W a, envV U b] (maxR' W a U b) := by
  unfold maxR' maxP
  by_cases h : Val W a ∧ Val U b ∧ W = U
  · rw [if_pos h]
    obtain ⟨h1, h2, rfl⟩ := h
    have hW := h1.1
    have hW2 := h1.2.1
    have hWW : ((W.toNat : Nat) : Int) = W := by omega
    repeat' ((conv => whnf); first
      | refine br_dec (fun hd => ?_) (fun hd => absurd (by assumption) hd)
      | (exfalso; omega)
      | (refine call_i (rvalid_spec W a (by omega)) false ?_ rfl ?_; focus ((repeat' (first | exact trivial | refine And.intro ?_ ?_ | with_reducible rfl | exact (fun h => by cases h) | exact rfl)); done))
      | (refine call_i (rvalid_spec W b (by omega)) false ?_ rfl ?_; focus ((repeat' (first | exact trivial | refine And.intro ?_ ?_ | with_reducible rfl | exact (fun h => by cases h) | exact rfl)); done))
      | (refine call_i (columns_spec h1 (by omega)) false ?_ rfl ?_; focus ((repeat' (first | exact trivial | refine And.intro ?_ ?_ | with_reducible rfl | exact (fun h => by cases h) | exact rfl)); done))
      | (refine call_i (columns_spec h2 (by omega)) false ?_ rfl ?_; focus ((repeat' (first | exact trivial | refine And.intro ?_ ?_ | with_reducible rfl | exact (fun h => by cases h) | exact rfl)); done))
      | refine seq_go ?_
      | refine draw_i (by kernel_rfl) ?_
      | refine arith_in (by omega) ?_
      | refine need_i (p := (T.row _).eq = true) (by kernel_rfl) ?_
      | refine need_i (by omega) ?_
      | refine br_not ?_
      | refine br_dec (fun hd => ?_) (fun hd => ?_)
      | refine br_lt (fun hlt => ?_) (fun hlt => ?_)
      | refine br_le (fun hle => ?_) (fun hle => ?_)
      | refine br_eq (fun heq => ?_) (fun heq => ?_)
      | refine idx_map (by omega) (fun x hx => ?_)
      | refine live_i rfl (fun h => by cases h) ?_
      | refine ret_i ?_)
    refine loop_i (A := Nat) (fun j => mkSt [(4, .box 4 0), (6, .arr 26 0), (7, .arr 28 0), (8, I j)] [(4, [I 0, .lit (.slice none 0 0)])] [(26, ⟨0, .own, 3, hv (HM (colF a) b j) W.toNat⟩), (28, ⟨0, .own, 3, hv (colF b) W.toNat⟩)])
      (fun j => (j : Int) ≤ W) (fun j => W.toNat - j) 0 ?_ (by show ((0 : Nat) : Int) ≤ W; omega) (fun j hj' => ?_)
    · refine le_mk ?_ ?_ ?_
      all_goals repeat' (first | exact trivial | refine And.intro ?_ ?_ | with_reducible rfl | exact Nat.le_refl _ | omega | exact rfl)
      refine hv_congr (fun z h0 h1 => ?_)
      unfold HM; rw [if_neg (by omega)]
    · change (j : Int) ≤ W at hj'
      have hlen : ((26, (⟨0, .own, 3, hv (HM (colF a) b j) W.toNat⟩ : AE))).snd.l.length = W.toNat := hv_len _ _
      rcases Int.lt_or_le (j : Int) W with hjl | hjl
      · repeat' ((conv => whnf); first
          | (exfalso; omega)
          | (refine need_hv rfl (fun h => by cases h) rfl ?_ ?_; omega)
          | refine own_i rfl rfl ?_
          | (refine idx_hv ?_ ?_; omega)
          | refine seq_go ?_
          | refine draw_i (by kernel_rfl) ?_
          | refine arith_in (by omega) ?_
          | refine need_i (p := (T.row _).eq = true) (by kernel_rfl) ?_
          | refine need_i (by omega) ?_
          | refine br_not ?_
          | refine br_dec (fun hd => ?_) (fun hd => ?_)
          | refine br_lt (fun hlt => ?_) (fun hlt => ?_)
          | refine br_le (fun hle => ?_) (fun hle => ?_)
          | refine br_eq (fun heq => ?_) (fun heq => ?_)
          | refine idx_map (by omega) (fun x hx => ?_)
          | refine live_i rfl (fun h => by cases h) ?_
          | refine ret_i ?_)
        refine ⟨j + 1, ?_, (by show ((j + 1 : Nat) : Int) ≤ W; omega), by omega⟩
        refine le_mk ?_ ?_ ?_
        all_goals repeat' (first | exact trivial | refine And.intro ?_ ?_ | with_reducible rfl | exact Nat.le_refl _ | omega | exact rfl)
        · refine (hv_set _ _ (by omega) _).trans (hv_congr (fun z h0 h1 => ?_))
          unfold HM
          by_cases h3 : z < ((j + 1 : Nat) : Int)
          · rw [if_pos h3]
            by_cases h4 : z = (j : Int)
            · rw [if_pos h4, h4, if_neg (by omega)]; exact maxI_eq _ _
            · rw [if_neg h4, if_pos (by omega)]
          · rw [if_neg h3, if_neg (by omega), if_neg (by omega)]
      · have hjw : j = W.toNat := by omega
        subst hjw
        repeat' ((conv => whnf); first
          | (exfalso; omega)
          | (refine call_i (of_spec (HM (colF a) b ((W.toNat : Nat) : Int)) (n := W.toNat) (by omega)) false ?_ rfl ?_; focus ((repeat' (first | exact trivial | refine And.intro ?_ ?_ | with_reducible rfl | exact (fun h => by cases h) | exact rfl)); done))
          | refine seq_go ?_
          | refine draw_i (by kernel_rfl) ?_
          | refine arith_in (by omega) ?_
          | refine need_i (p := (T.row _).eq = true) (by kernel_rfl) ?_
          | refine need_i (by omega) ?_
          | refine br_not ?_
          | refine br_dec (fun hd => ?_) (fun hd => ?_)
          | refine br_lt (fun hlt => ?_) (fun hlt => ?_)
          | refine br_le (fun hle => ?_) (fun hle => ?_)
          | refine br_eq (fun heq => ?_) (fun heq => ?_)
          | refine idx_map (by omega) (fun x hx => ?_)
          | refine live_i rfl (fun h => by cases h) ?_
          | refine ret_i ?_)
        conv => whnf
        refine ⟨_, rfl, ⟨⟨int_eq hWW, ?_, trivial⟩, rfl, trivial⟩, rfl⟩
        show List.map stepV (ofP (HM (colF a) b ((W.toNat : Nat) : Int)) W.toNat) = List.map stepV (ofP (maxF a b) W.toNat)
        rw [ofP_congr (g := maxF a b) (fun z h0 h1 => by unfold HM; rw [if_pos h1]; rfl)]
  · rw [if_neg h]
    repeat' ((conv => whnf); first
      | (refine call_i (rvalid_spec W a (by omega)) false ?_ rfl ?_; focus ((repeat' (first | exact trivial | refine And.intro ?_ ?_ | with_reducible rfl | exact (fun h => by cases h) | exact rfl)); done))
      | (refine call_i (rvalid_spec U b (by omega)) false ?_ rfl ?_; focus ((repeat' (first | exact trivial | refine And.intro ?_ ?_ | with_reducible rfl | exact (fun h => by cases h) | exact rfl)); done))
      | exact absurd ⟨by assumption, by assumption, by assumption⟩ h
      | refine seq_go ?_
      | refine draw_i (by kernel_rfl) ?_
      | refine arith_in (by omega) ?_
      | refine need_i (p := (T.row _).eq = true) (by kernel_rfl) ?_
      | refine need_i (by omega) ?_
      | refine br_not ?_
      | refine br_dec (fun hd => ?_) (fun hd => ?_)
      | refine br_lt (fun hlt => ?_) (fun hlt => ?_)
      | refine br_le (fun hle => ?_) (fun hle => ?_)
      | refine br_eq (fun heq => ?_) (fun heq => ?_)
      | refine idx_map (by omega) (fun x hx => ?_)
      | refine live_i rfl (fun h => by cases h) ?_
      | refine ret_i ?_)
    all_goals
      conv => whnf
      exact ⟨_, rfl, ⟨⟨rfl, rfl, trivial⟩, rfl, trivial⟩, rfl⟩
theorem rMax_spec {W U : Int} {a b : List (Int × Int)} (ha : a.length ≤ 10000) (hb : b.length ≤ 10000) : Sp 28 [envV W a, envV U b] (maxR' W a U b) := sp_of Try.func28 (by kernel_rfl) (by kernel_rfl) (rMax_vc ha hb)

def Hout (a b : Steps) : Nat → Int → Int
  | 0 => fun _ => 0
  | 1 => fun z => max 0 (colF a z)
  | _ => fun z => max (max 0 (colF a z)) (colF b z)
theorem Hout_step {a b l : Steps} {j : Nat} (hj : j < 2) (h : [a, b][j]? = some l) (z : Int) : max (Hout a b j z) (colF l z) = Hout a b (j + 1) z := by
  match j, hj, h with
  | 0, _, h => cases h; rfl
  | 1, _, h => cases h; rfl
theorem Max_vc {W U : Int} {a b : List (Int × Int)} (ha : a.length ≤ 10000) (hb : b.length ≤ 10000) : fnVC T Try.prog Try.f27 [envV W a, envV U b] (maxR' W a U b) := by
  unfold maxR' maxP
  by_cases h : Val W a ∧ Val U b ∧ W = U
  · rw [if_pos h]
    obtain ⟨h1, h2, rfl⟩ := h
    have hW := h1.1
    have hW2 := h1.2.1
    have hWW : ((W.toNat : Nat) : Int) = W := by omega
    repeat' ((conv => whnf); first
      | refine br_dec (fun hd => ?_) (fun hd => absurd (by assumption) hd)
      | (exfalso; omega)
      | (refine call_i (valid_spec W a (by omega)) false ?_ rfl ?_; focus ((repeat' (first | exact trivial | refine And.intro ?_ ?_ | with_reducible rfl | exact (fun h => by cases h) | exact rfl)); done))
      | (refine call_i (valid_spec W b (by omega)) false ?_ rfl ?_; focus ((repeat' (first | exact trivial | refine And.intro ?_ ?_ | with_reducible rfl | exact (fun h => by cases h) | exact rfl)); done))
      | refine need_make (by omega) rfl (by omega) (of_decide_eq_true rfl) ?_
      | refine seq_go ?_
      | refine draw_i (by kernel_rfl) ?_
      | refine arith_in (by omega) ?_
      | refine need_i (p := (T.row _).eq = true) (by kernel_rfl) ?_
      | refine need_i (by omega) ?_
      | refine br_not ?_
      | refine br_dec (fun hd => ?_) (fun hd => ?_)
      | refine br_lt (fun hlt => ?_) (fun hlt => ?_)
      | refine br_le (fun hle => ?_) (fun hle => ?_)
      | refine br_eq (fun heq => ?_) (fun heq => ?_)
      | refine idx_map (by omega) (fun x hx => ?_)
      | refine live_i rfl (fun h => by cases h) ?_
      | refine ret_i ?_)
    refine loop_i (A := Nat) (fun j => mkSt [(4, .box 4 0), (6, .arr 30 0), (33, .arr 33 0), (34, I 2), (35, I j)] [(4, [I 0, .lit (.slice none 0 0)])] [(30, ⟨0, .own, 3, hv (Hout a b j) W.toNat⟩), (33, ⟨0, .own, 31, [envV W a, envV W b]⟩)])
      (fun j => j ≤ 2) (fun j => 2 - j) 0 ?_ (by omega) (fun j hj' => ?_)
    · refine le_mk ?_ ?_ ?_
      all_goals repeat' (first | exact trivial | refine And.intro ?_ ?_ | with_reducible rfl | exact Nat.le_refl _ | omega | exact rfl)
      show List.replicate W.toNat (I 0) = hv (Hout a b 0) W.toNat
      rw [hv_zero]; rfl
    · change j ≤ 2 at hj'
      rcases Nat.lt_or_ge j 2 with hjl | hjl
      · obtain ⟨l, hl, hlv, hll⟩ : ∃ l, [a, b][j]? = some l ∧ Val W l ∧ l.length ≤ 10000 := by
          match j, hjl with
          | 0, _ => exact ⟨a, rfl, h1, ha⟩
          | 1, _ => exact ⟨b, rfl, h2, hb⟩
        have hs : (l.map stepV).length = l.length := by simp
        have hli : [envV W a, envV W b][(j : Int).toNat]? = some (envV W l) := by
          rw [show (j : Int).toNat = j by omega]
          match j, hjl, hl with
          | 0, _, hl => cases hl; rfl
          | 1, _, hl => cases hl; rfl
        have hlen : ((33, (⟨0, .own, 31, [envV W a, envV W b]⟩ : AE))).snd.l.length = 2 := rfl
        repeat' ((conv => whnf); first
          | (exfalso; omega)
          | (refine need_arr rfl (fun h => by cases h) ?_ ?_; omega)
          | refine idx_i (envV W l) hli ?_
          | refine seq_go ?_
          | refine draw_i (by kernel_rfl) ?_
          | refine arith_in (by omega) ?_
          | refine need_i (p := (T.row _).eq = true) (by kernel_rfl) ?_
          | refine need_i (by omega) ?_
          | refine br_not ?_
          | refine br_dec (fun hd => ?_) (fun hd => ?_)
          | refine br_lt (fun hlt => ?_) (fun hlt => ?_)
          | refine br_le (fun hle => ?_) (fun hle => ?_)
          | refine br_eq (fun heq => ?_) (fun heq => ?_)
          | refine idx_map (by omega) (fun x hx => ?_)
          | refine live_i rfl (fun h => by cases h) ?_
          | refine ret_i ?_)
        refine loop_i (A := Nat) (fun i => mkSt [(4, .box 4 0), (6, .arr 30 0), (8, .box 8 0), (33, .arr 33 0), (34, I 2), (35, I j), (40, .sl (l.map stepV)), (41, I l.length), (42, I i)] [(4, [I 0, .lit (.slice none 0 0)]), (8, [I W, .sl (l.map stepV)])] [(30, ⟨0, .own, 3, hv (HM (Hout a b j) l (begP W l i)) W.toNat⟩), (33, ⟨0, .own, 31, [envV W a, envV W b]⟩)])
          (fun i => i ≤ l.length) (fun i => l.length - i) 0 ?_ (by omega) (fun i hi' => ?_)
        · refine le_mk ?_ ?_ ?_
          all_goals repeat' (first | exact trivial | refine And.intro ?_ ?_ | with_reducible rfl | exact Nat.le_refl _ | omega | exact rfl)
          refine hv_congr (fun z h0 h1 => ?_)
          unfold HM; rw [hlv.beg0, if_neg (by omega)]
        · change i ≤ l.length at hi'
          rcases Nat.lt_or_ge i l.length with hil | hil
          · obtain ⟨s, hsj⟩ : ∃ s, l[i]? = some s := ⟨l[i], by simp⟩
            have hsj' : l[(i : Int).toNat]? = some s := by rw [show (i : Int).toNat = i by omega]; exact hsj
            have hbl := begP_lt hlv hil
            have hb0 := begP_nn hlv i
            rw [begP_some hsj] at hbl hb0 ⊢
            repeat' ((conv => whnf); first
              | (exfalso; omega)
              | refine idx_at hsj' ?_
              | refine seq_go ?_
              | refine draw_i (by kernel_rfl) ?_
              | refine arith_in (by omega) ?_
              | refine need_i (p := (T.row _).eq = true) (by kernel_rfl) ?_
              | refine need_i (by omega) ?_
              | refine br_not ?_
              | refine br_dec (fun hd => ?_) (fun hd => ?_)
              | refine br_lt (fun hlt => ?_) (fun hlt => ?_)
              | refine br_le (fun hle => ?_) (fun hle => ?_)
              | refine br_eq (fun heq => ?_) (fun heq => ?_)
              | refine idx_map (by omega) (fun x hx => ?_)
              | refine live_i rfl (fun h => by cases h) ?_
              | refine ret_i ?_)
            refine loop_i (A := Nat) (fun k => mkSt [(4, .box 4 0), (6, .arr 30 0), (8, .box 8 0), (9, I i), (10, .box 10 0), (11, I (s.1 + k)), (33, .arr 33 0), (34, I 2), (35, I j), (40, .sl (l.map stepV)), (41, I l.length), (42, I i)] [(4, [I 0, .lit (.slice none 0 0)]), (8, [I W, .sl (l.map stepV)]), (10, [I s.1, I s.2])] [(30, ⟨0, .own, 3, hv (HM (Hout a b j) l (s.1 + k)) W.toNat⟩), (33, ⟨0, .own, 31, [envV W a, envV W b]⟩)])
              (fun k => s.1 + k ≤ endP W l i) (fun k => (endP W l i - s.1).toNat - k) 0 ?_ (by show s.1 + ((0 : Nat) : Int) ≤ _; omega) (fun k hk' => ?_)
            · refine le_mk ?_ ?_ ?_
              all_goals repeat' (first | exact trivial | refine And.intro ?_ ?_ | with_reducible rfl | exact Nat.le_refl _ | omega | exact rfl)
              refine hv_congr (fun z h0 h1 => ?_)
              unfold HM
              rw [show s.1 + ((0 : Nat) : Int) = s.1 by omega]
            · change s.1 + k ≤ endP W l i at hk'
              rcases Int.lt_or_le (s.1 + k) (endP W l i) with hkl | hkl
              · have hcol : colF l (s.1 + k) = s.2 := col_step hlv hsj (by omega) hkl
                repeat' ((conv => whnf); first
                  | (exfalso; omega)
                  | (refine call_i (end_spec W i l (by omega) hil) false ?_ rfl ?_; focus ((repeat' (first | exact trivial | refine And.intro ?_ ?_ | with_reducible rfl | exact (fun h => by cases h) | exact rfl)); done))
                  | (refine need_hv rfl (fun h => by cases h) rfl ?_ ?_; omega)
                  | refine own_i rfl rfl ?_
                  | (refine idx_hv ?_ ?_; omega)
                  | refine seq_go ?_
                  | refine draw_i (by kernel_rfl) ?_
                  | refine arith_in (by omega) ?_
                  | refine need_i (p := (T.row _).eq = true) (by kernel_rfl) ?_
                  | refine need_i (by omega) ?_
                  | refine br_not ?_
                  | refine br_dec (fun hd => ?_) (fun hd => ?_)
                  | refine br_lt (fun hlt => ?_) (fun hlt => ?_)
                  | refine br_le (fun hle => ?_) (fun hle => ?_)
                  | refine br_eq (fun heq => ?_) (fun heq => ?_)
                  | refine idx_map (by omega) (fun x hx => ?_)
                  | refine live_i rfl (fun h => by cases h) ?_
                  | refine ret_i ?_)
                refine ⟨k + 1, ?_, (by show s.1 + ((k + 1 : Nat) : Int) ≤ _; omega), by omega⟩
                refine le_mk ?_ ?_ ?_
                all_goals repeat' (first | exact trivial | refine And.intro ?_ ?_ | with_reducible rfl | exact Nat.le_refl _ | omega | exact rfl)
                · refine (hv_set _ _ (by omega) _).trans (hv_congr (fun z h0 h1 => ?_))
                  unfold HM
                  by_cases h3 : z < s.1 + ((k + 1 : Nat) : Int)
                  · rw [if_pos h3]
                    by_cases h4 : z = s.1 + k
                    · rw [if_pos h4, h4, if_neg (by omega), hcol]; exact maxI_eq _ _
                    · rw [if_neg h4, if_pos (by omega)]
                  · rw [if_neg h3, if_neg (by omega), if_neg (by omega)]
              · have hke : s.1 + k = endP W l i := by omega
                repeat' ((conv => whnf); first
                  | (exfalso; omega)
                  | (refine call_i (end_spec W i l (by omega) hil) false ?_ rfl ?_; focus ((repeat' (first | exact trivial | refine And.intro ?_ ?_ | with_reducible rfl | exact (fun h => by cases h) | exact rfl)); done))
                  | refine seq_go ?_
                  | refine draw_i (by kernel_rfl) ?_
                  | refine arith_in (by omega) ?_
                  | refine need_i (p := (T.row _).eq = true) (by kernel_rfl) ?_
                  | refine need_i (by omega) ?_
                  | refine br_not ?_
                  | refine br_dec (fun hd => ?_) (fun hd => ?_)
                  | refine br_lt (fun hlt => ?_) (fun hlt => ?_)
                  | refine br_le (fun hle => ?_) (fun hle => ?_)
                  | refine br_eq (fun heq => ?_) (fun heq => ?_)
                  | refine idx_map (by omega) (fun x hx => ?_)
                  | refine live_i rfl (fun h => by cases h) ?_
                  | refine ret_i ?_)
                refine ⟨i + 1, ?_, (by show i + 1 ≤ _; omega), by omega⟩
                rw [hke, endP_beg]
                refine le_mk ?_ ?_ ?_
                all_goals repeat' (first | exact trivial | refine And.intro ?_ ?_ | with_reducible rfl | exact Nat.le_refl _ | omega | exact rfl)
          · have hie : i = l.length := by omega
            repeat' ((conv => whnf); first
              | (exfalso; omega)
              | refine seq_go ?_
              | refine draw_i (by kernel_rfl) ?_
              | refine arith_in (by omega) ?_
              | refine need_i (p := (T.row _).eq = true) (by kernel_rfl) ?_
              | refine need_i (by omega) ?_
              | refine br_not ?_
              | refine br_dec (fun hd => ?_) (fun hd => ?_)
              | refine br_lt (fun hlt => ?_) (fun hlt => ?_)
              | refine br_le (fun hle => ?_) (fun hle => ?_)
              | refine br_eq (fun heq => ?_) (fun heq => ?_)
              | refine idx_map (by omega) (fun x hx => ?_)
              | refine live_i rfl (fun h => by cases h) ?_
              | refine ret_i ?_)
            refine ⟨j + 1, ?_, (by show j + 1 ≤ 2; omega), by omega⟩
            refine le_mk ?_ ?_ ?_
            all_goals repeat' (first | exact trivial | refine And.intro ?_ ?_ | with_reducible rfl | exact Nat.le_refl _ | omega | exact rfl)
            · refine hv_congr (fun z h0 h1 => ?_)
              unfold HM
              rw [begP_end hil, if_pos (by omega), Hout_step hjl hl]
      · have hj2 : j = 2 := by omega
        subst hj2
        repeat' ((conv => whnf); first
          | (exfalso; omega)
          | (refine call_i (merged_spec (Hout a b 2) (n := W.toNat) (by omega)) false ?_ rfl ?_; focus ((repeat' (first | exact trivial | refine And.intro ?_ ?_ | with_reducible rfl | exact (fun h => by cases h) | exact rfl)); done))
          | refine seq_go ?_
          | refine draw_i (by kernel_rfl) ?_
          | refine arith_in (by omega) ?_
          | refine need_i (p := (T.row _).eq = true) (by kernel_rfl) ?_
          | refine need_i (by omega) ?_
          | refine br_not ?_
          | refine br_dec (fun hd => ?_) (fun hd => ?_)
          | refine br_lt (fun hlt => ?_) (fun hlt => ?_)
          | refine br_le (fun hle => ?_) (fun hle => ?_)
          | refine br_eq (fun heq => ?_) (fun heq => ?_)
          | refine idx_map (by omega) (fun x hx => ?_)
          | refine live_i rfl (fun h => by cases h) ?_
          | refine ret_i ?_)
        conv => whnf
        refine ⟨_, rfl, ⟨⟨int_eq hWW, ?_, trivial⟩, rfl, trivial⟩, rfl⟩
        show List.map stepV (ofP (Hout a b 2) W.toNat) = List.map stepV (ofP (maxF a b) W.toNat)
        rw [ofP_congr (g := maxF a b) (fun z h0 h3 => by
          have := h1.col h0 (by omega)
          show max (max 0 (colF a z)) (colF b z) = max (colF a z) (colF b z)
          omega)]
  · rw [if_neg h]
    repeat' ((conv => whnf); first
      | (refine call_i (valid_spec W a (by omega)) false ?_ rfl ?_; focus ((repeat' (first | exact trivial | refine And.intro ?_ ?_ | with_reducible rfl | exact (fun h => by cases h) | exact rfl)); done))
      | (refine call_i (valid_spec U b (by omega)) false ?_ rfl ?_; focus ((repeat' (first | exact trivial | refine And.intro ?_ ?_ | with_reducible rfl | exact (fun h => by cases h) | exact rfl)); done))
      | exact absurd ⟨by assumption, by assumption, by assumption⟩ h
      | refine seq_go ?_
      | refine draw_i (by kernel_rfl) ?_
      | refine arith_in (by omega) ?_
      | refine need_i (p := (T.row _).eq = true) (by kernel_rfl) ?_
      | refine need_i (by omega) ?_
      | refine br_not ?_
      | refine br_dec (fun hd => ?_) (fun hd => ?_)
      | refine br_lt (fun hlt => ?_) (fun hlt => ?_)
      | refine br_le (fun hle => ?_) (fun hle => ?_)
      | refine br_eq (fun heq => ?_) (fun heq => ?_)
      | refine idx_map (by omega) (fun x hx => ?_)
      | refine live_i rfl (fun h => by cases h) ?_
      | refine ret_i ?_)
    all_goals
      conv => whnf
      exact ⟨_, rfl, ⟨⟨rfl, rfl, trivial⟩, rfl, trivial⟩, rfl⟩
theorem Max_spec {W U : Int} {a b : List (Int × Int)} (ha : a.length ≤ 10000) (hb : b.length ≤ 10000) : Sp 27 [envV W a, envV U b] (maxR' W a U b) := sp_of Try.func27 (by kernel_rfl) (by kernel_rfl) (Max_vc ha hb)
end Go.Proofs.Env41
