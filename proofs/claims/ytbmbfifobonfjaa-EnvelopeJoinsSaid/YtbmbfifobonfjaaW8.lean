/-
  The functions of the envelopes, walked: placing by columns, new envelopes.
-/
import Derived.Test.YtbmbfifobonfjaaW7
set_option linter.unusedVariables false
set_option linter.unusedSimpArgs false
namespace Go.Proofs.Env41
open Go Go.Proofs Go.Ab
set_option maxRecDepth 100000

def aJ (l : Steps) (w : Int) (j : Nat) : Int := argm (fun z => topP l z w) (j - 1)
def rX (l : Steps) (w : Int) (j : Nat) : Int := if j = 0 then -1 else aJ l w j
def rY (l : Steps) (w : Int) (j : Nat) : Int := if j = 0 then 0 else topP l (aJ l w j) w
def rZ (l : Steps) (w : Int) (j : Nat) : Int := if j = 0 then 0 else wasteP l (aJ l w j) w
theorem rX_neg (l : Steps) (w : Int) (j : Nat) : rX l w j < 0 ↔ j = 0 := by
  unfold rX
  split
  · omega
  · have := (argm_bd (fun z => topP l z w) (j - 1)).1
    unfold aJ; omega
theorem r_step (l : Steps) (w : Int) (j : Nat) :
    (j = 0 ∨ topP l j w < rY l w j → rX l w (j + 1) = j ∧ rY l w (j + 1) = topP l j w ∧ rZ l w (j + 1) = wasteP l j w) ∧
    (¬ (j = 0 ∨ topP l j w < rY l w j) → rX l w (j + 1) = rX l w j ∧ rY l w (j + 1) = rY l w j ∧ rZ l w (j + 1) = rZ l w j) := by
  have e1 : rX l w (j + 1) = aJ l w (j + 1) := if_neg (by omega)
  have e2 : rY l w (j + 1) = topP l (aJ l w (j + 1)) w := if_neg (by omega)
  have e3 : rZ l w (j + 1) = wasteP l (aJ l w (j + 1)) w := if_neg (by omega)
  rw [e1, e2, e3]
  rcases Nat.eq_zero_or_pos j with rfl | hj
  · exact ⟨fun _ => ⟨rfl, rfl, rfl⟩, fun h => absurd (.inl rfl) h⟩
  · obtain ⟨k, rfl⟩ : ∃ k, j = k + 1 := ⟨j - 1, by omega⟩
    have hy : rY l w (k + 1) = topP l (aJ l w (k + 1)) w := if_neg (by omega)
    have e : aJ l w (k + 1 + 1) = if topP l ((k : Int) + 1) w < topP l (aJ l w (k + 1)) w then (k : Int) + 1 else aJ l w (k + 1) := rfl
    have ek : ((k + 1 : Nat) : Int) = (k : Int) + 1 := by omega
    rw [hy, e, ek]
    refine ⟨fun h => ?_, fun h => ?_⟩
    · have h' := h.resolve_left (by omega)
      rw [if_pos h']; exact ⟨rfl, rfl, rfl⟩
    · have h' := fun hh => h (.inr hh)
      rw [if_neg h']
      unfold rX rZ
      rw [if_neg (by omega), if_neg (by omega)]
      exact ⟨rfl, rfl, rfl⟩
theorem r_end {W : Int} {l : Steps} {w : Int} {j : Nat} (h1 : (j : Int) = W - w + 1) (h0 : w ≤ W) : rX l w j = bestP W l w ∧ rY l w j = topP l (bestP W l w) w ∧ rZ l w j = wasteP l (bestP W l w) w := by
  have hj : j ≠ 0 := by omega
  have e : aJ l w j = bestP W l w := by unfold aJ bestP; congr 1; omega
  unfold rX rY rZ
  rw [if_neg hj, if_neg hj, if_neg hj, e]
  exact ⟨rfl, rfl, rfl⟩

theorem rTop_in {W x0 w : Int} {l : List (Int × Int)} (hl : l.length ≤ 100000) (h : Val W l) (hr : InP W x0 w) : Sp 18 [envV W l, I x0, I w] (.tup [I (topP l x0 w), I (wasteP l x0 w), I 0]) := by
  have := rTop_spec (W := W) (x0 := x0) (w := w) hl
  unfold topR at this
  rw [if_pos h, if_pos hr] at this
  exact this
theorem rRaise_in {W x0 w y : Int} {l : List (Int × Int)} (hl : l.length ≤ 10000) (h : Val W l) (hr : InP W x0 w) (h0 : 0 ≤ y) (h1 : y ≤ 1000000) : Sp 22 [envV W l, I x0, I w, I y] (.tup [envV W (raiseP W l x0 w y), I 0]) := by
  have := rRaise_spec (W := W) (x0 := x0) (w := w) (y := y) hl
  unfold raiseR at this
  rw [if_pos h, if_pos ⟨hr, h0, h1⟩] at this
  exact this

theorem rPlace_vc {W : Int} {l : List (Int × Int)} {r : Int × Int} (hl : l.length ≤ 10000) : fnVC T Try.prog Try.f14 [envV W l, stepV r] (placeR W l r) := by
  have hs : (l.map stepV).length = l.length := by simp
  unfold placeR placeP
  by_cases h : Val W l
  · have hW := h.1
    have hW2 := h.2.1
    by_cases hz : SizedP r.1 r.2
    · rw [if_pos ⟨h, hz⟩]
      obtain ⟨⟨hz1, hz2⟩, hz3, hz4⟩ := id hz
      by_cases hrW : W < r.1
      · rw [if_pos hrW]
        repeat' ((conv => whnf); first
          | refine br_dec (fun hd => ?_) (fun hd => absurd (by first | assumption) hd)
          | (exfalso; omega)
          | refine call_i (rvalid_spec W l (by omega)) false (by repeat' (first | exact trivial | refine And.intro ?_ ?_ | with_reducible rfl | exact (fun h => by cases h) | exact rfl)) rfl ?_
          | refine call_i (rsized_spec r.1 r.2) false (by repeat' (first | exact trivial | refine And.intro ?_ ?_ | with_reducible rfl | exact (fun h => by cases h) | exact rfl)) rfl ?_
          | refine seq_go ?_
          | refine draw_i (by kernel_rfl) ?_
          | refine arith_in (by omega) ?_
          | refine need_i (p := (T.row _).eq = true) (by kernel_rfl) ?_
          | refine need_i (by omega) ?_
          | refine br_not ?_
          | refine br_dec (fun hd => ?_) (fun hd => ?_)
          | refine br_lt (fun hlt => ?_) (fun hlt => ?_)
          | refine br_le (fun hle => ?_) (fun hle => ?_)
          | refine br_eq (fun heq => ?_) (fun heq => ?_)
          | refine idx_map (by omega) (fun x hx => ?_)
          | refine live_i rfl (fun h => by cases h) ?_
          | refine ret_i ?_)
        conv => whnf
        exact ⟨_, rfl, ⟨⟨rfl, rfl, trivial⟩, ⟨rfl, rfl, rfl, trivial⟩, rfl, trivial⟩, rfl⟩
      · rw [if_neg hrW]
        have hbp := bestP_bd W l r.1 (by omega)
        have htp := topP_bd h (x := bestP W l r.1) (w := r.1) hbp.1 hbp.2
        repeat' ((conv => whnf); first
          | refine br_dec (fun hd => ?_) (fun hd => absurd (by first | assumption) hd)
          | (exfalso; omega)
          | refine call_i (rvalid_spec W l (by omega)) false (by repeat' (first | exact trivial | refine And.intro ?_ ?_ | with_reducible rfl | exact (fun h => by cases h) | exact rfl)) rfl ?_
          | refine call_i (rsized_spec r.1 r.2) false (by repeat' (first | exact trivial | refine And.intro ?_ ?_ | with_reducible rfl | exact (fun h => by cases h) | exact rfl)) rfl ?_
          | refine seq_go ?_
          | refine draw_i (by kernel_rfl) ?_
          | refine arith_in (by omega) ?_
          | refine need_i (p := (T.row _).eq = true) (by kernel_rfl) ?_
          | refine need_i (by omega) ?_
          | refine br_not ?_
          | refine br_dec (fun hd => ?_) (fun hd => ?_)
          | refine br_lt (fun hlt => ?_) (fun hlt => ?_)
          | refine br_le (fun hle => ?_) (fun hle => ?_)
          | refine br_eq (fun heq => ?_) (fun heq => ?_)
          | refine idx_map (by omega) (fun x hx => ?_)
          | refine live_i rfl (fun h => by cases h) ?_
          | refine ret_i ?_)
        refine loop_i (A := Nat) (fun j => mkSt [(2, .box 2 0), (3, .box 3 0), (4, .box 4 0), (5, .box 5 0), (7, .box 7 0), (8, I j)]
            [(2, [I W, .sl (l.map stepV)]), (3, [I r.1, I r.2]), (4, [I 0, .lit (.slice none 0 0)]), (5, [I 0, I 0, I 0]), (7, [I (rX l r.1 j), I (rY l r.1 j), I (rZ l r.1 j)])] [])
          (fun j => (j : Int) ≤ W - r.1 + 1) (fun j => (W - r.1 + 1).toNat - j) 0 ?_ (by show ((0 : Nat) : Int) ≤ _; omega) (fun j hj' => ?_)
        · refine le_mk ?_ ?_ ?_
          all_goals repeat' (first | exact trivial | refine And.intro ?_ ?_ | with_reducible rfl | exact Nat.le_refl _ | omega | exact rfl)
        · change (j : Int) ≤ W - r.1 + 1 at hj'
          rcases Int.lt_or_le (j : Int) (W - r.1 + 1) with hjl | hjl
          · have hst := r_step l r.1 j
            have hneg := rX_neg l r.1 j
            have htop := topP_bd h (x := (j : Int)) (w := r.1) (by omega) (by omega)
            repeat' ((conv => whnf); first
              | (exfalso; omega)
              | refine call_i (rTop_in (x0 := (j : Int)) (w := r.1) (by omega) h ⟨by omega, hz1, by omega⟩) false (by repeat' (first | exact trivial | refine And.intro ?_ ?_ | with_reducible rfl | exact (fun h => by cases h) | exact rfl)) rfl ?_
              | refine seq_go ?_
              | refine draw_i (by kernel_rfl) ?_
              | refine arith_in (by omega) ?_
              | refine need_i (p := (T.row _).eq = true) (by kernel_rfl) ?_
              | refine need_i (by omega) ?_
              | refine br_not ?_
              | refine br_dec (fun hd => ?_) (fun hd => ?_)
              | refine br_lt (fun hlt => ?_) (fun hlt => ?_)
              | refine br_le (fun hle => ?_) (fun hle => ?_)
              | refine br_eq (fun heq => ?_) (fun heq => ?_)
              | refine idx_map (by omega) (fun x hx => ?_)
              | refine live_i rfl (fun h => by cases h) ?_
              | refine ret_i ?_)
            · refine ⟨j + 1, ?_, (by show ((j + 1 : Nat) : Int) ≤ _; omega), by omega⟩
              obtain ⟨e1, e2, e3⟩ := hst.1 (by omega)
              refine le_mk ?_ ?_ ?_
              all_goals repeat' (first | exact trivial | refine And.intro ?_ ?_ | with_reducible rfl | exact Nat.le_refl _ | omega | exact rfl)
            · refine ⟨j + 1, ?_, (by show ((j + 1 : Nat) : Int) ≤ _; omega), by omega⟩
              obtain ⟨e1, e2, e3⟩ := hst.1 (by omega)
              refine le_mk ?_ ?_ ?_
              all_goals repeat' (first | exact trivial | refine And.intro ?_ ?_ | with_reducible rfl | exact Nat.le_refl _ | omega | exact rfl)
            · refine ⟨j + 1, ?_, (by show ((j + 1 : Nat) : Int) ≤ _; omega), by omega⟩
              obtain ⟨e1, e2, e3⟩ := hst.2 (by omega)
              refine le_mk ?_ ?_ ?_
              all_goals repeat' (first | exact trivial | refine And.intro ?_ ?_ | with_reducible rfl | exact Nat.le_refl _ | omega | exact rfl)
          · obtain ⟨e1, e2, e3⟩ := r_end (W := W) (l := l) (w := r.1) (j := j) (by omega) (by omega)
            rw [e1, e2, e3]
            by_cases hlim : 1000000 < (posP W l r.1).2.1 + r.2
            · rw [if_pos hlim]
              change 1000000 < topP l (bestP W l r.1) r.1 + r.2 at hlim
              repeat' ((conv => whnf); first
                | (exfalso; omega)
                | refine seq_go ?_
                | refine arith_in (by omega) ?_
                | refine need_i (p := (T.row _).eq = true) (by kernel_rfl) ?_
                | refine need_i (by omega) ?_
                | refine br_not ?_
                | refine br_dec (fun hd => ?_) (fun hd => ?_)
                | refine br_lt (fun hlt => ?_) (fun hlt => ?_)
                | refine br_le (fun hle => ?_) (fun hle => ?_)
                | refine br_eq (fun heq => ?_) (fun heq => ?_)
                | refine idx_map (by omega) (fun x hx => ?_)
                | refine live_i rfl (fun h => by cases h) ?_
                | refine ret_i ?_)
              conv => whnf
              exact ⟨_, rfl, ⟨⟨rfl, rfl, trivial⟩, ⟨rfl, rfl, rfl, trivial⟩, rfl, trivial⟩, rfl⟩
            · rw [if_neg hlim]
              change ¬ 1000000 < topP l (bestP W l r.1) r.1 + r.2 at hlim
              repeat' ((conv => whnf); first
                | (exfalso; omega)
                | refine draw_c [(7, 7), (4, 4)] ⟨rfl, rfl, trivial⟩ (by kernel_rfl) ?_
                | refine call_i (rRaise_in (x0 := bestP W l r.1) (w := r.1) (y := topP l (bestP W l r.1) r.1 + r.2) hl h ⟨hbp.1, hz1, hbp.2⟩ (by omega) (by omega)) false (by repeat' (first | exact trivial | refine And.intro ?_ ?_ | with_reducible rfl | exact (fun h => by cases h) | exact rfl)) rfl ?_
                | refine seq_go ?_
                | refine arith_in (by omega) ?_
                | refine need_i (p := (T.row _).eq = true) (by kernel_rfl) ?_
                | refine need_i (by omega) ?_
                | refine br_not ?_
                | refine br_dec (fun hd => ?_) (fun hd => ?_)
                | refine br_lt (fun hlt => ?_) (fun hlt => ?_)
                | refine br_le (fun hle => ?_) (fun hle => ?_)
                | refine br_eq (fun heq => ?_) (fun heq => ?_)
                | refine idx_map (by omega) (fun x hx => ?_)
                | refine live_i rfl (fun h => by cases h) ?_
                | refine ret_i ?_)
              conv => whnf
              exact ⟨_, rfl, ⟨⟨rfl, rfl, trivial⟩, ⟨rfl, rfl, rfl, trivial⟩, rfl, trivial⟩, rfl⟩
    · rw [if_neg (fun hh => hz hh.2)]
      repeat' ((conv => whnf); first
        | refine br_dec (fun hd => ?_) (fun hd => absurd h hd)
        | refine br_dec (fun hd => absurd hd hz) (fun hd => ?_)
        | refine call_i (rvalid_spec W l (by omega)) false (by repeat' (first | exact trivial | refine And.intro ?_ ?_ | with_reducible rfl | exact (fun h => by cases h) | exact rfl)) rfl ?_
        | refine call_i (rsized_spec r.1 r.2) false (by repeat' (first | exact trivial | refine And.intro ?_ ?_ | with_reducible rfl | exact (fun h => by cases h) | exact rfl)) rfl ?_
        | refine seq_go ?_
        | refine draw_i (by kernel_rfl) ?_
        | refine arith_in (by omega) ?_
        | refine need_i (p := (T.row _).eq = true) (by kernel_rfl) ?_
        | refine need_i (by omega) ?_
        | refine br_not ?_
        | refine br_dec (fun hd => ?_) (fun hd => ?_)
        | refine br_lt (fun hlt => ?_) (fun hlt => ?_)
        | refine br_le (fun hle => ?_) (fun hle => ?_)
        | refine br_eq (fun heq => ?_) (fun heq => ?_)
        | refine idx_map (by omega) (fun x hx => ?_)
        | refine live_i rfl (fun h => by cases h) ?_
        | refine ret_i ?_)
      conv => whnf
      exact ⟨_, rfl, ⟨⟨rfl, rfl, trivial⟩, ⟨rfl, rfl, rfl, trivial⟩, rfl, trivial⟩, rfl⟩
  · rw [if_neg (fun hh => h hh.1)]
    repeat' ((conv => whnf); first
      | refine br_dec (fun hd => absurd hd (by assumption)) (fun hd => ?_)
      | refine call_i (rvalid_spec W l (by omega)) false (by repeat' (first | exact trivial | refine And.intro ?_ ?_ | with_reducible rfl | exact (fun h => by cases h) | exact rfl)) rfl ?_
      | refine seq_go ?_
      | refine draw_i (by kernel_rfl) ?_
      | refine arith_in (by omega) ?_
      | refine need_i (p := (T.row _).eq = true) (by kernel_rfl) ?_
      | refine need_i (by omega) ?_
      | refine br_not ?_
      | refine br_dec (fun hd => ?_) (fun hd => ?_)
      | refine br_lt (fun hlt => ?_) (fun hlt => ?_)
      | refine br_le (fun hle => ?_) (fun hle => ?_)
      | refine br_eq (fun heq => ?_) (fun heq => ?_)
      | refine idx_map (by omega) (fun x hx => ?_)
      | refine live_i rfl (fun h => by cases h) ?_
      | refine ret_i ?_)
    conv => whnf
    exact ⟨_, rfl, ⟨⟨rfl, rfl, trivial⟩, ⟨rfl, rfl, rfl, trivial⟩, rfl, trivial⟩, rfl⟩
theorem rPlace_spec {W : Int} {l : List (Int × Int)} {r : Int × Int} (hl : l.length ≤ 10000) : Sp 14 [envV W l, stepV r] (placeR W l r) := sp_of Try.func14 (by kernel_rfl) (by kernel_rfl) (rPlace_vc hl)

open Classical in
noncomputable def newP (W : Int) : (Int × Steps) × Int := if 1 ≤ W ∧ W ≤ 2000 then ((W, [(0, 0)]), 0) else ((0, []), 2)
noncomputable def newR (W : Int) : V := .tup [envV (newP W).1.1 (newP W).1.2, I (newP W).2]
theorem ofP_zero {n : Nat} (h : 1 ≤ n) : ofP (fun _ => 0) n = [(0, 0)] := by
  have := ofP_const (h := fun _ => 0) (a := 1) (n := n) (by omega) h (fun _ _ _ => rfl)
  rw [this]; rfl
theorem New_vc (W : Int) : fnVC T Try.prog Try.f34 [I W] (newR W) := by
  unfold newR newP
  by_cases h : 1 ≤ W ∧ W ≤ 2000
  · rw [if_pos h]
    repeat' ((conv => whnf); first
      | refine br_dec (fun hd => ?_) (fun hd => absurd h hd)
      | refine call_i (in_spec _ _ _) false (by repeat' (first | exact trivial | refine And.intro ?_ ?_ | with_reducible rfl | exact (fun h => by cases h) | exact rfl)) rfl ?_
      | refine seq_go ?_
      | refine draw_i (by kernel_rfl) ?_
      | refine arith_in (by omega) ?_
      | refine need_i (p := (T.row _).eq = true) (by kernel_rfl) ?_
      | refine need_i (by omega) ?_
      | refine br_not ?_
      | refine br_dec (fun hd => ?_) (fun hd => ?_)
      | refine br_lt (fun hlt => ?_) (fun hlt => ?_)
      | refine br_le (fun hle => ?_) (fun hle => ?_)
      | refine br_eq (fun heq => ?_) (fun heq => ?_)
      | refine idx_map (by omega) (fun x hx => ?_)
      | refine live_i rfl (fun h => by cases h) ?_
      | refine ret_i ?_)
    conv => whnf
    exact ⟨_, rfl, ⟨⟨rfl, ⟨rfl, (fun h => by cases h), rfl⟩, trivial⟩, rfl, trivial⟩, rfl⟩
  · rw [if_neg h]
    repeat' ((conv => whnf); first
      | refine br_dec (fun hd => absurd hd h) (fun hd => ?_)
      | refine call_i (in_spec _ _ _) false (by repeat' (first | exact trivial | refine And.intro ?_ ?_ | with_reducible rfl | exact (fun h => by cases h) | exact rfl)) rfl ?_
      | refine seq_go ?_
      | refine draw_i (by kernel_rfl) ?_
      | refine arith_in (by omega) ?_
      | refine need_i (p := (T.row _).eq = true) (by kernel_rfl) ?_
      | refine need_i (by omega) ?_
      | refine br_not ?_
      | refine br_dec (fun hd => ?_) (fun hd => ?_)
      | refine br_lt (fun hlt => ?_) (fun hlt => ?_)
      | refine br_le (fun hle => ?_) (fun hle => ?_)
      | refine br_eq (fun heq => ?_) (fun heq => ?_)
      | refine idx_map (by omega) (fun x hx => ?_)
      | refine live_i rfl (fun h => by cases h) ?_
      | refine ret_i ?_)
    conv => whnf
    exact ⟨_, rfl, ⟨⟨rfl, rfl, trivial⟩, rfl, trivial⟩, rfl⟩
theorem New_spec (W : Int) : Sp 34 [I W] (newR W) := sp_of Try.func34 (by kernel_rfl) (by kernel_rfl) (New_vc W)
theorem rNew_vc (W : Int) : fnVC T Try.prog Try.f35 [I W] (newR W) := by
  unfold newR newP
  by_cases h : 1 ≤ W ∧ W ≤ 2000
  · rw [if_pos h]
    have e : List.replicate W.toNat (I 0) = hv (fun _ => 0) W.toNat := hv_zero _
    have hWW : ((W.toNat : Nat) : Int) = W := by omega
    repeat' ((conv => whnf); first
      | (exfalso; omega)
      | refine need_make (by omega) rfl (by omega) (of_decide_eq_true rfl) ?_
      | refine call_i (of_spec (fun _ => 0) (n := W.toNat) (by omega)) false ⟨⟨rfl, (fun h => by cases h), e⟩, trivial⟩ rfl ?_
      | refine seq_go ?_
      | refine draw_i (by kernel_rfl) ?_
      | refine arith_in (by omega) ?_
      | refine need_i (p := (T.row _).eq = true) (by kernel_rfl) ?_
      | refine need_i (by omega) ?_
      | refine br_not ?_
      | refine br_dec (fun hd => ?_) (fun hd => ?_)
      | refine br_lt (fun hlt => ?_) (fun hlt => ?_)
      | refine br_le (fun hle => ?_) (fun hle => ?_)
      | refine br_eq (fun heq => ?_) (fun heq => ?_)
      | refine idx_map (by omega) (fun x hx => ?_)
      | refine live_i rfl (fun h => by cases h) ?_
      | refine ret_i ?_)
    conv => whnf
    refine ⟨_, rfl, ⟨⟨int_eq hWW, ?_, trivial⟩, rfl, trivial⟩, rfl⟩
    show List.map stepV (ofP (fun _ => 0) W.toNat) = List.map stepV [(0, 0)]
    rw [ofP_zero (by omega)]
  · rw [if_neg h]
    repeat' ((conv => whnf); first
      | (exfalso; omega)
      | refine seq_go ?_
      | refine draw_i (by kernel_rfl) ?_
      | refine arith_in (by omega) ?_
      | refine need_i (p := (T.row _).eq = true) (by kernel_rfl) ?_
      | refine need_i (by omega) ?_
      | refine br_not ?_
      | refine br_dec (fun hd => ?_) (fun hd => ?_)
      | refine br_lt (fun hlt => ?_) (fun hlt => ?_)
      | refine br_le (fun hle => ?_) (fun hle => ?_)
      | refine br_eq (fun heq => ?_) (fun heq => ?_)
      | refine idx_map (by omega) (fun x hx => ?_)
      | refine live_i rfl (fun h => by cases h) ?_
      | refine ret_i ?_)
    all_goals
      conv => whnf
      exact ⟨_, rfl, ⟨⟨rfl, rfl, trivial⟩, rfl, trivial⟩, rfl⟩
theorem rNew_spec (W : Int) : Sp 35 [I W] (newR W) := sp_of Try.func35 (by kernel_rfl) (by kernel_rfl) (rNew_vc W)
end Go.Proofs.Env41
