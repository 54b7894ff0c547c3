/-
  The functions of the envelopes, walked: placing.
-/
import Derived.Test.YtbmbfifobonfjaaW6
set_option linter.unusedVariables false
set_option linter.unusedSimpArgs false
namespace Go.Proofs.Env41
open Go Go.Proofs Go.Ab
set_option maxRecDepth 100000

def plV (p : Int × Int × Int) : V := .agg [.lit (.int .i64 p.1), .lit (.int .i64 p.2.1), .lit (.int .i64 p.2.2)]
/-- where a rectangle of a width is placed -/
def bestP (W : Int) (l : Steps) (w : Int) : Int := argm (fun z => topP l z w) (W - w).toNat
def posP (W : Int) (l : Steps) (w : Int) : Int × Int × Int := (bestP W l w, topP l (bestP W l w) w, wasteP l (bestP W l w) w)
open Classical in
noncomputable def placeP (W : Int) (l : Steps) (r : Int × Int) : (Int × Steps) × (Int × Int × Int) × Int :=
  if Val W l ∧ SizedP r.1 r.2 then
    if W < r.1 then ((0, []), (0, 0, 0), 19)
    else if 1000000 < (posP W l r.1).2.1 + r.2 then ((0, []), (0, 0, 0), 9)
    else ((W, raiseP W l (bestP W l r.1) r.1 ((posP W l r.1).2.1 + r.2)), posP W l r.1, 0)
  else ((0, []), (0, 0, 0), 1)
noncomputable def placeR (W : Int) (l : Steps) (r : Int × Int) : V := .tup [envV (placeP W l r).1.1 (placeP W l r).1.2, plV (placeP W l r).2.1, I (placeP W l r).2.2]

/-- the best place behind j steps -/
def bestJ (W : Int) (l : Steps) (w : Int) (j : Nat) : Int := argm (fun z => topP l z w) (begP W l (j - 1)).toNat
def bX (W : Int) (l : Steps) (w : Int) (j : Nat) : Int := if j = 0 then 0 else bestJ W l w j
def bY (W : Int) (l : Steps) (w : Int) (j : Nat) : Int := if j = 0 then 1000001 else topP l (bestJ W l w j) w
def bZ (W : Int) (l : Steps) (w : Int) (j : Nat) : Int := if j = 0 then 0 else wasteP l (bestJ W l w j) w
theorem best_next {W : Int} {l : Steps} (h : Val W l) {w : Int} (hw : 1 ≤ w) {j : Nat} {s : Int × Int} (hs : l[j]? = some s) (hsW : s.1 + w ≤ W) :
    (topP l s.1 w < bY W l w j → bestJ W l w (j + 1) = s.1) ∧ (¬ topP l s.1 w < bY W l w j → j ≠ 0 ∧ bestJ W l w (j + 1) = bestJ W l w j) := by
  have hb := begP_some (W := W) hs
  have hi := (List.getElem?_eq_some_iff.1 hs).1
  have e0 : bestJ W l w (j + 1) = argm (fun z => topP l z w) s.1.toNat := by unfold bestJ; rw [Nat.add_sub_cancel, hb]
  rcases Nat.eq_zero_or_pos j with rfl | hj
  · have h0 := h.beg0
    rw [hb] at h0
    have ht := (topP_bd h (x := s.1) (w := w) (by omega) hsW).2
    rw [e0, h0]
    refine ⟨fun _ => rfl, fun hh => ?_⟩
    unfold bY at hh
    rw [if_pos rfl] at hh
    rw [h0] at ht
    omega
  · obtain ⟨k, rfl⟩ : ∃ k, j = k + 1 := ⟨j - 1, by omega⟩
    have hsk : l[k]? = some l[k] := by simp
    have h1 := begP_lt h (i := k) (by omega)
    rw [begP_some hsk, endP_beg, hb] at h1
    have h2 := begP_nn h k
    rw [begP_some hsk] at h2
    have e1 : bestJ W l w (k + 1) = argm (fun z => topP l z w) (s.1.toNat - 1) := by
      unfold bestJ
      rw [Nat.add_sub_cancel, begP_some hsk]
      exact (best_stay h hw hsk (n := s.1.toNat - 1) (by omega) (by rw [endP_beg, hb]; omega)).symm
    have e2 : argm (fun z => topP l z w) s.1.toNat = if topP l s.1 w < topP l (argm (fun z => topP l z w) (s.1.toNat - 1)) w then s.1 else argm (fun z => topP l z w) (s.1.toNat - 1) := by
      obtain ⟨m, hm⟩ : ∃ m, s.1.toNat = m + 1 := ⟨s.1.toNat - 1, by omega⟩
      have hm2 : (m : Int) + 1 = s.1 := by omega
      rw [hm, argm, hm2]
      rfl
    have e3 : bY W l w (k + 1) = topP l (bestJ W l w (k + 1)) w := by unfold bY; rw [if_neg (by omega)]
    rw [e0, e2, e3, e1]
    refine ⟨fun hh => by rw [if_pos hh], fun hh => ⟨by omega, by rw [if_neg hh]⟩⟩
theorem best_step {W : Int} {l : Steps} (h : Val W l) {w : Int} (hw : 1 ≤ w) {j : Nat} {s : Int × Int} (hs : l[j]? = some s) (hsW : s.1 + w ≤ W) :
    (topP l s.1 w < bY W l w j → bX W l w (j + 1) = s.1 ∧ bY W l w (j + 1) = topP l s.1 w ∧ bZ W l w (j + 1) = wasteP l s.1 w) ∧
    (¬ topP l s.1 w < bY W l w j → bX W l w (j + 1) = bX W l w j ∧ bY W l w (j + 1) = bY W l w j ∧ bZ W l w (j + 1) = bZ W l w j) := by
  have hnx := best_next h hw hs hsW
  have e1 : bX W l w (j + 1) = bestJ W l w (j + 1) := if_neg (by omega)
  have e2 : bY W l w (j + 1) = topP l (bestJ W l w (j + 1)) w := if_neg (by omega)
  have e3 : bZ W l w (j + 1) = wasteP l (bestJ W l w (j + 1)) w := if_neg (by omega)
  rw [e1, e2, e3]
  refine ⟨fun hh => ?_, fun hh => ?_⟩
  · rw [hnx.1 hh]; exact ⟨rfl, rfl, rfl⟩
  · obtain ⟨hj0, e⟩ := hnx.2 hh
    rw [e]
    unfold bX bY bZ
    rw [if_neg hj0, if_neg hj0, if_neg hj0]
    exact ⟨rfl, rfl, rfl⟩
theorem best_end {W : Int} {l : Steps} (h : Val W l) {w : Int} (hw : 1 ≤ w) {j : Nat} (hj0 : j ≠ 0) (hj : j ≤ l.length) (h1 : begP W l (j - 1) + w ≤ W) (h2 : j < l.length → W < begP W l j + w) : bestJ W l w j = bestP W l w := by
  obtain ⟨k, rfl⟩ : ∃ k, j = k + 1 := ⟨j - 1, by omega⟩
  have hsk : l[k]? = some l[k] := by simp
  have hb := begP_some (W := W) hsk
  have h3 := begP_nn h k
  unfold bestJ bestP
  rw [Nat.add_sub_cancel] at h1 ⊢
  rw [hb] at h1 h3 ⊢
  refine (best_stay h hw hsk (n := (W - w).toNat) (by omega) ?_).symm
  rw [endP_beg]
  rcases Nat.lt_or_ge (k + 1) l.length with h4 | h4
  · have := h2 h4; omega
  · rw [begP_end h4]; omega
theorem bestP_bd (W : Int) (l : Steps) (w : Int) (hw : w ≤ W) : 0 ≤ bestP W l w ∧ bestP W l w + w ≤ W := by
  have := argm_bd (fun z => topP l z w) (W - w).toNat
  unfold bestP; omega

theorem Place_vc {W : Int} {l : List (Int × Int)} {r : Int × Int} (hl : l.length ≤ 10000) : fnVC T Try.prog Try.f12 [envV W l, stepV r] (placeR W l r) := by
  have hs : (l.map stepV).length = l.length := by simp
  unfold placeR placeP
  by_cases h : Val W l
  · have hW := h.1
    have hW2 := h.2.1
    by_cases hz : SizedP r.1 r.2
    · rw [if_pos ⟨h, hz⟩]
      obtain ⟨⟨hz1, hz2⟩, hz3, hz4⟩ := id hz
      by_cases hrW : W < r.1
      · rw [if_pos hrW]
        repeat' ((conv => whnf); first
          | refine br_dec (fun hd => ?_) (fun hd => absurd (by first | assumption) hd)
          | (exfalso; omega)
          | refine call_i (valid_spec W l (by omega)) false (by repeat' (first | exact trivial | refine And.intro ?_ ?_ | with_reducible rfl | exact (fun h => by cases h) | exact rfl)) rfl ?_
          | refine call_i (sized_spec r.1 r.2) false (by repeat' (first | exact trivial | refine And.intro ?_ ?_ | with_reducible rfl | exact (fun h => by cases h) | exact rfl)) rfl ?_
          | refine seq_go ?_
          | refine draw_i (by kernel_rfl) ?_
          | refine arith_in (by omega) ?_
          | refine need_i (p := (T.row _).eq = true) (by kernel_rfl) ?_
          | refine need_i (by omega) ?_
          | refine br_not ?_
          | refine br_dec (fun hd => ?_) (fun hd => ?_)
          | refine br_lt (fun hlt => ?_) (fun hlt => ?_)
          | refine br_le (fun hle => ?_) (fun hle => ?_)
          | refine br_eq (fun heq => ?_) (fun heq => ?_)
          | refine idx_map (by omega) (fun x hx => ?_)
          | refine live_i rfl (fun h => by cases h) ?_
          | refine ret_i ?_)
        conv => whnf
        exact ⟨_, rfl, ⟨⟨rfl, rfl, trivial⟩, ⟨rfl, rfl, rfl, trivial⟩, rfl, trivial⟩, rfl⟩
      · rw [if_neg hrW]
        have hbp := bestP_bd W l r.1 (by omega)
        have htp := topP_bd h (x := bestP W l r.1) (w := r.1) hbp.1 hbp.2
        repeat' ((conv => whnf); first
          | refine br_dec (fun hd => ?_) (fun hd => absurd (by first | assumption) hd)
          | (exfalso; omega)
          | refine call_i (valid_spec W l (by omega)) false (by repeat' (first | exact trivial | refine And.intro ?_ ?_ | with_reducible rfl | exact (fun h => by cases h) | exact rfl)) rfl ?_
          | refine call_i (sized_spec r.1 r.2) false (by repeat' (first | exact trivial | refine And.intro ?_ ?_ | with_reducible rfl | exact (fun h => by cases h) | exact rfl)) rfl ?_
          | refine seq_go ?_
          | refine draw_i (by kernel_rfl) ?_
          | refine arith_in (by omega) ?_
          | refine need_i (p := (T.row _).eq = true) (by kernel_rfl) ?_
          | refine need_i (by omega) ?_
          | refine br_not ?_
          | refine br_dec (fun hd => ?_) (fun hd => ?_)
          | refine br_lt (fun hlt => ?_) (fun hlt => ?_)
          | refine br_le (fun hle => ?_) (fun hle => ?_)
          | refine br_eq (fun heq => ?_) (fun heq => ?_)
          | refine idx_map (by omega) (fun x hx => ?_)
          | refine live_i rfl (fun h => by cases h) ?_
          | refine ret_i ?_)
        refine loop_i (A := Nat) (fun j => mkSt [(2, .box 2 0), (3, .box 3 0), (4, .box 4 0), (5, .box 5 0), (7, .box 7 0), (33, .sl (l.map stepV)), (34, I l.length), (35, I j)]
            [(2, [I W, .sl (l.map stepV)]), (3, [I r.1, I r.2]), (4, [I 0, .lit (.slice none 0 0)]), (5, [I 0, I 0, I 0]), (7, [I (bX W l r.1 j), I (bY W l r.1 j), I (bZ W l r.1 j)])] [])
          (fun j => j ≤ l.length ∧ ∀ i, i < j → begP W l i + r.1 ≤ W) (fun j => l.length - j) 0 ?_ ⟨by omega, fun i hi => by omega⟩ (fun j hj' => ?_)
        · refine le_mk ?_ ?_ ?_
          all_goals repeat' (first | exact trivial | refine And.intro ?_ ?_ | with_reducible rfl | exact Nat.le_refl _ | omega | exact rfl)
        · obtain ⟨hj1, hj2⟩ := hj'
          have fin : ∀ (hj0 : j ≠ 0) (_ : j < l.length → W < begP W l j + r.1), bX W l r.1 j = bestP W l r.1 ∧ bY W l r.1 j = topP l (bestP W l r.1) r.1 ∧ bZ W l r.1 j = wasteP l (bestP W l r.1) r.1 := fun hj0 hjW => by
            have e := best_end h hz1 hj0 hj1 (hj2 (j - 1) (by omega)) hjW
            unfold bX bY bZ
            rw [if_neg hj0, if_neg hj0, if_neg hj0, e]
            exact ⟨rfl, rfl, rfl⟩
          rcases Nat.lt_or_ge j l.length with hkl | hkl
          · obtain ⟨s, hsj⟩ : ∃ s, l[j]? = some s := ⟨l[j], by simp⟩
            have hsj' : l[(j : Int).toNat]? = some s := by rw [show (j : Int).toNat = j by omega]; exact hsj
            have hb := begP_some (W := W) hsj
            have hsn := begP_nn h j
            rw [hb] at hsn
            have hsl := (h.2.2.2 j s hsj).1
            by_cases hin : s.1 + r.1 ≤ W
            · have htop := topP_bd h (x := s.1) (w := r.1) hsn hin
              have hnx := best_step h hz1 hsj hin
              have hj2' : ∀ i, i < j + 1 → begP W l i + r.1 ≤ W := fun i hi => by
                rcases Nat.lt_or_ge i j with hij | hij
                · exact hj2 i hij
                · have : i = j := by omega
                  subst this
                  omega
              repeat' ((conv => whnf); first
                | (exfalso; omega)
                | refine idx_at hsj' ?_
                | refine call_i (top_spec h (by omega) ⟨hsn, hz1, hin⟩) false (by repeat' (first | exact trivial | refine And.intro ?_ ?_ | with_reducible rfl | exact (fun h => by cases h) | exact rfl)) rfl ?_
                | refine seq_go ?_
                | refine draw_i (by kernel_rfl) ?_
                | refine arith_in (by omega) ?_
                | refine need_i (p := (T.row _).eq = true) (by kernel_rfl) ?_
                | refine need_i (by omega) ?_
                | refine br_not ?_
                | refine br_dec (fun hd => ?_) (fun hd => ?_)
                | refine br_lt (fun hlt => ?_) (fun hlt => ?_)
                | refine br_le (fun hle => ?_) (fun hle => ?_)
                | refine br_eq (fun heq => ?_) (fun heq => ?_)
                | refine idx_map (by omega) (fun x hx => ?_)
                | refine live_i rfl (fun h => by cases h) ?_
                | refine ret_i ?_)
              · refine ⟨j + 1, ?_, ⟨by omega, hj2'⟩, by omega⟩
                obtain ⟨e1, e2, e3⟩ := hnx.1 hlt
                refine le_mk ?_ ?_ ?_
                all_goals repeat' (first | exact trivial | refine And.intro ?_ ?_ | with_reducible rfl | exact Nat.le_refl _ | omega | exact rfl)
              · refine ⟨j + 1, ?_, ⟨by omega, hj2'⟩, by omega⟩
                obtain ⟨e1, e2, e3⟩ := hnx.2 (by omega)
                refine le_mk ?_ ?_ ?_
                all_goals repeat' (first | exact trivial | refine And.intro ?_ ?_ | with_reducible rfl | exact Nat.le_refl _ | omega | exact rfl)
            · have hj0 : j ≠ 0 := by
                rintro rfl
                have := h.beg0
                omega
              obtain ⟨e1, e2, e3⟩ := fin hj0 (fun _ => by omega)
              rw [e1, e2, e3]
              by_cases hlim : 1000000 < (posP W l r.1).2.1 + r.2
              · rw [if_pos hlim]
                change 1000000 < topP l (bestP W l r.1) r.1 + r.2 at hlim
                repeat' ((conv => whnf); first
                  | (exfalso; omega)
                  | refine idx_at hsj' ?_
                  | refine seq_go ?_
                  | refine arith_in (by omega) ?_
                  | refine need_i (p := (T.row _).eq = true) (by kernel_rfl) ?_
                  | refine need_i (by omega) ?_
                  | refine br_not ?_
                  | refine br_dec (fun hd => ?_) (fun hd => ?_)
                  | refine br_lt (fun hlt => ?_) (fun hlt => ?_)
                  | refine br_le (fun hle => ?_) (fun hle => ?_)
                  | refine br_eq (fun heq => ?_) (fun heq => ?_)
                  | refine idx_map (by omega) (fun x hx => ?_)
                  | refine live_i rfl (fun h => by cases h) ?_
                  | refine ret_i ?_)
                conv => whnf
                exact ⟨_, rfl, ⟨⟨rfl, rfl, trivial⟩, ⟨rfl, rfl, rfl, trivial⟩, rfl, trivial⟩, rfl⟩
              · rw [if_neg hlim]
                change ¬ 1000000 < topP l (bestP W l r.1) r.1 + r.2 at hlim
                repeat' ((conv => whnf); first
                  | (exfalso; omega)
                  | refine idx_at hsj' ?_
                  | refine draw_c [(7, 7), (4, 4)] ⟨rfl, rfl, trivial⟩ (by kernel_rfl) ?_
                  | refine call_i (raise_spec h hl ⟨hbp.1, hz1, hbp.2⟩) false (by repeat' (first | exact trivial | refine And.intro ?_ ?_ | with_reducible rfl | exact (fun h => by cases h) | exact rfl)) rfl ?_
                  | refine seq_go ?_
                  | refine arith_in (by omega) ?_
                  | refine need_i (p := (T.row _).eq = true) (by kernel_rfl) ?_
                  | refine need_i (by omega) ?_
                  | refine br_not ?_
                  | refine br_dec (fun hd => ?_) (fun hd => ?_)
                  | refine br_lt (fun hlt => ?_) (fun hlt => ?_)
                  | refine br_le (fun hle => ?_) (fun hle => ?_)
                  | refine br_eq (fun heq => ?_) (fun heq => ?_)
                  | refine idx_map (by omega) (fun x hx => ?_)
                  | refine live_i rfl (fun h => by cases h) ?_
                  | refine ret_i ?_)
                conv => whnf
                exact ⟨_, rfl, ⟨⟨rfl, rfl, trivial⟩, ⟨rfl, rfl, rfl, trivial⟩, rfl, trivial⟩, rfl⟩
          · have hj0 : j ≠ 0 := by have := h.pos; omega
            obtain ⟨e1, e2, e3⟩ := fin hj0 (fun _ => by omega)
            rw [e1, e2, e3]
            by_cases hlim : 1000000 < (posP W l r.1).2.1 + r.2
            · rw [if_pos hlim]
              change 1000000 < topP l (bestP W l r.1) r.1 + r.2 at hlim
              repeat' ((conv => whnf); first
                | (exfalso; omega)
                | refine seq_go ?_
                | refine arith_in (by omega) ?_
                | refine need_i (p := (T.row _).eq = true) (by kernel_rfl) ?_
                | refine need_i (by omega) ?_
                | refine br_not ?_
                | refine br_dec (fun hd => ?_) (fun hd => ?_)
                | refine br_lt (fun hlt => ?_) (fun hlt => ?_)
                | refine br_le (fun hle => ?_) (fun hle => ?_)
                | refine br_eq (fun heq => ?_) (fun heq => ?_)
                | refine idx_map (by omega) (fun x hx => ?_)
                | refine live_i rfl (fun h => by cases h) ?_
                | refine ret_i ?_)
              conv => whnf
              exact ⟨_, rfl, ⟨⟨rfl, rfl, trivial⟩, ⟨rfl, rfl, rfl, trivial⟩, rfl, trivial⟩, rfl⟩
            · rw [if_neg hlim]
              change ¬ 1000000 < topP l (bestP W l r.1) r.1 + r.2 at hlim
              repeat' ((conv => whnf); first
                | (exfalso; omega)
                | refine draw_c [(7, 7), (4, 4)] ⟨rfl, rfl, trivial⟩ (by kernel_rfl) ?_
                | refine call_i (raise_spec h hl ⟨hbp.1, hz1, hbp.2⟩) false (by repeat' (first | exact trivial | refine And.intro ?_ ?_ | with_reducible rfl | exact (fun h => by cases h) | exact rfl)) rfl ?_
                | refine seq_go ?_
                | refine arith_in (by omega) ?_
                | refine need_i (p := (T.row _).eq = true) (by kernel_rfl) ?_
                | refine need_i (by omega) ?_
                | refine br_not ?_
                | refine br_dec (fun hd => ?_) (fun hd => ?_)
                | refine br_lt (fun hlt => ?_) (fun hlt => ?_)
                | refine br_le (fun hle => ?_) (fun hle => ?_)
                | refine br_eq (fun heq => ?_) (fun heq => ?_)
                | refine idx_map (by omega) (fun x hx => ?_)
                | refine live_i rfl (fun h => by cases h) ?_
                | refine ret_i ?_)
              conv => whnf
              exact ⟨_, rfl, ⟨⟨rfl, rfl, trivial⟩, ⟨rfl, rfl, rfl, trivial⟩, rfl, trivial⟩, rfl⟩
    · rw [if_neg (fun hh => hz hh.2)]
      repeat' ((conv => whnf); first
        | refine br_dec (fun hd => ?_) (fun hd => absurd h hd)
        | refine br_dec (fun hd => absurd hd hz) (fun hd => ?_)
        | refine call_i (valid_spec W l (by omega)) false (by repeat' (first | exact trivial | refine And.intro ?_ ?_ | with_reducible rfl | exact (fun h => by cases h) | exact rfl)) rfl ?_
        | refine call_i (sized_spec r.1 r.2) false (by repeat' (first | exact trivial | refine And.intro ?_ ?_ | with_reducible rfl | exact (fun h => by cases h) | exact rfl)) rfl ?_
        | refine seq_go ?_
        | refine draw_i (by kernel_rfl) ?_
        | refine arith_in (by omega) ?_
        | refine need_i (p := (T.row _).eq = true) (by kernel_rfl) ?_
        | refine need_i (by omega) ?_
        | refine br_not ?_
        | refine br_dec (fun hd => ?_) (fun hd => ?_)
        | refine br_lt (fun hlt => ?_) (fun hlt => ?_)
        | refine br_le (fun hle => ?_) (fun hle => ?_)
        | refine br_eq (fun heq => ?_) (fun heq => ?_)
        | refine idx_map (by omega) (fun x hx => ?_)
        | refine live_i rfl (fun h => by cases h) ?_
        | refine ret_i ?_)
      conv => whnf
      exact ⟨_, rfl, ⟨⟨rfl, rfl, trivial⟩, ⟨rfl, rfl, rfl, trivial⟩, rfl, trivial⟩, rfl⟩
  · rw [if_neg (fun hh => h hh.1)]
    repeat' ((conv => whnf); first
      | refine br_dec (fun hd => absurd hd (by assumption)) (fun hd => ?_)
      | refine call_i (valid_spec W l (by omega)) false (by repeat' (first | exact trivial | refine And.intro ?_ ?_ | with_reducible rfl | exact (fun h => by cases h) | exact rfl)) rfl ?_
      | refine seq_go ?_
      | refine draw_i (by kernel_rfl) ?_
      | refine arith_in (by omega) ?_
      | refine need_i (p := (T.row _).eq = true) (by kernel_rfl) ?_
      | refine need_i (by omega) ?_
      | refine br_not ?_
      | refine br_dec (fun hd => ?_) (fun hd => ?_)
      | refine br_lt (fun hlt => ?_) (fun hlt => ?_)
      | refine br_le (fun hle => ?_) (fun hle => ?_)
      | refine br_eq (fun heq => ?_) (fun heq => ?_)
      | refine idx_map (by omega) (fun x hx => ?_)
      | refine live_i rfl (fun h => by cases h) ?_
      | refine ret_i ?_)
    conv => whnf
    exact ⟨_, rfl, ⟨⟨rfl, rfl, trivial⟩, ⟨rfl, rfl, rfl, trivial⟩, rfl, trivial⟩, rfl⟩
theorem Place_spec {W : Int} {l : List (Int × Int)} {r : Int × Int} (hl : l.length ≤ 10000) : Sp 12 [envV W l, stepV r] (placeR W l r) := sp_of Try.func12 (by kernel_rfl) (by kernel_rfl) (Place_vc hl)
end Go.Proofs.Env41
