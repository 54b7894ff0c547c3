/-
  The functions of the envelopes, walked: valid envelopes, equality, sizes, ranges.
-/
import Derived.Test.YtbmbfifobonfjaaW1
set_option linter.unusedVariables false
set_option linter.unusedSimpArgs false
namespace Go.Proofs.Env41
open Go Go.Proofs Go.Ab
set_option maxRecDepth 100000

theorem br_pair {a b c d : Int} {A B : Prop} (h1 : a = b ∧ c = d → A) (h2 : ¬ (a = b ∧ c = d) → B) : branch (andB (eqB a b) (andB (eqB c d) true)) A B := by
  refine branch_s (fun h => h1 ?_) (fun h => h2 ?_)
  · rw [andB_eq, andB_eq] at h
    simp only [Bool.and_true, Bool.and_eq_true, eqB_t] at h
    exact h
  · rw [andB_eq, andB_eq] at h
    simp only [Bool.and_true, Bool.and_eq_false_iff, eqB_f] at h
    rintro ⟨h3, h4⟩
    rcases h with h | h <;> contradiction
theorem br_three {a b c d e f : Int} {A B : Prop} (h1 : a = b ∧ c = d ∧ e = f → A) (h2 : ¬ (a = b ∧ c = d ∧ e = f) → B) : branch (andB (eqB a b) (andB (eqB c d) (andB (eqB e f) true))) A B := by
  refine branch_s (fun h => h1 ?_) (fun h => h2 ?_)
  · rw [andB_eq, andB_eq, andB_eq] at h
    simp only [Bool.and_true, Bool.and_eq_true, eqB_t] at h
    exact h
  · rw [andB_eq, andB_eq, andB_eq] at h
    simp only [Bool.and_true, Bool.and_eq_false_iff, eqB_f] at h
    rintro ⟨h3, h4, h5⟩
    rcases h with h | h | h <;> contradiction

theorem theirs_vc (W : Int) (l : List (Int × Int)) (hl : l.length ≤ 100000) : fnVC T Try.prog Try.f16 [envV W l] (envV W l) := by
  have hs : (l.map stepV).length = l.length := by simp
  repeat' ((conv => whnf); first
    | refine seq_go ?_
    | refine draw_i (by kernel_rfl) ?_
    | refine arith_in (by omega) ?_
    | refine need_i (p := (T.row _).eq = true) (by kernel_rfl) ?_
    | refine need_i (by omega) ?_
    | refine br_not ?_
    | refine br_dec (fun hd => ?_) (fun hd => ?_)
    | refine br_lt (fun hlt => ?_) (fun hlt => ?_)
    | refine br_le (fun hle => ?_) (fun hle => ?_)
    | refine br_eq (fun heq => ?_) (fun heq => ?_)
    | refine idx_map (by omega) (fun x hx => ?_)
    | refine live_i rfl (fun h => by cases h) ?_
    | refine ret_i ?_)
  refine loop_i (A := Nat) (fun j => mkSt [(2, .box 2 0), (3, .box 3 0), (10, .sl (l.map stepV)), (11, I l.length), (12, I j)] [(2, [I 0, .lit (.slice none 0 0)]), (3, [I W, .arr 20 j])] [(20, ⟨j, .own, 84, (l.take j).map stepV⟩)])
    (fun j => j ≤ l.length) (fun j => l.length - j) 0 ?_ (by omega) (fun j hj' => ?_)
  · refine le_mk ?_ ?_ ?_
    all_goals repeat' (first | exact trivial | refine And.intro ?_ ?_ | with_reducible rfl | exact Nat.le_refl _ | omega | exact rfl)
  · change j ≤ l.length at hj'
    repeat' ((conv => whnf); first
      | refine need_app rfl (.inl rfl) rfl (of_decide_eq_true rfl) (one_cells rfl) (by show (List.map stepV (l.take j)).length + 1 ≤ _; simp; omega) ?_
      | refine seq_go ?_
      | refine draw_i (by kernel_rfl) ?_
      | refine arith_in (by omega) ?_
      | refine need_i (p := (T.row _).eq = true) (by kernel_rfl) ?_
      | refine need_i (by omega) ?_
      | refine br_not ?_
      | refine br_dec (fun hd => ?_) (fun hd => ?_)
      | refine br_lt (fun hlt => ?_) (fun hlt => ?_)
      | refine br_le (fun hle => ?_) (fun hle => ?_)
      | refine br_eq (fun heq => ?_) (fun heq => ?_)
      | refine idx_map (by omega) (fun x hx => ?_)
      | refine live_i rfl (fun h => by cases h) ?_
      | refine ret_i ?_)
    · have hj2 : (j : Int).toNat = j := by omega
      rw [hj2] at hx
      refine ⟨j + 1, ?_, by omega, by omega⟩
      have ht : (l.take (j + 1)) = l.take j ++ [x] := by rw [List.take_add_one, hx]; rfl
      refine le_mk ?_ ?_ ?_
      all_goals repeat' (first | exact trivial | refine And.intro ?_ ?_ | with_reducible rfl | exact Nat.le_refl _ | omega | exact rfl)
      · show List.map stepV (l.take j) ++ [stepV x] = List.map stepV (l.take (j + 1))
        rw [ht]; simp
    · have : j = l.length := by omega
      subst this
      conv => whnf
      refine ⟨⟨⟨rfl, ⟨rfl, (fun h => by cases h), ?_⟩, trivial⟩, trivial⟩, rfl, fun _ h => by cases h⟩
      show List.map stepV (l.take l.length) = _
      rw [List.take_length]
theorem theirs_spec (W : Int) (l : List (Int × Int)) (hl : l.length ≤ 100000) : Sp 16 [envV W l] (envV W l) := sp_of Try.func16 (by kernel_rfl) (by kernel_rfl) (theirs_vc W l hl)

theorem equal_vc (W W' : Int) (l l' : List (Int × Int)) (hl : l.length ≤ 100000) : fnVC T Try.prog Try.f15 [envV W l, envV W' l'] (B (decB (W = W' ∧ l = l'))) := by
  have hs : (l.map stepV).length = l.length := by simp
  have hs' : (l'.map stepV).length = l'.length := by simp
  repeat' ((conv => whnf); first
    | refine seq_go ?_
    | refine draw_i (by kernel_rfl) ?_
    | refine arith_in (by omega) ?_
    | refine need_i (p := (T.row _).eq = true) (by kernel_rfl) ?_
    | refine need_i (by omega) ?_
    | refine br_not ?_
    | refine br_dec (fun hd => ?_) (fun hd => ?_)
    | refine br_lt (fun hlt => ?_) (fun hlt => ?_)
    | refine br_le (fun hle => ?_) (fun hle => ?_)
    | refine br_eq (fun heq => ?_) (fun heq => ?_)
    | refine idx_map (by omega) (fun x hx => ?_)
    | refine live_i rfl (fun h => by cases h) ?_
    | refine ret_i ?_)
  · have hll : l.length = l'.length := by omega
    refine loop_i (A := Nat) (fun j => mkSt [(2, .box 2 0), (3, .box 3 0), (5, I j)] [(2, [I W, .sl (l.map stepV)]), (3, [I W', .sl (l'.map stepV)])] []) (fun j => j ≤ l.length ∧ l.take j = l'.take j) (fun j => l.length - j) 0 ?_ ⟨by omega, by simp⟩ (fun j hj' => ?_)
    · refine le_mk ?_ ?_ ?_
      all_goals repeat' (first | exact trivial | refine And.intro ?_ ?_ | with_reducible rfl | exact Nat.le_refl _ | omega | exact rfl)
    · obtain ⟨hj1, hj2⟩ := hj'
      have hj3 : (j : Int).toNat = j := by omega
      repeat' ((conv => whnf); first
        | refine br_pair (fun hp => ?_) (fun hp => ?_)
        | refine idx_map (by rw [hj3]; omega) (fun x hx => ?_)
        | refine seq_go ?_
        | refine draw_i (by kernel_rfl) ?_
        | refine arith_in (by omega) ?_
        | refine need_i (p := (T.row _).eq = true) (by kernel_rfl) ?_
        | refine need_i (by omega) ?_
        | refine br_not ?_
        | refine br_dec (fun hd => ?_) (fun hd => ?_)
        | refine br_lt (fun hlt => ?_) (fun hlt => ?_)
        | refine br_le (fun hle => ?_) (fun hle => ?_)
        | refine br_eq (fun heq => ?_) (fun heq => ?_)
        | refine idx_map (by omega) (fun x hx => ?_)
        | refine live_i rfl (fun h => by cases h) ?_
        | refine ret_i ?_)
      · rename_i x1 hx1
        have hx2 := hx
        rw [hj3] at hx1 hx2
        have hxx : x1 = x := Prod.ext hp.1 hp.2
        refine ⟨j + 1, ?_, ⟨by omega, ?_⟩, by omega⟩
        · refine le_mk ?_ ?_ ?_
          all_goals repeat' (first | exact trivial | refine And.intro ?_ ?_ | with_reducible rfl | exact Nat.le_refl _ | omega | exact rfl)
        · rw [List.take_add_one, List.take_add_one, hj2, hx1, hx2, hxx]
      · rename_i x1 hx1
        have hx2 := hx
        rw [hj3] at hx1 hx2
        refine ret_bool (dec_retf ?_)
        rintro ⟨_, rfl⟩
        rw [hx1] at hx2
        cases hx2
        exact hp ⟨rfl, rfl⟩
      · refine ret_bool (dec_ret ⟨by omega, ?_⟩)
        have : j = l.length := by omega
        subst this
        rw [List.take_length, hll, List.take_length] at hj2
        exact hj2
  · refine ret_bool (dec_retf ?_)
    rintro ⟨_, rfl⟩
    exact heq rfl
  · exact ret_bool (dec_retf (fun h => by omega))
theorem equal_spec (W W' : Int) (l l' : List (Int × Int)) (hl : l.length ≤ 100000) : Sp 15 [envV W l, envV W' l'] (B (decB (W = W' ∧ l = l'))) := sp_of Try.func15 (by kernel_rfl) (by kernel_rfl) (equal_vc W W' l l' hl)

theorem okAt_i (W : Int) (l : List (Int × Int)) (j : Nat) : okAt W l j ↔ ∀ s, l[(j : Int).toNat]? = some s → s.1 < W ∧ 0 ≤ s.2 ∧ s.2 ≤ 1000000 ∧ (0 < (j : Int) → ∀ r, l[((j : Int) - 1).toNat]? = some r → r.1 < s.1 ∧ r.2 ≠ s.2) := by
  have h1 : (j : Int).toNat = j := by omega
  have h2 : ((j : Int) - 1).toNat = j - 1 := by omega
  rw [h1, h2]
  unfold okAt
  simp only [Int.natCast_pos]
theorem rvalid_vc (W : Int) (l : List (Int × Int)) (hl : l.length ≤ 100000) : fnVC T Try.prog Try.f17 [envV W l] (B (decB (Val W l))) := by
  have hs : (l.map stepV).length = l.length := by simp
  repeat' ((conv => whnf); first
    | refine seq_go ?_
    | refine draw_i (by kernel_rfl) ?_
    | refine arith_in (by omega) ?_
    | refine need_i (p := (T.row _).eq = true) (by kernel_rfl) ?_
    | refine need_i (by omega) ?_
    | refine br_not ?_
    | refine br_dec (fun hd => ?_) (fun hd => ?_)
    | refine br_lt (fun hlt => ?_) (fun hlt => ?_)
    | refine br_le (fun hle => ?_) (fun hle => ?_)
    | refine br_eq (fun heq => ?_) (fun heq => ?_)
    | refine idx_map (by omega) (fun x hx => ?_)
    | refine live_i rfl (fun h => by cases h) ?_
    | refine ret_i ?_)
  · refine ret_bool (dec_retf (fun h => ?_))
    obtain ⟨h1, h2, _⟩ := h
    omega
  · refine ret_bool (dec_retf (fun h => ?_))
    obtain ⟨h1, h2, _⟩ := h
    omega
  · refine ret_bool (dec_retf (fun h => ?_))
    have := h.pos
    omega
  · have h0 : ∃ s, l[0]? = some s ∧ s.1 = 0 := ⟨x, hx, heq⟩
    clear heq hx
    refine loop_i (A := Nat) (fun j => mkSt [(1, .box 1 0), (3, I j)] [(1, [I W, .sl (l.map stepV)])] []) (fun j => j ≤ l.length ∧ ∀ i, i < j → okAt W l i) (fun j => l.length - j) 0 ?_ ⟨by omega, fun i hi => by omega⟩ (fun j hj' => ?_)
    · refine le_mk ?_ ?_ ?_
      all_goals repeat' (first | exact trivial | refine And.intro ?_ ?_ | with_reducible rfl | exact Nat.le_refl _ | omega | exact rfl)
    · obtain ⟨hj1, hj2⟩ := hj'
      have bad : ¬ okAt W l j → ¬ Val W l := fun h hv => h (hv.2.2.2 j)
      have okJ := okAt_i W l j
      repeat' ((conv => whnf); first
        | refine seq_go ?_
        | refine draw_i (by kernel_rfl) ?_
        | refine arith_in (by omega) ?_
        | refine need_i (p := (T.row _).eq = true) (by kernel_rfl) ?_
        | refine need_i (by omega) ?_
        | refine br_not ?_
        | refine br_dec (fun hd => ?_) (fun hd => ?_)
        | refine br_lt (fun hlt => ?_) (fun hlt => ?_)
        | refine br_le (fun hle => ?_) (fun hle => ?_)
        | refine br_eq (fun heq => ?_) (fun heq => ?_)
        | refine idx_map (by omega) (fun x hx => ?_)
        | refine live_i rfl (fun h => by cases h) ?_
        | refine ret_i ?_)
      iterate 5
        (· refine ret_bool (dec_retf (bad (fun hok => ?_)))
           obtain ⟨h1, h2, h3, h4⟩ := okJ.1 hok _ (by assumption)
           first
           | omega
           | (have h5 := h4 (by assumption) _ (by assumption)
              omega))
      · rename_i x1 hx1 _ _ _ x2 hx2
        have hok : okAt W l j := okJ.2 (fun s hs => by
          rw [hs] at hx1; cases hx1
          refine ⟨by omega, by omega, by omega, fun hp r hr => ?_⟩
          rw [hr] at hx2; cases hx2
          rw [hr] at hx; cases hx
          exact ⟨by omega, by omega⟩)
        refine ⟨j + 1, ?_, ⟨by omega, fun i hi => ?_⟩, by omega⟩
        · refine le_mk ?_ ?_ ?_
          all_goals repeat' (first | exact trivial | refine And.intro ?_ ?_ | with_reducible rfl | exact Nat.le_refl _ | omega | exact rfl)
        · rcases Nat.lt_or_ge i j with h | h
          · exact hj2 i h
          · have : i = j := by omega
            subst this; exact hok
      · have hok : okAt W l j := okJ.2 (fun s hs => by
          rw [hs] at hx; cases hx
          exact ⟨by omega, by omega, by omega, fun hp r hr => by omega⟩)
        refine ⟨j + 1, ?_, ⟨by omega, fun i hi => ?_⟩, by omega⟩
        · refine le_mk ?_ ?_ ?_
          all_goals repeat' (first | exact trivial | refine And.intro ?_ ?_ | with_reducible rfl | exact Nat.le_refl _ | omega | exact rfl)
        · rcases Nat.lt_or_ge i j with h | h
          · exact hj2 i h
          · have : i = j := by omega
            subst this; exact hok
      · refine ret_bool (dec_ret ⟨by omega, by omega, h0, fun i => ?_⟩)
        rcases Nat.lt_or_ge i j with h | h
        · exact hj2 i h
        · intro s hs
          rw [List.getElem?_eq_none (by omega)] at hs; cases hs
  · refine ret_bool (dec_retf (fun h => ?_))
    obtain ⟨_, _, ⟨s, h3, h4⟩, _⟩ := h
    have e : l[0]? = some x := by assumption
    rw [h3] at e; cases e
    exact heq h4
theorem rvalid_spec (W : Int) (l : List (Int × Int)) (hl : l.length ≤ 100000) : Sp 17 [envV W l] (B (decB (Val W l))) := sp_of Try.func17 (by kernel_rfl) (by kernel_rfl) (rvalid_vc W l hl)
theorem valid_vc (W : Int) (l : List (Int × Int)) (hl : l.length ≤ 100000) : fnVC T Try.prog Try.f23 [envV W l] (B (decB (Val W l))) := by
  have hs : (l.map stepV).length = l.length := by simp
  repeat' ((conv => whnf); first
    | refine call_i (in_spec _ _ _) false (by repeat' (first | exact trivial | refine And.intro ?_ ?_ | with_reducible rfl | exact rfl)) rfl ?_
    | refine seq_go ?_
    | refine draw_i (by kernel_rfl) ?_
    | refine arith_in (by omega) ?_
    | refine need_i (p := (T.row _).eq = true) (by kernel_rfl) ?_
    | refine need_i (by omega) ?_
    | refine br_not ?_
    | refine br_dec (fun hd => ?_) (fun hd => ?_)
    | refine br_lt (fun hlt => ?_) (fun hlt => ?_)
    | refine br_le (fun hle => ?_) (fun hle => ?_)
    | refine br_eq (fun heq => ?_) (fun heq => ?_)
    | refine idx_map (by omega) (fun x hx => ?_)
    | refine live_i rfl (fun h => by cases h) ?_
    | refine ret_i ?_)
  · refine ret_bool (dec_retf (fun h => ?_))
    have := h.pos
    omega
  · have h0 : ∃ s, l[0]? = some s ∧ s.1 = 0 := ⟨x, hx, heq⟩
    clear heq hx
    refine loop_i (A := Nat) (fun j => mkSt [(1, .box 1 0), (24, .sl (l.map stepV)), (25, I l.length), (26, I j)] [(1, [I W, .sl (l.map stepV)])] []) (fun j => j ≤ l.length ∧ ∀ i, i < j → okAt W l i) (fun j => l.length - j) 0 ?_ ⟨by omega, fun i hi => by omega⟩ (fun j hj' => ?_)
    · refine le_mk ?_ ?_ ?_
      all_goals repeat' (first | exact trivial | refine And.intro ?_ ?_ | with_reducible rfl | exact Nat.le_refl _ | omega | exact rfl)
    · obtain ⟨hj1, hj2⟩ := hj'
      have bad : ¬ okAt W l j → ¬ Val W l := fun h hv => h (hv.2.2.2 j)
      have okJ := okAt_i W l j
      repeat' ((conv => whnf); first
        | refine call_i (in_spec _ _ _) false (by repeat' (first | exact trivial | refine And.intro ?_ ?_ | with_reducible rfl | exact rfl)) rfl ?_
        | refine seq_go ?_
        | refine draw_i (by kernel_rfl) ?_
        | refine arith_in (by omega) ?_
        | refine need_i (p := (T.row _).eq = true) (by kernel_rfl) ?_
        | refine need_i (by omega) ?_
        | refine br_not ?_
        | refine br_dec (fun hd => ?_) (fun hd => ?_)
        | refine br_lt (fun hlt => ?_) (fun hlt => ?_)
        | refine br_le (fun hle => ?_) (fun hle => ?_)
        | refine br_eq (fun heq => ?_) (fun heq => ?_)
        | refine idx_map (by omega) (fun x hx => ?_)
        | refine live_i rfl (fun h => by cases h) ?_
        | refine ret_i ?_)
      iterate 3
        (· refine ret_bool (dec_retf (bad (fun hok => ?_)))
           obtain ⟨h1, h2, h3, h4⟩ := okJ.1 hok _ (by assumption)
           first
           | omega
           | (have h5 := h4 (by assumption) _ (by assumption)
              omega))
      · rename_i x1 hx1 _ x2 hx2
        have hok : okAt W l j := okJ.2 (fun s hs => by
          rw [hs] at hx1; cases hx1
          refine ⟨by omega, by omega, by omega, fun hp r hr => ?_⟩
          rw [hr] at hx2; cases hx2
          rw [hr] at hx; cases hx
          exact ⟨by omega, by omega⟩)
        refine ⟨j + 1, ?_, ⟨by omega, fun i hi => ?_⟩, by omega⟩
        · refine le_mk ?_ ?_ ?_
          all_goals repeat' (first | exact trivial | refine And.intro ?_ ?_ | with_reducible rfl | exact Nat.le_refl _ | omega | exact rfl)
        · rcases Nat.lt_or_ge i j with h | h
          · exact hj2 i h
          · have : i = j := by omega
            subst this; exact hok
      · have hok : okAt W l j := okJ.2 (fun s hs => by
          rw [hs] at hx; cases hx
          exact ⟨by omega, by omega, by omega, fun hp r hr => by omega⟩)
        refine ⟨j + 1, ?_, ⟨by omega, fun i hi => ?_⟩, by omega⟩
        · refine le_mk ?_ ?_ ?_
          all_goals repeat' (first | exact trivial | refine And.intro ?_ ?_ | with_reducible rfl | exact Nat.le_refl _ | omega | exact rfl)
        · rcases Nat.lt_or_ge i j with h | h
          · exact hj2 i h
          · have : i = j := by omega
            subst this; exact hok
      · refine ret_bool (dec_retf (bad (fun hok => ?_)))
        obtain ⟨h1, h2, h3, h4⟩ := okJ.1 hok _ (by assumption)
        omega
      · refine ret_bool (dec_ret ⟨by omega, by omega, h0, fun i => ?_⟩)
        rcases Nat.lt_or_ge i j with h | h
        · exact hj2 i h
        · intro s hs
          rw [List.getElem?_eq_none (by omega)] at hs; cases hs
  · refine ret_bool (dec_retf (fun h => ?_))
    obtain ⟨_, _, ⟨s, h3, h4⟩, _⟩ := h
    have e : l[0]? = some x := by assumption
    rw [h3] at e; cases e
    exact heq h4
  · refine ret_bool (dec_retf (fun h => ?_))
    obtain ⟨h1, h2, _⟩ := h
    omega
theorem valid_spec (W : Int) (l : List (Int × Int)) (hl : l.length ≤ 100000) : Sp 23 [envV W l] (B (decB (Val W l))) := sp_of Try.func23 (by kernel_rfl) (by kernel_rfl) (valid_vc W l hl)

def SizedP (w h : Int) : Prop := (1 ≤ w ∧ w ≤ 2000) ∧ 1 ≤ h ∧ h ≤ 2000
theorem sized_vc (w h : Int) : fnVC T Try.prog Try.f36 [stepV (w, h)] (B (decB (SizedP w h))) := by
  repeat' ((conv => whnf); first
    | refine call_i (in_spec _ _ _) false (by repeat' (first | exact trivial | refine And.intro ?_ ?_ | with_reducible rfl | exact rfl)) rfl ?_
    | refine seq_go ?_
    | refine draw_i (by kernel_rfl) ?_
    | refine arith_in (by omega) ?_
    | refine need_i (p := (T.row _).eq = true) (by kernel_rfl) ?_
    | refine need_i (by omega) ?_
    | refine br_not ?_
    | refine br_dec (fun hd => ?_) (fun hd => ?_)
    | refine br_lt (fun hlt => ?_) (fun hlt => ?_)
    | refine br_le (fun hle => ?_) (fun hle => ?_)
    | refine br_eq (fun heq => ?_) (fun heq => ?_)
    | refine idx_map (by omega) (fun x hx => ?_)
    | refine live_i rfl (fun h => by cases h) ?_
    | refine ret_i ?_)
  · exact ret_bool (dec_dec (by unfold SizedP; omega))
  · exact ret_bool (dec_retf (by unfold SizedP; omega))
theorem sized_spec (w h : Int) : Sp 36 [stepV (w, h)] (B (decB (SizedP w h))) := sp_of Try.func36 (by kernel_rfl) (by kernel_rfl) (sized_vc w h)
theorem rsized_vc (w h : Int) : fnVC T Try.prog Try.f39 [stepV (w, h)] (B (decB (SizedP w h))) := by
  repeat' ((conv => whnf); first
    | refine seq_go ?_
    | refine draw_i (by kernel_rfl) ?_
    | refine arith_in (by omega) ?_
    | refine need_i (p := (T.row _).eq = true) (by kernel_rfl) ?_
    | refine need_i (by omega) ?_
    | refine br_not ?_
    | refine br_dec (fun hd => ?_) (fun hd => ?_)
    | refine br_lt (fun hlt => ?_) (fun hlt => ?_)
    | refine br_le (fun hle => ?_) (fun hle => ?_)
    | refine br_eq (fun heq => ?_) (fun heq => ?_)
    | refine idx_map (by omega) (fun x hx => ?_)
    | refine live_i rfl (fun h => by cases h) ?_
    | refine ret_i ?_)
  all_goals first
    | exact ret_bool (dec_retf (by unfold SizedP; omega))
    | exact ret_bool (le_dec (by unfold SizedP; omega))
theorem rsized_spec (w h : Int) : Sp 39 [stepV (w, h)] (B (decB (SizedP w h))) := sp_of Try.func39 (by kernel_rfl) (by kernel_rfl) (rsized_vc w h)

/-- the range lies within the width -/
def InP (W x w : Int) : Prop := 0 ≤ x ∧ 1 ≤ w ∧ x + w ≤ W
theorem ranged_vc (W x w : Int) (l : List (Int × Int)) (hW : 1 ≤ W ∧ W ≤ 2000) : fnVC T Try.prog Try.f44 [envV W l, I x, I w] (B (decB (InP W x w))) := by
  repeat' ((conv => whnf); first
    | refine call_i (in_spec _ _ _) false (by repeat' (first | exact trivial | refine And.intro ?_ ?_ | with_reducible rfl | exact rfl)) rfl ?_
    | refine seq_go ?_
    | refine draw_i (by kernel_rfl) ?_
    | refine arith_in (by omega) ?_
    | refine need_i (p := (T.row _).eq = true) (by kernel_rfl) ?_
    | refine need_i (by omega) ?_
    | refine br_not ?_
    | refine br_dec (fun hd => ?_) (fun hd => ?_)
    | refine br_lt (fun hlt => ?_) (fun hlt => ?_)
    | refine br_le (fun hle => ?_) (fun hle => ?_)
    | refine br_eq (fun heq => ?_) (fun heq => ?_)
    | refine idx_map (by omega) (fun x hx => ?_)
    | refine live_i rfl (fun h => by cases h) ?_
    | refine ret_i ?_)
  all_goals first
    | exact ret_bool (dec_retf (by unfold InP; omega))
    | exact ret_bool (le_dec (by unfold InP; omega))
theorem ranged_spec (W x w : Int) (l : List (Int × Int)) (hW : 1 ≤ W ∧ W ≤ 2000) : Sp 44 [envV W l, I x, I w] (B (decB (InP W x w))) := sp_of Try.func44 (by kernel_rfl) (by kernel_rfl) (ranged_vc W x w l hW)
theorem rranged_vc (W x w : Int) (l : List (Int × Int)) (hW : 1 ≤ W ∧ W ≤ 2000) : fnVC T Try.prog Try.f40 [envV W l, I x, I w] (B (decB (InP W x w))) := by
  repeat' ((conv => whnf); first
    | refine seq_go ?_
    | refine draw_i (by kernel_rfl) ?_
    | refine arith_in (by omega) ?_
    | refine need_i (p := (T.row _).eq = true) (by kernel_rfl) ?_
    | refine need_i (by omega) ?_
    | refine br_not ?_
    | refine br_dec (fun hd => ?_) (fun hd => ?_)
    | refine br_lt (fun hlt => ?_) (fun hlt => ?_)
    | refine br_le (fun hle => ?_) (fun hle => ?_)
    | refine br_eq (fun heq => ?_) (fun heq => ?_)
    | refine idx_map (by omega) (fun x hx => ?_)
    | refine live_i rfl (fun h => by cases h) ?_
    | refine ret_i ?_)
  all_goals first
    | exact ret_bool (dec_retf (by unfold InP; omega))
    | exact ret_bool (le_dec (by unfold InP; omega))
theorem rranged_spec (W x w : Int) (l : List (Int × Int)) (hW : 1 ≤ W ∧ W ≤ 2000) : Sp 40 [envV W l, I x, I w] (B (decB (InP W x w))) := sp_of Try.func40 (by kernel_rfl) (by kernel_rfl) (rranged_vc W x w l hW)
end Go.Proofs.Env41
