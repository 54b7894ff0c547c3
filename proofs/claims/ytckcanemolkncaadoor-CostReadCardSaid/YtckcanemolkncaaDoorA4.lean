/-
  Numbers and words of the reference, walked.
-/
import Derived.Test.YtckcanemolkncaaDoorA2
set_option linter.unusedVariables false
set_option linter.unusedSimpArgs false
namespace Go.Proofs.Cost58
open Go Go.Proofs Go.Ab
set_option maxRecDepth 100000

/-- the number that the first k digits spell -/
noncomputable def dvS (s : ByteArray) : Nat → Int
  | 0 => 0
  | k + 1 => 10 * dvS s k + (byteAt s k - 48)
def digsS (s : ByteArray) (k : Nat) : Prop := ∀ j, j < k → 48 ≤ byteAt s j ∧ byteAt s j ≤ 57
open Classical in
noncomputable def numR (s : ByteArray) : Int := if s.size ≤ 10 ∧ digsS s s.size then dvS s s.size else 0
theorem dvS_bound (s : ByteArray) : ∀ k, digsS s k → 0 ≤ dvS s k ∧ dvS s k < 10 ^ k
  | 0, _ => ⟨Int.le_refl _, by show (0 : Int) < 1; decide⟩
  | k + 1, h => by
    obtain ⟨h1, h2⟩ := dvS_bound s k (fun j hj => h j (by omega))
    have := h k (by omega)
    have e : (10 : Int) ^ (k + 1) = 10 * 10 ^ k := by rw [Int.pow_succ]; omega
    rw [e]
    simp only [dvS]
    omega
theorem byteAt_range (s : ByteArray) (k : Nat) : 0 ≤ byteAt s k ∧ byteAt s k ≤ 255 := by
  unfold byteAt
  have := ((s[k]?).getD 0).toNat_lt
  omega
theorem pow_le10 : ∀ k : Nat, k ≤ 10 → (10 : Int) ^ k ≤ 10000000000 := by
  intro k hk
  have : k = 0 ∨ k = 1 ∨ k = 2 ∨ k = 3 ∨ k = 4 ∨ k = 5 ∨ k = 6 ∨ k = 7 ∨ k = 8 ∨ k = 9 ∨ k = 10 := by omega
  rcases this with rfl | rfl | rfl | rfl | rfl | rfl | rfl | rfl | rfl | rfl | rfl <;> decide
theorem num_vc (s : ByteArray) : fnVC T Tryd.prog Tryd.f68 [S s] (I (numR s)) := by
  rcases Nat.lt_or_ge 10 s.size with hbig | hsm
  · have e : numR s = 0 := by unfold numR; rw [if_neg (by omega)]
    rw [e]
    repeat' ((conv => whnf); first
      | refine seq_go ?_
      | refine draw_i (by kernel_rfl) ?_
      | refine arith_half (by omega) ?_
      | refine arith_in (by omega) ?_
      | refine arith_u (by omega) ?_
      | refine need_i (p := (T.row _).eq = true) (by kernel_rfl) ?_
      | refine need_i (by omega) ?_
      | refine br_not ?_
      | refine br_dec (fun hd => ?_) (fun hd => ?_)
      | refine br_lt (fun hlt => ?_) (fun hlt => ?_)
      | refine br_le (fun hle => ?_) (fun hle => ?_)
      | refine br_eq (fun heq => ?_) (fun heq => ?_)
      | refine idx_map (by omega) (fun x hx => ?_)
      | refine live_i rfl (fun h => by cases h) ?_
      | refine branch_s (fun hbb => ?_) (fun hbb => ?_)
      | refine ret_i ?_
      | refine retB_i ?_)
    refine loop_i (A := Nat) (fun k => mkSt [(0, S s), (3, I 0), (4, I 0)] [] []) (fun k => True) (fun k => 0) 0 ?_ trivial (fun k _ => ?_)
    · refine le_mk ?_ ?_ ?_ ?_
      all_goals repeat' (first | exact trivial | refine And.intro ?_ ?_ | with_reducible rfl | exact Nat.le_refl _ | omega | exact rfl)
    · repeat' ((conv => whnf); first
        | (exfalso; omega)
        | refine seq_go ?_
        | refine draw_i (by kernel_rfl) ?_
        | refine arith_half (by omega) ?_
        | refine arith_in (by omega) ?_
        | refine arith_u (by omega) ?_
        | refine need_i (p := (T.row _).eq = true) (by kernel_rfl) ?_
        | refine need_i (by omega) ?_
        | refine br_not ?_
        | refine br_dec (fun hd => ?_) (fun hd => ?_)
        | refine br_lt (fun hlt => ?_) (fun hlt => ?_)
        | refine br_le (fun hle => ?_) (fun hle => ?_)
        | refine br_eq (fun heq => ?_) (fun heq => ?_)
        | refine idx_map (by omega) (fun x hx => ?_)
        | refine live_i rfl (fun h => by cases h) ?_
        | refine branch_s (fun hbb => ?_) (fun hbb => ?_)
        | refine ret_i ?_
        | refine retB_i ?_)
      conv => whnf
      exact ret_int rfl
  · have hs10 : s.size ≤ 10 := hsm
    repeat' ((conv => whnf); first
      | refine seq_go ?_
      | refine draw_i (by kernel_rfl) ?_
      | refine arith_half (by omega) ?_
      | refine arith_in (by omega) ?_
      | refine arith_u (by omega) ?_
      | refine need_i (p := (T.row _).eq = true) (by kernel_rfl) ?_
      | refine need_i (by omega) ?_
      | refine br_not ?_
      | refine br_dec (fun hd => ?_) (fun hd => ?_)
      | refine br_lt (fun hlt => ?_) (fun hlt => ?_)
      | refine br_le (fun hle => ?_) (fun hle => ?_)
      | refine br_eq (fun heq => ?_) (fun heq => ?_)
      | refine idx_map (by omega) (fun x hx => ?_)
      | refine live_i rfl (fun h => by cases h) ?_
      | refine branch_s (fun hbb => ?_) (fun hbb => ?_)
      | refine ret_i ?_
      | refine retB_i ?_)
    refine loop_i (A := Nat) (fun k => mkSt [(0, S s), (3, I (dvS s k)), (4, I k)] [] []) (fun k => k ≤ s.size ∧ digsS s k) (fun k => s.size - k) 0 ?_ ⟨Nat.zero_le _, fun j hj => by omega⟩ (fun k hk => ?_)
    · refine le_mk ?_ ?_ ?_ ?_
      all_goals repeat' (first | exact trivial | refine And.intro ?_ ?_ | with_reducible rfl | exact Nat.le_refl _ | omega | exact rfl)
    · obtain ⟨hk1, hk2⟩ := hk
      obtain ⟨b1, b2⟩ := dvS_bound s k hk2
      have hb : dvS s k < 10000000000 := Int.lt_of_lt_of_le b2 (pow_le10 k (by omega))
      rcases Nat.lt_or_ge k s.size with hlt | hge
      · have hix : ((k : Int)).toNat = k := by omega
        have u0 := byteAt_range s k
        have stop : ¬ (48 ≤ byteAt s k ∧ byteAt s k ≤ 57) → (0 : Int) = numR s := fun h => by
          unfold numR; rw [if_neg (fun ⟨_, h2⟩ => h (h2 k hlt))]
        have hgo : 48 ≤ byteAt s k → byteAt s k ≤ 57 → digsS s (k + 1) := fun h1 h2 j hj => by
          rcases Nat.lt_or_ge j k with h | h
          · exact hk2 j h
          · have : j = k := by omega
            subst this; exact ⟨h1, h2⟩
        repeat' ((conv => whnf); first
          | (exfalso; omega)
          | refine arith_u8 (by omega) ?_
          | refine seq_go ?_
          | refine draw_i (by kernel_rfl) ?_
          | refine arith_half (by omega) ?_
          | refine arith_in (by omega) ?_
          | refine arith_u (by omega) ?_
          | refine need_i (p := (T.row _).eq = true) (by kernel_rfl) ?_
          | refine need_i (by omega) ?_
          | refine br_not ?_
          | refine br_dec (fun hd => ?_) (fun hd => ?_)
          | refine br_lt (fun hlt => ?_) (fun hlt => ?_)
          | refine br_le (fun hle => ?_) (fun hle => ?_)
          | refine br_eq (fun heq => ?_) (fun heq => ?_)
          | refine idx_map (by omega) (fun x hx => ?_)
          | refine live_i rfl (fun h => by cases h) ?_
          | refine branch_s (fun hbb => ?_) (fun hbb => ?_)
          | refine ret_i ?_
          | refine retB_i ?_)
        all_goals rw [hix] at *
        · conv => whnf
          exact ret_int (stop (by omega))
        · conv => whnf
          exact ret_int (stop (by omega))
        · conv => whnf
          refine ⟨k + 1, ?_, ⟨by omega, hgo (by assumption) (by assumption)⟩, by omega⟩
          refine le_mk ?_ ?_ ?_ ?_
          all_goals repeat' (first | exact trivial | refine And.intro ?_ ?_ | with_reducible rfl | exact Nat.le_refl _ | omega | exact rfl)
      · have hks : k = s.size := by omega
        have hres : dvS s k = numR s := by
          unfold numR
          rw [if_pos ⟨hs10, by rw [← hks]; exact hk2⟩, hks]
        repeat' ((conv => whnf); first
          | (exfalso; omega)
          | refine seq_go ?_
          | refine draw_i (by kernel_rfl) ?_
          | refine arith_half (by omega) ?_
          | refine arith_in (by omega) ?_
          | refine arith_u (by omega) ?_
          | refine need_i (p := (T.row _).eq = true) (by kernel_rfl) ?_
          | refine need_i (by omega) ?_
          | refine br_not ?_
          | refine br_dec (fun hd => ?_) (fun hd => ?_)
          | refine br_lt (fun hlt => ?_) (fun hlt => ?_)
          | refine br_le (fun hle => ?_) (fun hle => ?_)
          | refine br_eq (fun heq => ?_) (fun heq => ?_)
          | refine idx_map (by omega) (fun x hx => ?_)
          | refine live_i rfl (fun h => by cases h) ?_
          | refine branch_s (fun hbb => ?_) (fun hbb => ?_)
          | refine ret_i ?_
          | refine retB_i ?_)
        conv => whnf
        exact ret_int hres
theorem num_spec (s : ByteArray) : Sp 68 [S s] (I (numR s)) := sp_of Tryd.func68 (by kernel_rfl) (by kernel_rfl) (num_vc s)

/-- the words that the first k bytes make: all but the last one, and the last one -/
noncomputable def wordsP (s : ByteArray) : Nat → List ByteArray × ByteArray
  | 0 => ([], emptyB)
  | k + 1 => if byteAt s k = 32 then ((wordsP s k).1 ++ [(wordsP s k).2], emptyB) else ((wordsP s k).1, (wordsP s k).2 ++ s.extract k (k + 1))
noncomputable def wordsR (s : ByteArray) : List ByteArray := (wordsP s s.size).1 ++ [(wordsP s s.size).2]
theorem wordsP_size (s : ByteArray) : ∀ k, k ≤ s.size → (wordsP s k).1.length ≤ k ∧ (wordsP s k).2.size ≤ k
  | 0, _ => ⟨Nat.le_refl _, Nat.le_refl _⟩
  | k + 1, h => by
    obtain ⟨h1, h2⟩ := wordsP_size s k (by omega)
    unfold wordsP
    split
    · exact ⟨by simp; omega, Nat.zero_le _⟩
    · refine ⟨by show (wordsP s k).1.length ≤ _; omega, ?_⟩
      rw [cat_size, ByteArray.size_extract]
      omega
theorem words_vc (s : ByteArray) (hs : s.size ≤ 1000) : fnVC T Tryd.prog Tryd.f67 [S s] (.own 9 ((wordsR s).map S)) := by
  repeat' ((conv => whnf); first
    | refine seq_go ?_
    | refine draw_i (by kernel_rfl) ?_
    | refine arith_half (by omega) ?_
    | refine arith_in (by omega) ?_
    | refine arith_u (by omega) ?_
    | refine need_i (p := (T.row _).eq = true) (by kernel_rfl) ?_
    | refine need_i (by omega) ?_
    | refine br_not ?_
    | refine br_dec (fun hd => ?_) (fun hd => ?_)
    | refine br_lt (fun hlt => ?_) (fun hlt => ?_)
    | refine br_le (fun hle => ?_) (fun hle => ?_)
    | refine br_eq (fun heq => ?_) (fun heq => ?_)
    | refine idx_map (by omega) (fun x hx => ?_)
    | refine live_i rfl (fun h => by cases h) ?_
    | refine branch_s (fun hbb => ?_) (fun hbb => ?_)
    | refine ret_i ?_
    | refine retB_i ?_)
  refine loop_i (A := Nat) (fun k => mkSt [(0, S s), (3, .arr 5 (wordsP s k).1.length), (4, I k)] [] [(5, ⟨(wordsP s k).1.length, .own, 9, ((wordsP s k).1 ++ [(wordsP s k).2]).map S⟩)]) (fun k => k ≤ s.size) (fun k => s.size - k) 0 ?_ (Nat.zero_le _) (fun k hk => ?_)
  · refine le_mk ?_ ?_ ?_ ?_
    all_goals repeat' (first | exact trivial | refine And.intro ?_ ?_ | with_reducible rfl | exact Nat.le_refl _ | omega | exact rfl)
  · obtain ⟨z1, z2⟩ := wordsP_size s k hk
    rcases Nat.lt_or_ge k s.size with hlt | hge
    · have hix : ((k : Int)).toNat = k := by omega
      generalize hW : wordsP s k = W at *
      obtain ⟨ini, la⟩ := W
      simp only at z1 z2
      have hlen : ((ini ++ [la]).map S).length = ini.length + 1 := by simp
      have hlast : ((ini ++ [la]).map S)[ini.length]? = some (S la) := by simp
      have hset : ∀ x, ((ini ++ [la]).map S).set ini.length (S x) = (ini ++ [x]).map S := by intro x; simp
      have happ : (ini ++ [la]).map S ++ [S emptyB] = (ini ++ [la] ++ [emptyB]).map S := by simp
      simp only
      generalize hL : (ini ++ [la]).map S = L at *
      have hn1 : ((L.length : Int) - 1).toNat = ini.length := by omega
      repeat' ((conv => whnf); first
        | (exfalso; omega)
        | refine arith_in (by show -9223372036854775808 ≤ (L.length : Int) - 1 ∧ (L.length : Int) - 1 ≤ 9223372036854775807; omega) ?_
        | refine need_app rfl (.inl rfl) rfl (by decide) (one_cells rfl) (by show L.length + 1 ≤ _; omega) ?_
        | refine need_i ⟨rfl, (fun h => by cases h), (show (0 : Int) ≤ (L.length : Int) - 1 by omega), (show (L.length : Int) - 1 < L.length by omega)⟩ ?_
        | refine idx_i (S la) (by rw [hn1]; exact hlast) ?_
        | refine need_i (show la.size + (s.extract (k : Int).toNat ((k : Int) + 1).toNat).size ≤ 9223372036854775807 by rw [ByteArray.size_extract]; omega) ?_
        | refine need_i ⟨rfl, rfl⟩ ?_
        | refine seq_go ?_
        | refine draw_i (by kernel_rfl) ?_
        | refine arith_half (by omega) ?_
        | refine arith_in (by omega) ?_
        | refine arith_u (by omega) ?_
        | refine need_i (p := (T.row _).eq = true) (by kernel_rfl) ?_
        | refine need_i (by omega) ?_
        | refine br_not ?_
        | refine br_dec (fun hd => ?_) (fun hd => ?_)
        | refine br_lt (fun hlt => ?_) (fun hlt => ?_)
        | refine br_le (fun hle => ?_) (fun hle => ?_)
        | refine br_eq (fun heq => ?_) (fun heq => ?_)
        | refine idx_map (by omega) (fun x hx => ?_)
        | refine live_i rfl (fun h => by cases h) ?_
        | refine branch_s (fun hbb => ?_) (fun hbb => ?_)
        | refine ret_i ?_
        | refine retB_i ?_)
      · have hW' : wordsP s (k + 1) = (ini ++ [la], emptyB) := by
          show (if byteAt s k = 32 then _ else _) = _
          rw [if_pos (by rw [← hix]; exact heq), hW]
        conv => whnf
        refine ⟨k + 1, ?_, by omega, by omega⟩
        rw [hW']
        simp only [List.length_append, List.length_singleton]
        rw [← happ]
        refine le_mk ?_ ?_ ?_ ?_
        all_goals repeat' (first | exact trivial | refine And.intro ?_ ?_ | with_reducible rfl | exact Nat.le_refl _ | omega | exact rfl)
      · have hW' : wordsP s (k + 1) = (ini, la ++ s.extract k (k + 1)) := by
          show (if byteAt s k = 32 then _ else _) = _
          rw [if_neg (by rw [← hix]; exact heq), hW]
        conv => whnf
        refine ⟨k + 1, ?_, by omega, by omega⟩
        rw [hW']
        simp only
        rw [← hset]
        refine le_mk ?_ ?_ ?_ ?_
        all_goals repeat' (first | exact trivial | refine And.intro ?_ ?_ | with_reducible rfl | exact Nat.le_refl _ | omega | exact rfl)
        · show L.set ((L.length : Int) - 1).toNat (S (la ++ s.extract (k : Int).toNat ((k : Int) + 1).toNat)) = L.set ini.length (S (la ++ s.extract k (k + 1)))
          rw [hn1, hix, show ((k : Int) + 1).toNat = k + 1 by omega]
    · have hks : k = s.size := by omega
      repeat' ((conv => whnf); first
        | (exfalso; omega)
        | refine seq_go ?_
        | refine draw_i (by kernel_rfl) ?_
        | refine arith_half (by omega) ?_
        | refine arith_in (by omega) ?_
        | refine arith_u (by omega) ?_
        | refine need_i (p := (T.row _).eq = true) (by kernel_rfl) ?_
        | refine need_i (by omega) ?_
        | refine br_not ?_
        | refine br_dec (fun hd => ?_) (fun hd => ?_)
        | refine br_lt (fun hlt => ?_) (fun hlt => ?_)
        | refine br_le (fun hle => ?_) (fun hle => ?_)
        | refine br_eq (fun heq => ?_) (fun heq => ?_)
        | refine idx_map (by omega) (fun x hx => ?_)
        | refine live_i rfl (fun h => by cases h) ?_
        | refine branch_s (fun hbb => ?_) (fun hbb => ?_)
        | refine ret_i ?_
        | refine retB_i ?_)
      conv => whnf
      refine ⟨⟨⟨rfl, rfl, rfl, ?_⟩, trivial⟩, rfl, fun _ h => by cases h⟩
      show ((wordsP s k).1 ++ [(wordsP s k).2]).map S = _
      rw [hks]; rfl
theorem words_spec (s : ByteArray) (hs : s.size ≤ 1000) : Sp 67 [S s] (.own 9 ((wordsR s).map S)) := sp_of Tryd.func67 (by kernel_rfl) (by kernel_rfl) (words_vc s hs)
end Go.Proofs.Cost58
