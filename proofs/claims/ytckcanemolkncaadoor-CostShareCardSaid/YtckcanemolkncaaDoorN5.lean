/-
  The statement on shares, walked.
-/
import Derived.Test.YtckcanemolkncaaDoorN3
set_option linter.unusedVariables false
set_option linter.unusedSimpArgs false
namespace Go.Proofs.Cost58
open Go Go.Proofs Go.Ab
set_option maxRecDepth 100000

theorem getD_get {l : List Int} {i : Nat} (h : i < l.length) : l.getD i 0 = l[i] := by rw [List.getD_eq_getElem?_getD, List.getElem?_eq_getElem h]; rfl
theorem take_sum {l : List Int} {k : Nat} (h : k < l.length) : (l.take (k + 1)).sum = (l.take k).sum + l[k] := by
  rw [List.take_add_one, List.getElem?_eq_getElem h, List.sum_append]; simp
theorem sum_bd {B : Int} : ∀ {l : List Int}, (∀ x ∈ l, 0 ≤ x ∧ x ≤ B) → 0 ≤ l.sum ∧ l.sum ≤ l.length * B
  | [], _ => by simp
  | w :: l, h => by
    have h1 := h w (by simp)
    have h2 := sum_bd (l := l) (fun x hx => h x (by simp [hx]))
    simp only [List.sum_cons, List.length_cons]
    rw [show (((l.length + 1 : Nat) : Int)) = (l.length : Int) + 1 by omega, Int.add_mul]
    omega
theorem law_share_vc (am : Int) (ws : List Int) : fnVC T Tryd.prog Tryd.f3 [I am, .sl (ws.map I)] (.lit (.bool true)) := by
  have hll : (ws.map I).length = ws.length := by simp
  rcases Nat.lt_or_ge 70 ws.length with hbig | hsm
  · repeat' ((conv => whnf); first
      | (refine call_i (awake_spec) false ?_ rfl ?_; focus ((repeat' (first | exact trivial | refine And.intro ?_ ?_ | with_reducible rfl | exact (fun h => by cases h) | exact rfl)); done))
      | (exfalso; omega)
      | refine seq_go ?_
      | refine draw_i (by kernel_rfl) ?_
      | refine arith_half (by omega) ?_
      | refine arith_in (by omega) ?_
      | refine arith_u (by omega) ?_
      | refine need_i (p := (T.row _).eq = true) (by kernel_rfl) ?_
      | refine need_i (by omega) ?_
      | refine br_not ?_
      | refine br_dec (fun hd => ?_) (fun hd => ?_)
      | refine br_lt (fun hlt => ?_) (fun hlt => ?_)
      | refine br_le (fun hle => ?_) (fun hle => ?_)
      | refine br_eq (fun heq => ?_) (fun heq => ?_)
      | refine idx_map (by omega) (fun x hx => ?_)
      | refine live_i rfl (fun h => by cases h) ?_
      | refine branch_s (fun hbb => ?_) (fun hbb => ?_)
      | refine ret_i ?_)
    conv => whnf
    exact ret_bool rfl
  · have hs := share_spec am ws (by omega)
    have hr := rshare_spec am ws (by omega)
    by_cases hok : ShOk am ws
    · rw [shareR_ok hok] at hs hr
      obtain ⟨hw, ha0, ha1, hl60, hs0⟩ := id hok
      have hsh := hok.share
      have hsB := sumB hw
      have hAl : (shareP am ws.sum ws).length = ws.length := share_len
      have hnear : ∀ (i : Nat) (h : i < (shareP am ws.sum ws).length) (h' : i < ws.length), (shareP am ws.sum ws)[i] * ws.sum - am * ws[i] < ws.sum ∧ - ws.sum < (shareP am ws.sum ws)[i] * ws.sum - am * ws[i] := by
        intro i h h'
        have := share_near hsh h'
        rwa [getD_get h] at this
      have hmono : ∀ (i k : Nat) (h : i < (shareP am ws.sum ws).length) (h' : i < ws.length) (g : k < (shareP am ws.sum ws).length) (g' : k < ws.length), ws[k] < ws[i] → (shareP am ws.sum ws)[k] ≤ (shareP am ws.sum ws)[i] := by
        intro i k h h' g g' hlt
        have := share_mono hsh h' g' hlt
        rwa [getD_get h, getD_get g] at this
      have hAB : ∀ x ∈ shareP am ws.sum ws, 0 ≤ x ∧ x ≤ 1000000000000000 + 1000 := by
        intro x hx
        have hs1 : 0 < ws.sum := by omega
        have := bumpB (is := (ordP am ws.sum ws).take (leftP am ws.sum ws).toNat) (quosB ⟨ha0, ha1⟩ hs1 hw) x hx
        rw [left_len hsh] at this
        have := left_bd hsh
        omega
      have hsum : (shareP am ws.sum ws).sum = am := share_sum hsh
      have hmul : ∀ w ∈ ws, 0 ≤ am * w ∧ am * w ≤ 1000000000 * 1000000 := fun w hw' => mulB ⟨ha0, ha1⟩ (hw w hw')
      generalize shareP am ws.sum ws = A at *
      repeat' ((conv => whnf); first
        | (refine call_i (awake_spec) false ?_ rfl ?_; focus ((repeat' (first | exact trivial | refine And.intro ?_ ?_ | with_reducible rfl | exact (fun h => by cases h) | exact rfl)); done))
        | (exfalso; omega)
        | (refine call_i (hs) false ?_ rfl ?_; focus ((repeat' (first | exact trivial | refine And.intro ?_ ?_ | with_reducible rfl | exact (fun h => by cases h) | exact rfl)); done))
        | (refine call_i (hr) false ?_ rfl ?_; focus ((repeat' (first | exact trivial | refine And.intro ?_ ?_ | with_reducible rfl | exact (fun h => by cases h) | exact rfl)); done))
        | (refine call_i (sameInts_spec A A (by omega)) true ?_ rfl ?_; focus ((repeat' (first | exact trivial | refine And.intro ?_ ?_ | with_reducible rfl | exact (fun h => by cases h) | exact rfl)); done))
        | (exfalso; exact hd rfl)
        | (exfalso; exact heq rfl)
        | refine seq_go ?_
        | refine draw_i (by kernel_rfl) ?_
        | refine arith_half (by omega) ?_
        | refine arith_in (by omega) ?_
        | refine arith_u (by omega) ?_
        | refine need_i (p := (T.row _).eq = true) (by kernel_rfl) ?_
        | refine need_i (by omega) ?_
        | refine br_not ?_
        | refine br_dec (fun hd => ?_) (fun hd => ?_)
        | refine br_lt (fun hlt => ?_) (fun hlt => ?_)
        | refine br_le (fun hle => ?_) (fun hle => ?_)
        | refine br_eq (fun heq => ?_) (fun heq => ?_)
        | refine idx_map (by omega) (fun x hx => ?_)
        | refine live_i rfl (fun h => by cases h) ?_
        | refine branch_s (fun hbb => ?_) (fun hbb => ?_)
        | refine ret_i ?_)
      refine loop_i (A := Nat) (fun k => mkSt [(0, I am), (1, .sl (ws.map I)), (5, .arr 26 0), (9, I (ws.take k).sum), (10, I (A.take k).sum), (47, I ws.length), (48, I k)] [] [(26, ⟨0, .own, 3, A.map I⟩)])
        (fun k => k ≤ ws.length) (fun k => ws.length - k) 0 ?_ (Nat.zero_le _) (fun k hk => ?_)
      · refine le_mk ?_ ?_ ?_ ?_
        all_goals repeat' (first | exact trivial | refine And.intro ?_ ?_ | with_reducible rfl | exact Nat.le_refl _ | omega | exact rfl)
      · change k ≤ ws.length at hk
        have hbs : ∀ k, 0 ≤ (ws.take k).sum ∧ (ws.take k).sum ≤ 70 * 1000000 := fun k => by
          have := sumB (l := ws.take k) (fun x hx => hw x (List.mem_of_mem_take hx))
          have hlk : (ws.take k).length ≤ 70 := by rw [List.length_take]; omega
          omega
        have hba : ∀ k, 0 ≤ (A.take k).sum ∧ (A.take k).sum ≤ 70 * 1000000000001000 := fun k => by
          have := sum_bd (l := A.take k) (fun x hx => hAB x (List.mem_of_mem_take hx))
          have hlk : (A.take k).length ≤ 70 := by rw [List.length_take]; omega
          omega
        have hbk := hbs k
        have hak := hba k
        rcases Nat.lt_or_ge k ws.length with hkl | hkl
        · have hwk := hw ws[k] (List.getElem_mem hkl)
          have hAk := hAB (A[k]'(by omega)) (List.getElem_mem _)
          repeat' ((conv => whnf); first
            | (exfalso; omega)
            | refine need_len (l := ws) (by omega) ?_
            | (refine need_mid (l := A) rfl (fun h => by cases h) rfl ?_ ?_; focus (constructor <;> omega))
            | refine idx_get (f := I) (l := ws) (by omega) ?_
            | refine idx_get (f := I) (l := A) (by omega) ?_
            | refine arith_in (show -9223372036854775808 ≤ (ws.take k).sum + ws[k] ∧ (ws.take k).sum + ws[k] ≤ 9223372036854775807 by omega) ?_
            | refine arith_in (show -9223372036854775808 ≤ (A.take k).sum + A[k]'(by omega) ∧ (A.take k).sum + A[k]'(by omega) ≤ 9223372036854775807 by omega) ?_
            | refine seq_go ?_
            | refine draw_i (by kernel_rfl) ?_
            | refine arith_half (by omega) ?_
            | refine arith_in (by omega) ?_
            | refine arith_u (by omega) ?_
            | refine need_i (p := (T.row _).eq = true) (by kernel_rfl) ?_
            | refine need_i (by omega) ?_
            | refine br_not ?_
            | refine br_dec (fun hd => ?_) (fun hd => ?_)
            | refine br_lt (fun hlt => ?_) (fun hlt => ?_)
            | refine br_le (fun hle => ?_) (fun hle => ?_)
            | refine br_eq (fun heq => ?_) (fun heq => ?_)
            | refine idx_map (by omega) (fun x hx => ?_)
            | refine live_i rfl (fun h => by cases h) ?_
            | refine branch_s (fun hbb => ?_) (fun hbb => ?_)
            | refine ret_i ?_)
          conv => whnf
          refine ⟨k + 1, ?_, hkl, by omega⟩
          refine le_mk ?_ ?_ ?_ ?_
          all_goals repeat' (first | exact trivial | refine And.intro ?_ ?_ | with_reducible rfl | exact Nat.le_refl _ | omega | exact rfl)
          · exact (take_sum hkl).symm
          · exact (take_sum (l := A) (by omega)).symm
        · obtain rfl : k = ws.length := by omega
          repeat' ((conv => whnf); first
            | (exfalso; omega)
            | refine seq_go ?_
            | refine draw_i (by kernel_rfl) ?_
            | refine arith_half (by omega) ?_
            | refine arith_in (by omega) ?_
            | refine arith_u (by omega) ?_
            | refine need_i (p := (T.row _).eq = true) (by kernel_rfl) ?_
            | refine need_i (by omega) ?_
            | refine br_not ?_
            | refine br_dec (fun hd => ?_) (fun hd => ?_)
            | refine br_lt (fun hlt => ?_) (fun hlt => ?_)
            | refine br_le (fun hle => ?_) (fun hle => ?_)
            | refine br_eq (fun heq => ?_) (fun heq => ?_)
            | refine idx_map (by omega) (fun x hx => ?_)
            | refine live_i rfl (fun h => by cases h) ?_
            | refine branch_s (fun hbb => ?_) (fun hbb => ?_)
            | refine ret_i ?_)
          have hmark : ∀ i : Nat, i < ws.length → i < A.length := fun i hi => by omega
          refine loop_i (A := Nat) (fun i => mkSt [(0, I am), (1, .sl (ws.map I)), (5, .arr 26 0), (9, I ws.sum), (10, I am), (65, I ws.length), (66, I i)] [] [(26, ⟨0, .own, 3, A.map I⟩)])
            (fun i => i ≤ ws.length) (fun i => ws.length - i) 0 ?_ (Nat.zero_le _) (fun i hi => ?_)
          · refine le_mk ?_ ?_ ?_ ?_
            all_goals repeat' (first | exact trivial | refine And.intro ?_ ?_ | with_reducible rfl | exact Nat.le_refl _ | omega | exact rfl)
            · show (ws.take ws.length).sum = ws.sum
              rw [List.take_length]
            · show (A.take ws.length).sum = am
              rw [List.take_of_length_le (by omega), hsum]
          · change i ≤ ws.length at hi
            rcases Nat.lt_or_ge i ws.length with hil | hil
            · have hn := hnear i (hmark i hil) hil
              have hm := hmul ws[i] (List.getElem_mem hil)
              repeat' ((conv => whnf); first
                | (exfalso; omega)
                | refine need_len (l := ws) (by omega) ?_
                | (refine need_mid (l := A) rfl (fun h => by cases h) rfl ?_ ?_; focus (constructor <;> omega))
                | refine idx_get (f := I) (l := ws) (by omega) ?_
                | refine idx_get (f := I) (l := A) (by omega) ?_
                | refine arith_in (show -9223372036854775808 ≤ A[i]'(hmark i hil) * ws.sum ∧ A[i]'(hmark i hil) * ws.sum ≤ 9223372036854775807 by omega) ?_
                | refine arith_in (show -9223372036854775808 ≤ am * ws[i] ∧ am * ws[i] ≤ 9223372036854775807 by omega) ?_
                | refine arith_in (show -9223372036854775808 ≤ A[i]'(hmark i hil) * ws.sum - am * ws[i] ∧ A[i]'(hmark i hil) * ws.sum - am * ws[i] ≤ 9223372036854775807 by omega) ?_
                | (exfalso; change ws.sum ≤ A[i]'(hmark i hil) * ws.sum - am * ws[i] at hle; omega)
                | (exfalso; change A[i]'(hmark i hil) * ws.sum - am * ws[i] ≤ 0 - ws.sum at hle; omega)
                | refine seq_go ?_
                | refine draw_i (by kernel_rfl) ?_
                | refine arith_half (by omega) ?_
                | refine arith_in (by omega) ?_
                | refine arith_u (by omega) ?_
                | refine need_i (p := (T.row _).eq = true) (by kernel_rfl) ?_
                | refine need_i (by omega) ?_
                | refine br_not ?_
                | refine br_dec (fun hd => ?_) (fun hd => ?_)
                | refine br_lt (fun hlt => ?_) (fun hlt => ?_)
                | refine br_le (fun hle => ?_) (fun hle => ?_)
                | refine br_eq (fun heq => ?_) (fun heq => ?_)
                | refine idx_map (by omega) (fun x hx => ?_)
                | refine live_i rfl (fun h => by cases h) ?_
                | refine branch_s (fun hbb => ?_) (fun hbb => ?_)
                | refine ret_i ?_)
              refine loop_i (A := Nat) (fun k => mkSt [(0, I am), (1, .sl (ws.map I)), (5, .arr 26 0), (9, I ws.sum), (10, I am), (12, I i), (65, I ws.length), (66, I i), (92, I ws.length), (93, I k)] [] [(26, ⟨0, .own, 3, A.map I⟩)])
                (fun k => k ≤ ws.length) (fun k => ws.length - k) 0 ?_ (Nat.zero_le _) (fun k hk => ?_)
              · refine le_mk ?_ ?_ ?_ ?_
                all_goals repeat' (first | exact trivial | refine And.intro ?_ ?_ | with_reducible rfl | exact Nat.le_refl _ | omega | exact rfl)
              · change k ≤ ws.length at hk
                rcases Nat.lt_or_ge k ws.length with hkl | hkl
                · have hmn := hmono i k (hmark i hil) hil (hmark k hkl) hkl
                  repeat' ((conv => whnf); first
                    | (exfalso; change ws[k] < ws[i] at hlt; omega)
                    | refine need_len (l := ws) (by omega) ?_
                    | (refine need_mid (l := A) rfl (fun h => by cases h) rfl ?_ ?_; focus (constructor <;> omega))
                    | refine idx_get (f := I) (l := ws) (by omega) ?_
                    | refine idx_get (f := I) (l := A) (by omega) ?_
                    | refine seq_go ?_
                    | refine draw_i (by kernel_rfl) ?_
                    | refine arith_half (by omega) ?_
                    | refine arith_in (by omega) ?_
                    | refine arith_u (by omega) ?_
                    | refine need_i (p := (T.row _).eq = true) (by kernel_rfl) ?_
                    | refine need_i (by omega) ?_
                    | refine br_not ?_
                    | refine br_dec (fun hd => ?_) (fun hd => ?_)
                    | refine br_lt (fun hlt => ?_) (fun hlt => ?_)
                    | refine br_le (fun hle => ?_) (fun hle => ?_)
                    | refine br_eq (fun heq => ?_) (fun heq => ?_)
                    | refine idx_map (by omega) (fun x hx => ?_)
                    | refine live_i rfl (fun h => by cases h) ?_
                    | refine branch_s (fun hbb => ?_) (fun hbb => ?_)
                    | refine ret_i ?_)
                  · rename_i h1
                    exact (Int.not_lt.2 (hmn h1) hlt).elim
                  · conv => whnf
                    refine ⟨k + 1, ?_, hkl, by omega⟩
                    refine le_mk ?_ ?_ ?_ ?_
                    all_goals repeat' (first | exact trivial | refine And.intro ?_ ?_ | with_reducible rfl | exact Nat.le_refl _ | omega | exact rfl)
                  · conv => whnf
                    refine ⟨k + 1, ?_, hkl, by omega⟩
                    refine le_mk ?_ ?_ ?_ ?_
                    all_goals repeat' (first | exact trivial | refine And.intro ?_ ?_ | with_reducible rfl | exact Nat.le_refl _ | omega | exact rfl)
                  · conv => whnf
                    refine ⟨k + 1, ?_, hkl, by omega⟩
                    refine le_mk ?_ ?_ ?_ ?_
                    all_goals repeat' (first | exact trivial | refine And.intro ?_ ?_ | with_reducible rfl | exact Nat.le_refl _ | omega | exact rfl)
                · repeat' ((conv => whnf); first
                    | (exfalso; omega)
                    | refine seq_go ?_
                    | refine draw_i (by kernel_rfl) ?_
                    | refine arith_half (by omega) ?_
                    | refine arith_in (by omega) ?_
                    | refine arith_u (by omega) ?_
                    | refine need_i (p := (T.row _).eq = true) (by kernel_rfl) ?_
                    | refine need_i (by omega) ?_
                    | refine br_not ?_
                    | refine br_dec (fun hd => ?_) (fun hd => ?_)
                    | refine br_lt (fun hlt => ?_) (fun hlt => ?_)
                    | refine br_le (fun hle => ?_) (fun hle => ?_)
                    | refine br_eq (fun heq => ?_) (fun heq => ?_)
                    | refine idx_map (by omega) (fun x hx => ?_)
                    | refine live_i rfl (fun h => by cases h) ?_
                    | refine branch_s (fun hbb => ?_) (fun hbb => ?_)
                    | refine ret_i ?_)
                  conv => whnf
                  refine ⟨i + 1, ?_, hil, by omega⟩
                  refine le_mk ?_ ?_ ?_ ?_
                  all_goals repeat' (first | exact trivial | refine And.intro ?_ ?_ | with_reducible rfl | exact Nat.le_refl _ | omega | exact rfl)
            · repeat' ((conv => whnf); first
                | (exfalso; omega)
                | refine seq_go ?_
                | refine draw_i (by kernel_rfl) ?_
                | refine arith_half (by omega) ?_
                | refine arith_in (by omega) ?_
                | refine arith_u (by omega) ?_
                | refine need_i (p := (T.row _).eq = true) (by kernel_rfl) ?_
                | refine need_i (by omega) ?_
                | refine br_not ?_
                | refine br_dec (fun hd => ?_) (fun hd => ?_)
                | refine br_lt (fun hlt => ?_) (fun hlt => ?_)
                | refine br_le (fun hle => ?_) (fun hle => ?_)
                | refine br_eq (fun heq => ?_) (fun heq => ?_)
                | refine idx_map (by omega) (fun x hx => ?_)
                | refine live_i rfl (fun h => by cases h) ?_
                | refine branch_s (fun hbb => ?_) (fun hbb => ?_)
                | refine ret_i ?_)
              conv => whnf
              refine ret_bool ?_
              exact eqB_t.2 rfl
    · rw [shareR_no hok] at hs hr
      repeat' ((conv => whnf); first
        | (refine call_i (awake_spec) false ?_ rfl ?_; focus ((repeat' (first | exact trivial | refine And.intro ?_ ?_ | with_reducible rfl | exact (fun h => by cases h) | exact rfl)); done))
        | (exfalso; omega)
        | (refine call_i (hs) false ?_ rfl ?_; focus ((repeat' (first | exact trivial | refine And.intro ?_ ?_ | with_reducible rfl | exact (fun h => by cases h) | exact rfl)); done))
        | (refine call_i (hr) false ?_ rfl ?_; focus ((repeat' (first | exact trivial | refine And.intro ?_ ?_ | with_reducible rfl | exact (fun h => by cases h) | exact rfl)); done))
        | (refine call_i (sameInts_spec [] [] (by simp)) true ?_ rfl ?_; focus ((repeat' (first | exact trivial | refine And.intro ?_ ?_ | with_reducible rfl | exact (fun h => by cases h) | exact rfl)); done))
        | (exfalso; exact hd rfl)
        | (exfalso; exact heq rfl)
        | refine seq_go ?_
        | refine draw_i (by kernel_rfl) ?_
        | refine arith_half (by omega) ?_
        | refine arith_in (by omega) ?_
        | refine arith_u (by omega) ?_
        | refine need_i (p := (T.row _).eq = true) (by kernel_rfl) ?_
        | refine need_i (by omega) ?_
        | refine br_not ?_
        | refine br_dec (fun hd => ?_) (fun hd => ?_)
        | refine br_lt (fun hlt => ?_) (fun hlt => ?_)
        | refine br_le (fun hle => ?_) (fun hle => ?_)
        | refine br_eq (fun heq => ?_) (fun heq => ?_)
        | refine idx_map (by omega) (fun x hx => ?_)
        | refine live_i rfl (fun h => by cases h) ?_
        | refine branch_s (fun hbb => ?_) (fun hbb => ?_)
        | refine ret_i ?_)
      conv => whnf
      exact ret_bool rfl
theorem law_share_spec (am : Int) (ws : List Int) : Sp 3 [I am, .sl (ws.map I)] (.lit (.bool true)) := sp_of Tryd.func3 (by kernel_rfl) (by kernel_rfl) (law_share_vc am ws)
end Go.Proofs.Cost58
