/-
  Stable sorting, walked: the merge in place.
  Stable sorting, in plain Lean: blocks that are merged are sorted as a whole.
  Sharing an amount, in plain Lean: the greatest remainders.
-/
import Derived.Test.YtckcanemolkncaaDoorS1
set_option linter.unusedVariables false
set_option linter.unusedSimpArgs false
namespace Go.Proofs.Cost58
open Go Go.Proofs Go.Ab
set_option maxRecDepth 100000
variable {g : FuncId} {cs : List V} {c : Int → Int → Int} {Q : Int → Prop} {key : Int → Int}

theorem sym1_vc (hc : CmpOk g cs c Q) (hk : ∀ a b, c a b < 0 ↔ key a < key b) (A Y C : List Int) (x : Int) (hYs : Srt key Y) (hqx : Q x) (hqY : ∀ z ∈ Y, Q z) (hl : A.length + 1 + Y.length + C.length ≤ 100000) :
    fnIO T Tryd.prog Tryd.f100 [.own 3 ((A ++ [x] ++ Y ++ C).map I), I A.length, I (A.length + 1), I (A.length + 1 + Y.length), .fn g [.fp cs]] (.tup []) 0 3 ((A ++ mergeP c [x] Y ++ C).map I) := by
  have hsz : (A ++ [x] ++ Y ++ C).length = A.length + 1 + Y.length + C.length := by simp; omega
  repeat' ((conv => whnf); first
    | (exfalso; omega)
    | refine seq_go ?_
    | refine draw_i (by kernel_rfl) ?_
    | refine arith_half (by omega) ?_
    | refine arith_in (by omega) ?_
    | refine arith_u (by omega) ?_
    | refine need_i (p := (T.row _).eq = true) (by kernel_rfl) ?_
    | refine need_i (by omega) ?_
    | refine br_not ?_
    | refine br_dec (fun hd => ?_) (fun hd => ?_)
    | refine br_lt (fun hlt => ?_) (fun hlt => ?_)
    | refine br_le (fun hle => ?_) (fun hle => ?_)
    | refine br_eq (fun heq => ?_) (fun heq => ?_)
    | refine idx_map (by omega) (fun x hx => ?_)
    | refine live_i rfl (fun h => by cases h) ?_
    | refine branch_s (fun hbb => ?_) (fun hbb => ?_)
    | refine ret_i ?_)
  refine loop_2 (A := Nat) (B := Nat) (fun u v => mkSt [(0, .arr 0 0), (1, I A.length), (4, .fn g [.fp cs]), (10, I (A.length + 1 + u)), (11, I (A.length + 1 + v))] [] [(0, ⟨0, .own, 3, (A ++ [x] ++ Y ++ C).map I⟩)])
    (fun u v => u ≤ v ∧ v ≤ Y.length ∧ (∀ t z, t < u → Y[t]? = some z → c z x < 0) ∧ (∀ t z, v ≤ t → Y[t]? = some z → ¬ c z x < 0)) (fun u v => v - u) 0 Y.length ?_
    ⟨by omega, by omega, by omega, fun t z h1 h2 => by have := (List.getElem?_eq_some_iff.1 h2).1; omega⟩ (fun u v hp => ?_)
  · refine le_mk ?_ ?_ ?_ ?_
    all_goals repeat' (first | exact trivial | refine And.intro ?_ ?_ | with_reducible rfl | exact Nat.le_refl _ | omega | exact rfl)
  · obtain ⟨hp1, hp2, hp3, hp4⟩ := hp
    rcases Nat.lt_or_ge u v with huv | huv
    · obtain ⟨w, hw⟩ : ∃ w, w = (u + v) / 2 := ⟨_, rfl⟩
      have hwl : w < Y.length := by omega
      obtain ⟨y, hy⟩ : ∃ y, Y[w]? = some y := ⟨_, List.getElem?_eq_getElem hwl⟩
      have hqy : Q y := hqY y (List.mem_of_getElem? hy)
      have hYw : Y = Y.take w ++ y :: Y.drop (w + 1) := by
        have e := (List.getElem?_eq_some_iff.1 hy).2
        rw [← e, ← List.drop_eq_getElem_cons hwl, List.take_append_drop]
      have hL : A ++ [x] ++ Y ++ C = (A ++ [x] ++ Y.take w) ++ y :: (Y.drop (w + 1) ++ C) := by
        conv => lhs; rw [hYw]
        simp
      have hi1 : (A ++ [x] ++ Y.take w).length = A.length + 1 + w := by simp; omega
      repeat' ((conv => whnf); first
        | (exfalso; omega)
        | (refine need_mid (l := A ++ [x] ++ Y ++ C) rfl (fun h => by cases h) rfl ?_ ?_; focus (constructor <;> omega))
        | refine idx_mid (l := A ++ [x] ++ Y ++ C) (A := A ++ [x] ++ Y.take w) (x := y) (B := Y.drop (w + 1) ++ C) hL (by rw [hi1]; omega) ?_
        | refine idx_mid (l := A ++ [x] ++ Y ++ C) (A := A) (x := x) (B := Y ++ C) (by simp) (by omega) ?_
        | (refine call_i (hc y x hqy hqx) false ?_ rfl ?_; focus ((repeat' (first | exact trivial | refine And.intro ?_ ?_ | with_reducible rfl | exact (fun h => by cases h) | exact rfl)); done))
        | refine seq_go ?_
        | refine draw_i (by kernel_rfl) ?_
        | refine arith_half (by omega) ?_
        | refine arith_in (by omega) ?_
        | refine arith_u (by omega) ?_
        | refine need_i (p := (T.row _).eq = true) (by kernel_rfl) ?_
        | refine need_i (by omega) ?_
        | refine br_not ?_
        | refine br_dec (fun hd => ?_) (fun hd => ?_)
        | refine br_lt (fun hlt => ?_) (fun hlt => ?_)
        | refine br_le (fun hle => ?_) (fun hle => ?_)
        | refine br_eq (fun heq => ?_) (fun heq => ?_)
        | refine idx_map (by omega) (fun x hx => ?_)
        | refine live_i rfl (fun h => by cases h) ?_
        | refine branch_s (fun hbb => ?_) (fun hbb => ?_)
        | refine ret_i ?_)
      · refine ⟨(w + 1, v), ?_, ⟨by show w + 1 ≤ v; omega, hp2, fun t z ht hz => ?_, hp4⟩, by show v - (w + 1) < v - u; omega⟩
        · refine le_mk ?_ ?_ ?_ ?_
          all_goals repeat' (first | exact trivial | refine And.intro ?_ ?_ | with_reducible rfl | exact Nat.le_refl _ | omega | exact rfl)
        · have h1 := hYs t w z y (Nat.le_of_lt_succ ht) hz hy
          rw [hk] at hlt ⊢; omega
      · refine ⟨(u, w), ?_, ⟨by show u ≤ w; omega, by show w ≤ _; omega, hp3, fun t z ht hz => ?_⟩, by show w - u < v - u; omega⟩
        · refine le_mk ?_ ?_ ?_ ?_
          all_goals repeat' (first | exact trivial | refine And.intro ?_ ?_ | with_reducible rfl | exact Nat.le_refl _ | omega | exact rfl)
        · have h1 := hYs w t y z ht hy hz
          have h2 : ¬ c y x < 0 := by omega
          rw [hk] at h2 ⊢; omega
    · have huv' : v = u := by omega
      subst huv'
      repeat' ((conv => whnf); first
        | (exfalso; omega)
        | refine seq_go ?_
        | refine draw_i (by kernel_rfl) ?_
        | refine arith_half (by omega) ?_
        | refine arith_in (by omega) ?_
        | refine arith_u (by omega) ?_
        | refine need_i (p := (T.row _).eq = true) (by kernel_rfl) ?_
        | refine need_i (by omega) ?_
        | refine br_not ?_
        | refine br_dec (fun hd => ?_) (fun hd => ?_)
        | refine br_lt (fun hlt => ?_) (fun hlt => ?_)
        | refine br_le (fun hle => ?_) (fun hle => ?_)
        | refine br_eq (fun heq => ?_) (fun heq => ?_)
        | refine idx_map (by omega) (fun x hx => ?_)
        | refine live_i rfl (fun h => by cases h) ?_
        | refine branch_s (fun hbb => ?_) (fun hbb => ?_)
        | refine ret_i ?_)
      refine loop_i (A := Nat) (fun q => mkSt [(0, .arr 0 0), (10, I (A.length + 1 + v)), (13, I (A.length + q))] [] [(0, ⟨0, .own, 3, (A ++ Y.take q ++ x :: Y.drop q ++ C).map I⟩)])
        (fun q => q ≤ v) (fun q => v - q) 0 ?_ (by omega) (fun q hq => ?_)
      · refine le_mk ?_ ?_ ?_ ?_
        all_goals repeat' (first | exact trivial | refine And.intro ?_ ?_ | with_reducible rfl | exact Nat.le_refl _ | omega | exact rfl)
        · show List.map I (A ++ [x] ++ Y ++ C) = List.map I (A ++ List.take 0 Y ++ x :: List.drop 0 Y ++ C)
          simp
      · change q ≤ v at hq
        rcases Nat.lt_or_ge q v with hqv | hqv
        · have hql : q < Y.length := by omega
          have hd : Y.drop q = Y[q] :: Y.drop (q + 1) := List.drop_eq_getElem_cons hql
          have ht : Y.take (q + 1) = Y.take q ++ [Y[q]] := by rw [List.take_add_one, List.getElem?_eq_getElem hql]; rfl
          have hlt' : (Y.take q).length = q := by rw [List.length_take]; omega
          generalize Y[q] = y at hd ht
          obtain ⟨Y1, hY1⟩ : ∃ z, Y.drop (q + 1) = z := ⟨_, rfl⟩
          obtain ⟨Y0, hY0⟩ : ∃ z, Y.take q = z := ⟨_, rfl⟩
          rw [hY0] at ht hlt'
          rw [hY1] at hd
          rw [hY0, hd]
          have hsz' : (A ++ Y0 ++ x :: y :: Y1 ++ C).length = A.length + q + 2 + (Y1 ++ C).length := by simp; omega
          repeat' ((conv => whnf); first
            | (exfalso; omega)
            | (refine need_set (l := A ++ Y0 ++ x :: y :: Y1 ++ C) rfl (fun h => by cases h) rfl ?_ ?_; focus (constructor <;> omega))
            | refine idx_set_ne (by omega) ?_
            | (refine need_mid (l := A ++ Y0 ++ x :: y :: Y1 ++ C) rfl (fun h => by cases h) rfl ?_ ?_; focus (constructor <;> omega))
            | refine idx_mid (l := A ++ Y0 ++ x :: y :: Y1 ++ C) (A := A ++ Y0) (x := x) (B := y :: Y1 ++ C) (by simp) (by simp; omega) ?_
            | refine idx_mid (l := A ++ Y0 ++ x :: y :: Y1 ++ C) (A := A ++ Y0 ++ [x]) (x := y) (B := Y1 ++ C) (by simp) (by simp; omega) ?_
            | refine own_i rfl rfl ?_
            | refine seq_go ?_
            | refine draw_i (by kernel_rfl) ?_
            | refine arith_half (by omega) ?_
            | refine arith_in (by omega) ?_
            | refine arith_u (by omega) ?_
            | refine need_i (p := (T.row _).eq = true) (by kernel_rfl) ?_
            | refine need_i (by omega) ?_
            | refine br_not ?_
            | refine br_dec (fun hd => ?_) (fun hd => ?_)
            | refine br_lt (fun hlt => ?_) (fun hlt => ?_)
            | refine br_le (fun hle => ?_) (fun hle => ?_)
            | refine br_eq (fun heq => ?_) (fun heq => ?_)
            | refine idx_map (by omega) (fun x hx => ?_)
            | refine live_i rfl (fun h => by cases h) ?_
            | refine branch_s (fun hbb => ?_) (fun hbb => ?_)
            | refine ret_i ?_)
          refine ⟨q + 1, ?_, (by show q + 1 ≤ v; omega), by omega⟩
          rw [ht, hY1]
          refine le_mk ?_ ?_ ?_ ?_
          all_goals repeat' (first | exact trivial | refine And.intro ?_ ?_ | with_reducible rfl | exact Nat.le_refl _ | omega | exact rfl)
          · show List.set (List.set (List.map I (A ++ Y0 ++ x :: y :: Y1 ++ C)) _ (I y)) _ (I x) = List.map I (A ++ (Y0 ++ [y]) ++ x :: Y1 ++ C)
            rw [show A ++ Y0 ++ x :: y :: Y1 ++ C = (A ++ Y0) ++ x :: (y :: Y1 ++ C) by simp, List.map_append, List.map_cons, set_mid (by simp; omega), ← List.map_cons, ← List.map_append]
            rw [show (A ++ Y0) ++ y :: (y :: Y1 ++ C) = (A ++ Y0 ++ [y]) ++ y :: (Y1 ++ C) by simp, List.map_append, List.map_cons, set_mid (by simp; omega), ← List.map_cons, ← List.map_append]
            simp
        · have e : q = v := by omega
          subst e
          repeat' ((conv => whnf); first
            | (exfalso; omega)
            | refine seq_go ?_
            | refine draw_i (by kernel_rfl) ?_
            | refine arith_half (by omega) ?_
            | refine arith_in (by omega) ?_
            | refine arith_u (by omega) ?_
            | refine need_i (p := (T.row _).eq = true) (by kernel_rfl) ?_
            | refine need_i (by omega) ?_
            | refine br_not ?_
            | refine br_dec (fun hd => ?_) (fun hd => ?_)
            | refine br_lt (fun hlt => ?_) (fun hlt => ?_)
            | refine br_le (fun hle => ?_) (fun hle => ?_)
            | refine br_eq (fun heq => ?_) (fun heq => ?_)
            | refine idx_map (by omega) (fun x hx => ?_)
            | refine live_i rfl (fun h => by cases h) ?_
            | refine branch_s (fun hbb => ?_) (fun hbb => ?_)
            | refine ret_i ?_)
          refine retIO_i ?_
          conv => whnf
          refine ⟨[], rfl, ⟨⟨rfl, rfl, rfl, ?_⟩, trivial⟩, rfl⟩
          show List.map I (A ++ List.take q Y ++ x :: List.drop q Y ++ C) = List.map I (A ++ mergeP c [x] Y ++ C)
          have hm := merge_one (c := c) (x := x) (Y1 := Y.take q) (Y2 := Y.drop q) (fun y hy => by
            obtain ⟨t, ht⟩ := List.mem_iff_getElem?.1 hy
            have h1 := (List.getElem?_eq_some_iff.1 ht).1
            rw [List.length_take] at h1
            rw [List.getElem?_take, if_pos (by omega)] at ht
            exact hp3 t y (by omega) ht) (fun y hy => by
            obtain ⟨t, ht⟩ := List.mem_iff_getElem?.1 hy
            rw [List.getElem?_drop] at ht
            exact hp4 (q + t) y (by omega) ht)
          rw [List.take_append_drop] at hm
          rw [hm]; simp

theorem sym2_vc (hc : CmpOk g cs c Q) (hk : ∀ a b, c a b < 0 ↔ key a < key b) (A X C : List Int) (y : Int) (hXs : Srt key X) (hqy : Q y) (hqX : ∀ z ∈ X, Q z) (hX2 : 2 ≤ X.length) (hl : A.length + 1 + X.length + C.length ≤ 100000) :
    fnIO T Tryd.prog Tryd.f100 [.own 3 ((A ++ X ++ [y] ++ C).map I), I A.length, I (A.length + X.length), I (A.length + X.length + 1), .fn g [.fp cs]] (.tup []) 0 3 ((A ++ mergeP c X [y] ++ C).map I) := by
  have hsz : (A ++ X ++ [y] ++ C).length = A.length + X.length + 1 + C.length := by simp; omega
  repeat' ((conv => whnf); first
    | (exfalso; omega)
    | refine seq_go ?_
    | refine draw_i (by kernel_rfl) ?_
    | refine arith_half (by omega) ?_
    | refine arith_in (by omega) ?_
    | refine arith_u (by omega) ?_
    | refine need_i (p := (T.row _).eq = true) (by kernel_rfl) ?_
    | refine need_i (by omega) ?_
    | refine br_not ?_
    | refine br_dec (fun hd => ?_) (fun hd => ?_)
    | refine br_lt (fun hlt => ?_) (fun hlt => ?_)
    | refine br_le (fun hle => ?_) (fun hle => ?_)
    | refine br_eq (fun heq => ?_) (fun heq => ?_)
    | refine idx_map (by omega) (fun x hx => ?_)
    | refine live_i rfl (fun h => by cases h) ?_
    | refine branch_s (fun hbb => ?_) (fun hbb => ?_)
    | refine ret_i ?_)
  refine loop_2 (A := Nat) (B := Nat) (fun u v => mkSt [(0, .arr 0 0), (2, I (A.length + X.length)), (4, .fn g [.fp cs]), (14, I (A.length + u)), (15, I (A.length + v))] [] [(0, ⟨0, .own, 3, (A ++ X ++ [y] ++ C).map I⟩)])
    (fun u v => u ≤ v ∧ v ≤ X.length ∧ (∀ t z, t < u → X[t]? = some z → ¬ c y z < 0) ∧ (∀ t z, v ≤ t → X[t]? = some z → c y z < 0)) (fun u v => v - u) 0 X.length ?_
    ⟨by omega, by omega, by omega, fun t z h1 h2 => by have := (List.getElem?_eq_some_iff.1 h2).1; omega⟩ (fun u v hp => ?_)
  · refine le_mk ?_ ?_ ?_ ?_
    all_goals repeat' (first | exact trivial | refine And.intro ?_ ?_ | with_reducible rfl | exact Nat.le_refl _ | omega | exact rfl)
  · obtain ⟨hp1, hp2, hp3, hp4⟩ := hp
    rcases Nat.lt_or_ge u v with huv | huv
    · obtain ⟨w, hw⟩ : ∃ w, w = (u + v) / 2 := ⟨_, rfl⟩
      have hwl : w < X.length := by omega
      obtain ⟨x, hx⟩ : ∃ x, X[w]? = some x := ⟨_, List.getElem?_eq_getElem hwl⟩
      have hqx : Q x := hqX x (List.mem_of_getElem? hx)
      have hXw : X = X.take w ++ x :: X.drop (w + 1) := by
        have e := (List.getElem?_eq_some_iff.1 hx).2
        rw [← e, ← List.drop_eq_getElem_cons hwl, List.take_append_drop]
      have hL : A ++ X ++ [y] ++ C = (A ++ X.take w) ++ x :: (X.drop (w + 1) ++ [y] ++ C) := by
        conv => lhs; rw [hXw]
        simp
      have hi1 : (A ++ X.take w).length = A.length + w := by simp; omega
      repeat' ((conv => whnf); first
        | (exfalso; omega)
        | (refine need_mid (l := A ++ X ++ [y] ++ C) rfl (fun h => by cases h) rfl ?_ ?_; focus (constructor <;> omega))
        | refine idx_mid (l := A ++ X ++ [y] ++ C) (A := A ++ X.take w) (x := x) (B := X.drop (w + 1) ++ [y] ++ C) hL (by rw [hi1]; omega) ?_
        | refine idx_mid (l := A ++ X ++ [y] ++ C) (A := A ++ X) (x := y) (B := C) (by simp) (by simp; omega) ?_
        | (refine call_i (hc y x hqy hqx) false ?_ rfl ?_; focus ((repeat' (first | exact trivial | refine And.intro ?_ ?_ | with_reducible rfl | exact (fun h => by cases h) | exact rfl)); done))
        | refine seq_go ?_
        | refine draw_i (by kernel_rfl) ?_
        | refine arith_half (by omega) ?_
        | refine arith_in (by omega) ?_
        | refine arith_u (by omega) ?_
        | refine need_i (p := (T.row _).eq = true) (by kernel_rfl) ?_
        | refine need_i (by omega) ?_
        | refine br_not ?_
        | refine br_dec (fun hd => ?_) (fun hd => ?_)
        | refine br_lt (fun hlt => ?_) (fun hlt => ?_)
        | refine br_le (fun hle => ?_) (fun hle => ?_)
        | refine br_eq (fun heq => ?_) (fun heq => ?_)
        | refine idx_map (by omega) (fun x hx => ?_)
        | refine live_i rfl (fun h => by cases h) ?_
        | refine branch_s (fun hbb => ?_) (fun hbb => ?_)
        | refine ret_i ?_)
      · refine ⟨(u, w), ?_, ⟨by show u ≤ w; omega, by show w ≤ _; omega, hp3, fun t z ht hz => ?_⟩, by show w - u < v - u; omega⟩
        · refine le_mk ?_ ?_ ?_ ?_
          all_goals repeat' (first | exact trivial | refine And.intro ?_ ?_ | with_reducible rfl | exact Nat.le_refl _ | omega | exact rfl)
        · have h1 := hXs w t x z ht hx hz
          rw [hk] at hlt ⊢; omega
      · refine ⟨(w + 1, v), ?_, ⟨by show w + 1 ≤ v; omega, hp2, fun t z ht hz => ?_, hp4⟩, by show v - (w + 1) < v - u; omega⟩
        · refine le_mk ?_ ?_ ?_ ?_
          all_goals repeat' (first | exact trivial | refine And.intro ?_ ?_ | with_reducible rfl | exact Nat.le_refl _ | omega | exact rfl)
        · have h1 := hXs t w z x (Nat.le_of_lt_succ ht) hz hx
          have h2 : ¬ c y x < 0 := by omega
          rw [hk] at h2 ⊢; omega
    · have huv' : v = u := by omega
      subst huv'
      repeat' ((conv => whnf); first
        | (exfalso; omega)
        | refine seq_go ?_
        | refine draw_i (by kernel_rfl) ?_
        | refine arith_half (by omega) ?_
        | refine arith_in (by omega) ?_
        | refine arith_u (by omega) ?_
        | refine need_i (p := (T.row _).eq = true) (by kernel_rfl) ?_
        | refine need_i (by omega) ?_
        | refine br_not ?_
        | refine br_dec (fun hd => ?_) (fun hd => ?_)
        | refine br_lt (fun hlt => ?_) (fun hlt => ?_)
        | refine br_le (fun hle => ?_) (fun hle => ?_)
        | refine br_eq (fun heq => ?_) (fun heq => ?_)
        | refine idx_map (by omega) (fun x hx => ?_)
        | refine live_i rfl (fun h => by cases h) ?_
        | refine branch_s (fun hbb => ?_) (fun hbb => ?_)
        | refine ret_i ?_)
      refine loop_i (A := Nat) (fun q => mkSt [(0, .arr 0 0), (14, I (A.length + v)), (17, I (A.length + q))] [] [(0, ⟨0, .own, 3, (A ++ X.take q ++ y :: X.drop q ++ C).map I⟩)])
        (fun q => v ≤ q ∧ q ≤ X.length) (fun q => q) X.length ?_ ⟨by omega, by omega⟩ (fun q hq => ?_)
      · refine le_mk ?_ ?_ ?_ ?_
        all_goals repeat' (first | exact trivial | refine And.intro ?_ ?_ | with_reducible rfl | exact Nat.le_refl _ | omega | exact rfl)
        · show List.map I (A ++ X ++ [y] ++ C) = List.map I (A ++ List.take X.length X ++ y :: List.drop X.length X ++ C)
          simp
      · change v ≤ q ∧ q ≤ X.length at hq
        rcases Nat.lt_or_ge v q with hqv | hqv
        · obtain ⟨p, rfl⟩ : ∃ p, q = p + 1 := ⟨q - 1, by omega⟩
          have hql : p < X.length := by omega
          have hd : X.drop p = X[p] :: X.drop (p + 1) := List.drop_eq_getElem_cons hql
          have ht : X.take (p + 1) = X.take p ++ [X[p]] := by rw [List.take_add_one, List.getElem?_eq_getElem hql]; rfl
          have hlt' : (X.take p).length = p := by rw [List.length_take]; omega
          generalize X[p] = x at hd ht
          obtain ⟨X1, hX1⟩ : ∃ z, X.drop (p + 1) = z := ⟨_, rfl⟩
          obtain ⟨X0, hX0⟩ : ∃ z, X.take p = z := ⟨_, rfl⟩
          rw [hX0] at ht hlt'
          rw [hX1] at hd
          rw [hX1, ht]
          have hsz' : (A ++ (X0 ++ [x]) ++ y :: X1 ++ C).length = A.length + p + 2 + (X1 ++ C).length := by simp; omega
          repeat' ((conv => whnf); first
            | (exfalso; omega)
            | (refine need_set (l := A ++ (X0 ++ [x]) ++ y :: X1 ++ C) rfl (fun h => by cases h) rfl ?_ ?_; focus (constructor <;> omega))
            | refine idx_set_ne (by omega) ?_
            | (refine need_mid (l := A ++ (X0 ++ [x]) ++ y :: X1 ++ C) rfl (fun h => by cases h) rfl ?_ ?_; focus (constructor <;> omega))
            | refine idx_mid (l := A ++ (X0 ++ [x]) ++ y :: X1 ++ C) (A := A ++ X0) (x := x) (B := y :: X1 ++ C) (by simp) (by simp; omega) ?_
            | refine idx_mid (l := A ++ (X0 ++ [x]) ++ y :: X1 ++ C) (A := A ++ X0 ++ [x]) (x := y) (B := X1 ++ C) (by simp) (by simp; omega) ?_
            | refine own_i rfl rfl ?_
            | refine seq_go ?_
            | refine draw_i (by kernel_rfl) ?_
            | refine arith_half (by omega) ?_
            | refine arith_in (by omega) ?_
            | refine arith_u (by omega) ?_
            | refine need_i (p := (T.row _).eq = true) (by kernel_rfl) ?_
            | refine need_i (by omega) ?_
            | refine br_not ?_
            | refine br_dec (fun hd => ?_) (fun hd => ?_)
            | refine br_lt (fun hlt => ?_) (fun hlt => ?_)
            | refine br_le (fun hle => ?_) (fun hle => ?_)
            | refine br_eq (fun heq => ?_) (fun heq => ?_)
            | refine idx_map (by omega) (fun x hx => ?_)
            | refine live_i rfl (fun h => by cases h) ?_
            | refine branch_s (fun hbb => ?_) (fun hbb => ?_)
            | refine ret_i ?_)
          refine ⟨p, ?_, ⟨by omega, by omega⟩, by omega⟩
          rw [hX0, hd]
          refine le_mk ?_ ?_ ?_ ?_
          all_goals repeat' (first | exact trivial | refine And.intro ?_ ?_ | with_reducible rfl | exact Nat.le_refl _ | omega | exact rfl)
          · show List.set (List.set (List.map I (A ++ (X0 ++ [x]) ++ y :: X1 ++ C)) _ (I x)) _ (I y) = List.map I (A ++ X0 ++ y :: x :: X1 ++ C)
            rw [show A ++ (X0 ++ [x]) ++ y :: X1 ++ C = (A ++ X0 ++ [x]) ++ y :: (X1 ++ C) by simp, List.map_append, List.map_cons, set_mid (by simp; omega), ← List.map_cons, ← List.map_append]
            rw [show (A ++ X0 ++ [x]) ++ x :: (X1 ++ C) = (A ++ X0) ++ x :: (x :: X1 ++ C) by simp, List.map_append, List.map_cons, set_mid (by simp; omega), ← List.map_cons, ← List.map_append]
            simp
        · have e : q = v := by omega
          subst e
          repeat' ((conv => whnf); first
            | (exfalso; omega)
            | refine seq_go ?_
            | refine draw_i (by kernel_rfl) ?_
            | refine arith_half (by omega) ?_
            | refine arith_in (by omega) ?_
            | refine arith_u (by omega) ?_
            | refine need_i (p := (T.row _).eq = true) (by kernel_rfl) ?_
            | refine need_i (by omega) ?_
            | refine br_not ?_
            | refine br_dec (fun hd => ?_) (fun hd => ?_)
            | refine br_lt (fun hlt => ?_) (fun hlt => ?_)
            | refine br_le (fun hle => ?_) (fun hle => ?_)
            | refine br_eq (fun heq => ?_) (fun heq => ?_)
            | refine idx_map (by omega) (fun x hx => ?_)
            | refine live_i rfl (fun h => by cases h) ?_
            | refine branch_s (fun hbb => ?_) (fun hbb => ?_)
            | refine ret_i ?_)
          refine retIO_i ?_
          conv => whnf
          refine ⟨[], rfl, ⟨⟨rfl, rfl, rfl, ?_⟩, trivial⟩, rfl⟩
          show List.map I (A ++ List.take q X ++ y :: List.drop q X ++ C) = List.map I (A ++ mergeP c X [y] ++ C)
          have hm := merge_one' (c := c) (y := y) (X1 := X.take q) (X2 := X.drop q) (fun y hy => by
            obtain ⟨t, ht⟩ := List.mem_iff_getElem?.1 hy
            have h1 := (List.getElem?_eq_some_iff.1 ht).1
            rw [List.length_take] at h1
            rw [List.getElem?_take, if_pos (by omega)] at ht
            exact hp3 t y (by omega) ht) (fun y hy => by
            obtain ⟨t, ht⟩ := List.mem_iff_getElem?.1 hy
            rw [List.getElem?_drop] at ht
            exact hp4 (q + t) y (by omega) ht)
          rw [List.take_append_drop] at hm
          rw [hm]; simp
end Go.Proofs.Cost58
namespace Go.Proofs.Cost58
section
variable {α : Type} {c : α → α → Int} {key : α → Int}
def PW (key : α → Int) (l : List α) : Prop := l.Pairwise (fun a b => key a ≤ key b)
theorem PW.srt {l : List α} (h : PW key l) : Srt key l := fun i j x y hij hx hy => by
  obtain ⟨h1, rfl⟩ := List.getElem?_eq_some_iff.1 hx
  obtain ⟨h2, rfl⟩ := List.getElem?_eq_some_iff.1 hy
  rcases Nat.lt_or_eq_of_le hij with q | q
  · exact List.pairwise_iff_getElem.1 h i j h1 h2 q
  · subst q; exact Int.le_refl _
/-- a sorted list is cut at a key -/
theorem PW.cut (z : α) : ∀ {l : List α}, PW key l → ∃ A B, l = A ++ B ∧ (∀ x ∈ A, key x ≤ key z) ∧ (∀ x ∈ B, key z < key x)
  | [], _ => ⟨[], [], rfl, by simp, by simp⟩
  | x :: l, h => by
    have h' := List.pairwise_cons.1 h
    by_cases hx : key x ≤ key z
    · obtain ⟨A, B, e, h1, h2⟩ := PW.cut z (l := l) h'.2
      refine ⟨x :: A, B, by rw [e]; rfl, fun y hy => ?_, h2⟩
      rcases List.mem_cons.1 hy with rfl | hy
      · exact hx
      · exact h1 y hy
    · refine ⟨[], x :: l, rfl, by simp, fun y hy => ?_⟩
      rcases List.mem_cons.1 hy with rfl | hy
      · omega
      · have := h'.1 y hy; omega
theorem PW.ins {A B : List α} {z : α} (h : PW key (A ++ B)) (h1 : ∀ x ∈ A, key x ≤ key z) (h2 : ∀ x ∈ B, key z < key x) : PW key (A ++ z :: B) := by
  obtain ⟨q1, q2, q3⟩ := List.pairwise_append.1 h
  refine List.pairwise_append.2 ⟨q1, List.pairwise_cons.2 ⟨fun y hy => by have := h2 y hy; omega, q2⟩, fun x hx y hy => ?_⟩
  rcases List.mem_cons.1 hy with rfl | hy
  · exact h1 x hx
  · exact q3 x hx y hy
theorem insR_cut (hk : ∀ a b, c a b < 0 ↔ key a < key b) {z : α} {S : List α} (h1 : ∀ x ∈ S, key x ≤ key z) : ∀ R : List α, (∀ x ∈ R, key z < key x) → insR c z (R ++ S) = R ++ z :: S
  | [], _ => by
    cases S with
    | nil => rfl
    | cons y r =>
      show (if c z y < 0 then y :: insR c z r else z :: y :: r) = z :: y :: r
      rw [if_neg (by rw [hk]; have := h1 y (by simp); omega)]
  | y :: R, h => by
    show (if c z y < 0 then y :: insR c z (R ++ S) else z :: y :: (R ++ S)) = y :: (R ++ z :: S)
    rw [if_pos (by rw [hk]; exact h y (by simp)), insR_cut hk h1 R (fun x hx => h x (by simp [hx]))]
theorem isortP_snoc (xs : List α) (z : α) : isortP c (xs ++ [z]) = (insR c z (isortP c xs).reverse).reverse := by
  unfold isortP; rw [isR_snoc, List.reverse_reverse]
theorem ins_cut (hk : ∀ a b, c a b < 0 ↔ key a < key b) {z : α} {A B xs : List α} (h : isortP c xs = A ++ B) (h1 : ∀ x ∈ A, key x ≤ key z) (h2 : ∀ x ∈ B, key z < key x) : isortP c (xs ++ [z]) = A ++ z :: B := by
  rw [isortP_snoc, h, List.reverse_append, insR_cut hk (by simpa using h1) _ (by simpa using h2)]; simp
/-- induction from the right -/
theorem snoc_ind {p : List α → Prop} (h0 : p []) (h1 : ∀ xs x, p xs → p (xs ++ [x])) (l : List α) : p l := by
  have : ∀ r : List α, p r.reverse := fun r => by
    induction r with
    | nil => exact h0
    | cons x r ih => rw [List.reverse_cons]; exact h1 _ _ ih
  have h := this l.reverse
  rwa [List.reverse_reverse] at h
theorem isortP_nil : isortP c ([] : List α) = [] := rfl
theorem isortP_pw (hk : ∀ a b, c a b < 0 ↔ key a < key b) (l : List α) : PW key (isortP c l) := by
  induction l using snoc_ind with
  | h0 => exact List.Pairwise.nil
  | h1 xs x ih =>
    obtain ⟨A, B, e, h1, h2⟩ := PW.cut x ih
    rw [ins_cut hk e h1 h2]
    rw [e] at ih
    exact PW.ins ih h1 h2
theorem isortP_len (l : List α) : (isortP c l).length = l.length := by unfold isortP; rw [List.length_reverse, isR_len]
theorem isortP_mem {l : List α} {z : α} : z ∈ isortP c l ↔ z ∈ l := by unfold isortP; rw [List.mem_reverse, isR_mem]
theorem merge_sorted (hk : ∀ a b, c a b < 0 ↔ key a < key b) (X Y : List α) : mergeP c (isortP c X) (isortP c Y) = isortP c (X ++ Y) := by
  induction Y using snoc_ind with
  | h0 => rw [isortP_nil, mergeP_nil', List.append_nil]
  | h1 Y z ih =>
    obtain ⟨A1, A2, eA, hA1, hA2⟩ := PW.cut z (isortP_pw hk X)
    obtain ⟨B1, B2, eB, hB1, hB2⟩ := PW.cut z (isortP_pw hk Y)
    have e1 : mergeP c (A1 ++ A2) (B1 ++ B2) = mergeP c A1 B1 ++ mergeP c A2 B2 := mergeP_split _ A1 B1 (Nat.le_refl _)
      (fun x hx y hy => by rw [hk]; have := hA1 x hx; have := hB2 y hy; omega) (fun y hy x hx => by rw [hk]; have := hA2 x hx; have := hB1 y hy; omega)
    have e2 : mergeP c (A1 ++ A2) ((B1 ++ [z]) ++ B2) = mergeP c A1 (B1 ++ [z]) ++ mergeP c A2 B2 := mergeP_split _ A1 (B1 ++ [z]) (Nat.le_refl _)
      (fun x hx y hy => by rw [hk]; have := hA1 x hx; have := hB2 y hy; omega) (fun y hy x hx => by
        rw [hk]; have := hA2 x hx
        rcases List.mem_append.1 hy with hy | hy
        · have := hB1 y hy; omega
        · rw [List.mem_singleton.1 hy]; exact this)
    have e3 : mergeP c (A1 ++ []) (B1 ++ [z]) = mergeP c A1 B1 ++ mergeP c [] [z] := mergeP_split _ A1 B1 (Nat.le_refl _)
      (fun x hx y hy => by rw [hk, List.mem_singleton.1 hy]; have := hA1 x hx; omega) (by simp)
    rw [List.append_nil, mergeP_nil] at e3
    rw [ins_cut hk eB hB1 hB2, eA, show B1 ++ z :: B2 = (B1 ++ [z]) ++ B2 by simp, e2, e3, ← List.append_assoc X Y [z]]
    rw [ins_cut hk (A := mergeP c A1 B1) (B := mergeP c A2 B2) (by rw [← ih, eA, eB, e1])]
    · simp
    · intro x hx
      rcases (mergeP_mem _ _ _ (Nat.le_refl _) x).1 hx with hx | hx
      · exact hA1 x hx
      · exact hB1 x hx
    · intro x hx
      rcases (mergeP_mem _ _ _ (Nat.le_refl _) x).1 hx with hx | hx
      · exact hA2 x hx
      · exact hB2 x hx
/-- sorted by blocks -/
def blk (c : α → α → Int) (k : Nat) (l : List α) : List α := if l.length ≤ k ∨ k = 0 then isortP c l else isortP c (l.take k) ++ blk c k (l.drop k)
termination_by l.length
decreasing_by simp; omega
theorem blk_small {k : Nat} {l : List α} (h : l.length ≤ k) : blk c k l = isortP c l := by rw [blk, if_pos (.inl h)]
theorem blk_step {k : Nat} {l : List α} (h0 : 0 < k) (h : k ≤ l.length) : blk c k l = isortP c (l.take k) ++ blk c k (l.drop k) := by
  rcases Nat.lt_or_eq_of_le h with q | q
  · rw [blk, if_neg (by omega)]
  · have e1 : l.take k = l := List.take_of_length_le (by omega)
    have e2 : l.drop k = [] := List.drop_eq_nil_of_le (by omega)
    rw [blk_small (by omega), e1, e2, blk_small (by simp), isortP_nil, List.append_nil]
theorem blk_len {k : Nat} : ∀ (n : Nat) (l : List α), l.length ≤ n → (blk c k l).length = l.length := by
  intro n
  induction n with
  | zero => intro l h; rw [blk_small (by omega), isortP_len]
  | succ n ih =>
    intro l h
    rw [blk]
    split
    · exact isortP_len l
    · rw [List.length_append, isortP_len, ih _ (by simp; omega)]; simp; omega
theorem blk_mem {k : Nat} : ∀ (n : Nat) (l : List α), l.length ≤ n → ∀ z, z ∈ blk c k l ↔ z ∈ l := by
  intro n
  induction n with
  | zero => intro l h z; rw [blk_small (by omega), isortP_mem]
  | succ n ih =>
    intro l h z
    rw [blk]
    split
    · exact isortP_mem
    · rw [List.mem_append, isortP_mem, ih _ (by simp; omega), ← List.mem_append, List.take_append_drop]
end
end Go.Proofs.Cost58
namespace Go.Proofs.Cost58

section
variable {α : Type} {c : α → α → Int}
theorem insR_perm (x : α) : ∀ R, (insR c x R).Perm (x :: R)
  | [] => .refl _
  | y :: r => by
    unfold insR; split
    · exact ((insR_perm x r).cons y).trans (.swap x y r)
    · exact .refl _
theorem isF_perm : ∀ (xs R : List α), (xs.foldl (fun R x => insR c x R) R).Perm (xs ++ R)
  | [], R => .refl _
  | x :: xs, R => by
    rw [List.foldl_cons]
    exact (isF_perm xs _).trans (((insR_perm x R).append_left xs).trans List.perm_middle)
theorem isortP_perm (xs : List α) : (isortP c xs).Perm xs := by
  unfold isortP isR
  exact (List.reverse_perm _).trans (by have := isF_perm (c := c) xs []; rwa [List.append_nil] at this)
/-- stable: what comes first stays first -/
theorem insR_stable {key : α → Int} (hk : ∀ a b, c a b < 0 ↔ key a < key b) {lt : α → α → Prop} {x : α} : ∀ {R : List α}, R.Pairwise (fun b a => key a < key b ∨ (key a = key b ∧ lt a b)) → (∀ y ∈ R, lt y x) → (insR c x R).Pairwise (fun b a => key a < key b ∨ (key a = key b ∧ lt a b))
  | [], _, _ => by simp [insR]
  | y :: r, h, hx => by
    obtain ⟨h1, h2⟩ := List.pairwise_cons.1 h
    unfold insR
    split
    · rename_i hc
      rw [hk] at hc
      refine List.pairwise_cons.2 ⟨fun a ha => ?_, insR_stable hk h2 (fun z hz => hx z (by simp [hz]))⟩
      rcases insR_mem.1 ha with rfl | ha
      · exact .inl hc
      · exact h1 a ha
    · rename_i hc
      rw [hk] at hc
      refine List.pairwise_cons.2 ⟨fun a ha => ?_, h⟩
      rcases List.mem_cons.1 ha with rfl | ha
      · rcases Int.lt_or_eq_of_le (Int.not_lt.1 hc) with hlt | heq
        · exact .inl hlt
        · exact .inr ⟨heq, hx a (by simp)⟩
      · have := h1 a ha
        have hxa := hx a (by simp [ha])
        rcases this with hlt | ⟨heq, _⟩
        · exact .inl (by omega)
        · rcases Int.lt_or_eq_of_le (Int.not_lt.1 hc) with hlt | heq'
          · exact .inl (by omega)
          · exact .inr ⟨by omega, hxa⟩
theorem isF_stable {key : α → Int} (hk : ∀ a b, c a b < 0 ↔ key a < key b) {lt : α → α → Prop} : ∀ (xs R : List α), R.Pairwise (fun b a => key a < key b ∨ (key a = key b ∧ lt a b)) → (∀ y ∈ R, ∀ x ∈ xs, lt y x) → xs.Pairwise lt → (xs.foldl (fun R x => insR c x R) R).Pairwise (fun b a => key a < key b ∨ (key a = key b ∧ lt a b))
  | [], R, h, _, _ => h
  | x :: xs, R, h, hx, hp => by
    obtain ⟨p1, p2⟩ := List.pairwise_cons.1 hp
    rw [List.foldl_cons]
    refine isF_stable hk xs _ (insR_stable hk h (fun y hy => hx y hy x (by simp))) (fun y hy z hz => ?_) p2
    rcases insR_mem.1 hy with rfl | hy
    · exact p1 z hz
    · exact hx y hy z (by simp [hz])
theorem isortP_stable {key : α → Int} (hk : ∀ a b, c a b < 0 ↔ key a < key b) {lt : α → α → Prop} (xs : List α) (hp : xs.Pairwise lt) : (isortP c xs).Pairwise (fun a b => key a < key b ∨ (key a = key b ∧ lt a b)) := by
  unfold isortP isR
  rw [List.pairwise_reverse]
  exact isF_stable hk xs [] .nil (fun y hy => by simp at hy) hp
end

theorem perm_sum {α : Type} (f : α → Int) {l l' : List α} (h : l.Perm l') : (l.map f).sum = (l'.map f).sum := by
  induction h with
  | nil => rfl
  | cons x _ ih => simp [ih]
  | swap x y l => simp only [List.map_cons, List.sum_cons]; omega
  | trans _ _ h1 h2 => rw [h1, h2]

/-- the numbers of the weights -/
def idxs (n : Nat) : List Int := (List.range n).map Int.ofNat
theorem idxs_len (n : Nat) : (idxs n).length = n := by simp [idxs]
theorem idxs_mem {n : Nat} {i : Int} : i ∈ idxs n ↔ 0 ≤ i ∧ i < n := by
  unfold idxs
  rw [List.mem_map]
  constructor
  · rintro ⟨k, hk, rfl⟩
    rw [List.mem_range] at hk
    have : Int.ofNat k = (k : Int) := rfl
    omega
  · rintro ⟨h0, h1⟩
    exact ⟨i.toNat, by rw [List.mem_range]; omega, by show ((i.toNat : Nat) : Int) = i; omega⟩
theorem idxs_lt (n : Nat) : (idxs n).Pairwise (· < ·) := by
  unfold idxs
  rw [List.pairwise_map]
  exact List.pairwise_lt_range.imp (fun h => by
    rename_i a b
    show (a : Int) < (b : Int)
    omega)
theorem idxs_succ (n : Nat) : idxs (n + 1) = idxs n ++ [(n : Int)] := by
  unfold idxs; rw [List.range_succ, List.map_append]; rfl

def quos (am s : Int) (ws : List Int) : List Int := ws.map fun w => (am * w).tdiv s
def leftP (am s : Int) (ws : List Int) : Int := am - (quos am s ws).sum
def ordP (am s : Int) (ws : List Int) : List Int := isortP (ordF am s ws) (idxs ws.length)
def bump (o : List Int) (is : List Int) : List Int := is.foldl (fun o i => o.set i.toNat (o.getD i.toNat 0 + 1)) o
def shareP (am s : Int) (ws : List Int) : List Int := bump (quos am s ws) ((ordP am s ws).take (leftP am s ws).toNat)

theorem bump_len : ∀ (is o : List Int), (bump o is).length = o.length
  | [], o => rfl
  | i :: is, o => by
    show (bump (o.set i.toNat (o.getD i.toNat 0 + 1)) is).length = _
    rw [bump_len is]; simp
theorem bump_snoc (o is : List Int) (i : Int) : bump o (is ++ [i]) = (bump o is).set i.toNat ((bump o is).getD i.toNat 0 + 1) := by unfold bump; rw [List.foldl_append]; rfl
theorem bump_get (o : List Int) (j : Nat) (hj : j < o.length) : ∀ (is : List Int), (∀ i ∈ is, 0 ≤ i) → is.Nodup → (bump o is).getD j 0 = o.getD j 0 + if (j : Int) ∈ is then 1 else 0 := by
  intro is
  refine snoc_ind (p := fun is : List Int => (∀ i ∈ is, 0 ≤ i) → is.Nodup → (bump o is).getD j 0 = o.getD j 0 + if (j : Int) ∈ is then 1 else 0) ?_ ?_ is
  · intro _ _; simp [bump]
  · intro xs x ih h0 hn
    have hn' := List.nodup_append.1 hn
    have ih' := ih (fun i hi => h0 i (by simp [hi])) hn'.1
    have hx0 := h0 x (by simp)
    have hxn : x ∉ xs := fun h => hn'.2.2 x h x (by simp) rfl
    rw [bump_snoc]
    by_cases e : x.toNat = j
    · have ex : (j : Int) = x := by omega
      rw [e]
      have hl : j < (bump o xs).length := by rw [bump_len]; exact hj
      rw [List.getD_eq_getElem?_getD (l := List.set _ _ _), List.getElem?_set_self hl]
      rw [ih', if_neg (by rw [ex]; exact hxn), if_pos (by rw [ex]; simp)]
      simp
    · have ex : (j : Int) ≠ x := by omega
      rw [List.getD_eq_getElem?_getD (l := List.set _ _ _), List.getElem?_set_ne e, ← List.getD_eq_getElem?_getD, ih']
      congr 1
      simp [ex]
theorem sum_set : ∀ (l : List Int) (i : Nat) (v : Int), i < l.length → (l.set i v).sum = l.sum - l.getD i 0 + v
  | [], i, v, h => by simp at h
  | x :: l, 0, v, _ => by simp; omega
  | x :: l, i + 1, v, h => by
    have := sum_set l i v (by simpa using h)
    simp only [List.set_cons_succ, List.sum_cons, this]
    rw [show (x :: l).getD (i + 1) 0 = l.getD i 0 by simp]
    omega
theorem bump_sum (o : List Int) (is : List Int) : (∀ i ∈ is, 0 ≤ i ∧ i < o.length) → (bump o is).sum = o.sum + is.length := by
  refine snoc_ind (p := fun is : List Int => (∀ i ∈ is, 0 ≤ i ∧ i < o.length) → (bump o is).sum = o.sum + is.length) ?_ ?_ is
  · intro _; simp [bump]
  · intro xs x ih h
    have := h x (by simp)
    rw [bump_snoc, sum_set _ _ _ (by rw [bump_len]; omega), ih (fun i hi => h i (by simp [hi]))]
    simp; omega

section
variable {am s : Int} {ws : List Int}
structure ShareOk (am s : Int) (ws : List Int) : Prop where
  am0 : 0 ≤ am
  s0 : 0 < s
  w0 : ∀ w ∈ ws, 0 ≤ w
  sum : ws.sum = s

theorem quo_rem (h : ShareOk am s ws) {w : Int} (hw : w ∈ ws) : am * w = s * (am * w).tdiv s + (am * w).tmod s ∧ 0 ≤ (am * w).tmod s ∧ (am * w).tmod s < s ∧ 0 ≤ (am * w).tdiv s := by
  have h0 : 0 ≤ am * w := Int.mul_nonneg h.am0 (h.w0 w hw)
  have hs := h.s0
  rw [Int.tdiv_eq_ediv_of_nonneg h0, Int.tmod_eq_emod_of_nonneg h0]
  refine ⟨(Int.mul_ediv_add_emod _ _).symm, Int.emod_nonneg _ (by omega), Int.emod_lt_of_pos _ hs, Int.ediv_nonneg h0 (by omega)⟩
theorem sum_parts (am s : Int) : ∀ (l : List Int), (∀ w ∈ l, am * w = s * (am * w).tdiv s + (am * w).tmod s) → am * l.sum = s * (quos am s l).sum + (l.map fun w => (am * w).tmod s).sum
  | [], _ => by simp [quos]
  | w :: l, h => by
    have h1 := h w (by simp)
    have h2 := sum_parts am s l (fun w hw => h w (by simp [hw]))
    unfold quos at h2 ⊢
    simp only [List.map_cons, List.sum_cons, Int.mul_add]
    omega
theorem rests_eq : (idxs ws.length).map (restF am s ws) = ws.map fun w => (am * w).tmod s := by
  unfold idxs
  rw [List.map_map]
  apply List.ext_getElem (by simp)
  intro i h1 h2
  simp at h1
  simp only [List.getElem_map, List.getElem_range, Function.comp]
  unfold restF
  rw [show (Int.ofNat i).toNat = i from rfl, List.getD_eq_getElem?_getD, List.getElem?_eq_getElem h1]
  rfl
theorem ord_perm : (ordP am s ws).Perm (idxs ws.length) := isortP_perm _
theorem ord_mem {i : Int} : i ∈ ordP am s ws ↔ 0 ≤ i ∧ i < ws.length := by rw [ord_perm.mem_iff, idxs_mem]
theorem ord_len : (ordP am s ws).length = ws.length := by rw [ord_perm.length_eq, idxs_len]
theorem ord_nodup : (ordP am s ws).Nodup := by
  rw [ord_perm.nodup_iff]
  exact (idxs_lt _).imp (fun h => by omega)
theorem cmpI_neg (a b : Int) : cmpI a b < 0 ↔ a < b := by
  unfold cmpI; split
  · simp [*]
  · split <;> simp <;> omega
theorem ordF_neg (i j : Int) : ordF am s ws i j < 0 ↔ - restF am s ws i < - restF am s ws j := by unfold ordF; rw [cmpI_neg]; omega
theorem ord_sorted : (ordP am s ws).Pairwise (fun i j => restF am s ws j < restF am s ws i ∨ (restF am s ws i = restF am s ws j ∧ i < j)) :=
  (isortP_stable (key := fun i => - restF am s ws i) (lt := (· < ·)) (fun a b => ordF_neg a b) _ (idxs_lt _)).imp (fun h => by omega)
theorem rest_bd (h : ShareOk am s ws) {i : Int} (hi : 0 ≤ i ∧ i < ws.length) : 0 ≤ restF am s ws i ∧ restF am s ws i < s := by
  unfold restF
  have hl : i.toNat < ws.length := by omega
  rw [List.getD_eq_getElem?_getD, List.getElem?_eq_getElem hl]
  have := quo_rem h (List.getElem_mem hl)
  exact ⟨this.2.1, this.2.2.1⟩
theorem left_eq (h : ShareOk am s ws) : s * leftP am s ws = ((ordP am s ws).map (restF am s ws)).sum := by
  rw [perm_sum _ ord_perm, rests_eq]
  have h1 := sum_parts am s ws (fun w hw => (quo_rem h hw).1)
  rw [h.sum, Int.mul_comm] at h1
  unfold leftP
  rw [Int.mul_sub]; omega
theorem sum_le {f : Int → Int} {b : Int} : ∀ (l : List Int), (∀ i ∈ l, f i ≤ b) → (l.map f).sum ≤ l.length * b
  | [], _ => by simp
  | x :: l, h => by
    have := sum_le l (fun i hi => h i (by simp [hi]))
    have h1 := h x (by simp)
    simp only [List.map_cons, List.sum_cons, List.length_cons]
    rw [show (((l.length + 1 : Nat) : Int)) = (l.length : Int) + 1 by omega, Int.add_mul]; omega
theorem sum_ge0 {f : Int → Int} : ∀ (l : List Int), (∀ i ∈ l, 0 ≤ f i) → 0 ≤ (l.map f).sum
  | [], _ => by simp
  | x :: l, h => by
    have := sum_ge0 l (fun i hi => h i (by simp [hi]))
    have h1 := h x (by simp)
    simp only [List.map_cons, List.sum_cons]; omega
theorem left_bd (h : ShareOk am s ws) : 0 ≤ leftP am s ws ∧ (leftP am s ws < ws.length ∨ leftP am s ws = 0) := by
  have e := left_eq h
  have h0 := sum_ge0 (f := restF am s ws) (ordP am s ws) (fun i hi => (rest_bd h (ord_mem.1 hi)).1)
  have h1 := sum_le (f := restF am s ws) (b := s - 1) (ordP am s ws) (fun i hi => by have := (rest_bd h (ord_mem.1 hi)).2; omega)
  rw [ord_len, ← e] at h1
  rw [← e] at h0
  have hs := h.s0
  have hl0 : 0 ≤ leftP am s ws := by
    rcases Int.lt_or_le (leftP am s ws) 0 with hn | hn
    · have := Int.mul_neg_of_pos_of_neg hs hn
      omega
    · exact hn
  refine ⟨hl0, ?_⟩
  rcases Int.lt_or_le (leftP am s ws) ws.length with hn | hn
  · exact .inl hn
  · have h2 : s * (ws.length : Int) ≤ s * leftP am s ws := Int.mul_le_mul_of_nonneg_left hn (by omega)
    rw [Int.mul_sub, Int.mul_comm (ws.length : Int) s] at h1
    have hn0 : (ws.length : Int) = 0 := by omega
    right
    have : ws = [] := List.length_eq_zero_iff.1 (by omega)
    have hs' := h.sum
    rw [this] at hs'
    simp at hs'
    omega
theorem left_len (h : ShareOk am s ws) : ((ordP am s ws).take (leftP am s ws).toNat).length = (leftP am s ws).toNat := by
  have := left_bd h
  rw [List.length_take, ord_len]; omega
/-- what is bumped has a remainder -/
theorem taken_pos (h : ShareOk am s ws) {i : Int} (hi : i ∈ (ordP am s ws).take (leftP am s ws).toNat) : 0 < restF am s ws i := by
  have hb := rest_bd h (ord_mem.1 (List.mem_of_mem_take hi))
  rcases Int.lt_or_le 0 (restF am s ws i) with hp | hp
  · exact hp
  · exfalso
    have hz : restF am s ws i = 0 := by omega
    have e := left_eq h
    have hsrt := ord_sorted (am := am) (s := s) (ws := ws)
    rw [← List.take_append_drop (leftP am s ws).toNat (ordP am s ws)] at hsrt
    have hcross := (List.pairwise_append.1 hsrt).2.2 i hi
    rw [← List.take_append_drop (leftP am s ws).toNat (ordP am s ws), List.map_append, List.sum_append] at e
    have hdrop : (((ordP am s ws).drop (leftP am s ws).toNat).map (restF am s ws)).sum ≤ 0 := by
      have := sum_le (f := restF am s ws) (b := 0) ((ordP am s ws).drop (leftP am s ws).toNat) (fun j hj => by have := hcross j hj; omega)
      simpa using this
    have htake := sum_le (f := restF am s ws) (b := s - 1) ((ordP am s ws).take (leftP am s ws).toNat) (fun j hj => by have := (rest_bd h (ord_mem.1 (List.mem_of_mem_take hj))).2; omega)
    rw [left_len h] at htake
    have hl := left_bd h
    have hne : 0 < (leftP am s ws).toNat := by
      rw [← left_len h]; exact List.length_pos_of_mem hi
    rw [show (((leftP am s ws).toNat : Nat) : Int) = leftP am s ws by omega, Int.mul_sub, Int.mul_comm _ s] at htake
    omega
theorem quos_len : (quos am s ws).length = ws.length := by simp [quos]
theorem quos_get {j : Nat} (hj : j < ws.length) : (quos am s ws).getD j 0 = (am * ws[j]).tdiv s := by
  unfold quos
  rw [List.getD_eq_getElem?_getD, List.getElem?_map, List.getElem?_eq_getElem hj]; rfl
theorem share_len : (shareP am s ws).length = ws.length := by unfold shareP; rw [bump_len, quos_len]
theorem share_get {j : Nat} (hj : j < ws.length) : (shareP am s ws).getD j 0 = (am * ws[j]).tdiv s + if (j : Int) ∈ (ordP am s ws).take (leftP am s ws).toNat then 1 else 0 := by
  unfold shareP
  rw [bump_get _ _ (by rw [quos_len]; exact hj) _ (fun i hi => (ord_mem.1 (List.mem_of_mem_take hi)).1) (ord_nodup.sublist (List.take_sublist _ _)), quos_get hj]
theorem share_sum (h : ShareOk am s ws) : (shareP am s ws).sum = am := by
  unfold shareP
  rw [bump_sum _ _ (fun i hi => by rw [quos_len]; exact ord_mem.1 (List.mem_of_mem_take hi)), left_len h]
  have := left_bd h
  unfold leftP at this ⊢
  omega
theorem rest_at {j : Nat} (hj : j < ws.length) : restF am s ws j = (am * ws[j]).tmod s := by
  unfold restF
  rw [show ((j : Int)).toNat = j from rfl, List.getD_eq_getElem?_getD, List.getElem?_eq_getElem hj]; rfl
theorem share_near (h : ShareOk am s ws) {j : Nat} (hj : j < ws.length) : (shareP am s ws).getD j 0 * s - am * ws[j] < s ∧ - s < (shareP am s ws).getD j 0 * s - am * ws[j] := by
  have hq := quo_rem h (List.getElem_mem hj)
  have hs := h.s0
  rw [share_get hj]
  by_cases hm : (j : Int) ∈ (ordP am s ws).take (leftP am s ws).toNat
  · have hp := taken_pos h hm
    rw [rest_at hj] at hp
    rw [if_pos hm, Int.add_mul, Int.mul_comm _ s]; omega
  · rw [if_neg hm, Int.add_mul, Int.mul_comm _ s]; omega
theorem share_mono (h : ShareOk am s ws) {i k : Nat} (hi : i < ws.length) (hk : k < ws.length) (hw : ws[k] < ws[i]) : (shareP am s ws).getD k 0 ≤ (shareP am s ws).getD i 0 := by
  have hqi := quo_rem h (List.getElem_mem hi)
  have hqk := quo_rem h (List.getElem_mem hk)
  have hs := h.s0
  rw [share_get hi, share_get hk]
  have hle : am * ws[k] ≤ am * ws[i] := Int.mul_le_mul_of_nonneg_left (by omega) h.am0
  rw [hqi.1, hqk.1] at hle
  generalize hA : (am * ws[i]).tdiv s = A at *
  generalize hB : (am * ws[k]).tdiv s = B at *
  rcases Int.lt_trichotomy A B with hlt | heq | hgt
  · exfalso
    have h1 : A + 1 ≤ B := by omega
    have h2 : s * (A + 1) ≤ s * B := Int.mul_le_mul_of_nonneg_left h1 (by omega)
    rw [Int.mul_add] at h2
    omega
  · subst heq
    by_cases hm : (k : Int) ∈ (ordP am s ws).take (leftP am s ws).toNat
    · have hpk := taken_pos h hm
      rw [if_pos hm]
      by_cases hi' : (i : Int) ∈ (ordP am s ws).take (leftP am s ws).toNat
      · rw [if_pos hi']; omega
      · exfalso
        have hin : (i : Int) ∈ (ordP am s ws).drop (leftP am s ws).toNat := by
          have hall : (i : Int) ∈ ordP am s ws := ord_mem.2 (by omega)
          rw [← List.take_append_drop (leftP am s ws).toNat (ordP am s ws), List.mem_append] at hall
          rcases hall with h' | h'
          · exact (hi' h').elim
          · exact h'
        have hsrt := ord_sorted (am := am) (s := s) (ws := ws)
        rw [← List.take_append_drop (leftP am s ws).toNat (ordP am s ws)] at hsrt
        have hcr := (List.pairwise_append.1 hsrt).2.2 _ hm _ hin
        rw [rest_at hi, rest_at hk] at hcr
        have ham : am ≠ 0 := by
          rintro rfl
          rw [rest_at hk] at hpk
          simp at hpk
        have hst : am * ws[k] < am * ws[i] := Int.mul_lt_mul_of_pos_left hw (by have := h.am0; omega)
        rw [hqi.1, hqk.1] at hst
        omega
    · rw [if_neg hm]; split <;> omega
  · split <;> split <;> omega

/-! the other way: the greatest one, again and again -/
def doneP (am s : Int) (ws : List Int) (k : Nat) (i : Int) : Prop := i ∈ (ordP am s ws).take k
/-- what the scan of the first m numbers has found -/
def BestP (am s : Int) (ws : List Int) (k m : Nat) (b : Int) : Prop :=
  (b = -1 ∧ ∀ i : Int, 0 ≤ i → i < m → doneP am s ws k i) ∨
  ((0 ≤ b ∧ b < m) ∧ ¬ doneP am s ws k b ∧ ∀ i : Int, 0 ≤ i → i < m → ¬ doneP am s ws k i → restF am s ws i < restF am s ws b ∨ (restF am s ws i = restF am s ws b ∧ b ≤ i))
theorem best_zero {k : Nat} : BestP am s ws k 0 (-1) := .inl ⟨rfl, fun i h0 h1 => by omega⟩
theorem best_done {k m : Nat} {b : Int} (h : BestP am s ws k m b) (hd : doneP am s ws k m) : BestP am s ws k (m + 1) b := by
  rcases h with ⟨h1, h2⟩ | ⟨h1, h2, h3⟩
  · refine .inl ⟨h1, fun i h0 hi => ?_⟩
    rcases Int.lt_or_le i m with hlt | hge
    · exact h2 i h0 hlt
    · rw [show i = (m : Int) by omega]; exact hd
  · refine .inr ⟨by omega, h2, fun i h0 hi hn => ?_⟩
    rcases Int.lt_or_le i m with hlt | hge
    · exact h3 i h0 hlt hn
    · rw [show i = (m : Int) by omega] at hn; exact (hn hd).elim
theorem best_keep {k m : Nat} {b : Int} (h : BestP am s ws k m b) (hb : 0 ≤ b) (hr : restF am s ws m ≤ restF am s ws b) : BestP am s ws k (m + 1) b := by
  rcases h with ⟨h1, h2⟩ | ⟨h1, h2, h3⟩
  · omega
  · refine .inr ⟨by omega, h2, fun i h0 hi hn => ?_⟩
    rcases Int.lt_or_le i m with hlt | hge
    · exact h3 i h0 hlt hn
    · rw [show i = (m : Int) by omega]; omega
theorem best_new {k m : Nat} {b : Int} (h : BestP am s ws k m b) (hd : ¬ doneP am s ws k m) (hr : b < 0 ∨ restF am s ws b < restF am s ws m) : BestP am s ws k (m + 1) m := by
  refine .inr ⟨by omega, hd, fun i h0 hi hn => ?_⟩
  rcases Int.lt_or_le i m with hlt | hge
  · rcases h with ⟨h1, h2⟩ | ⟨h1, h2, h3⟩
    · exact (hn (h2 i h0 hlt)).elim
    · have := h3 i h0 hlt hn
      omega
  · rw [show i = (m : Int) by omega]; omega
theorem best_is {k : Nat} {b : Int} (h : BestP am s ws k ws.length b) (hk : k < ws.length) : (ordP am s ws)[k]? = some b := by
  have hkl : k < (ordP am s ws).length := by rw [ord_len]; exact hk
  have hd : (ordP am s ws).drop k = (ordP am s ws)[k] :: (ordP am s ws).drop (k + 1) := List.drop_eq_getElem_cons hkl
  have hsrt := ord_sorted (am := am) (s := s) (ws := ws)
  have hnd := ord_nodup (am := am) (s := s) (ws := ws)
  have hx : (ordP am s ws)[k] ∈ ordP am s ws := List.getElem_mem hkl
  have hxm := ord_mem.1 hx
  rw [← List.take_append_drop k (ordP am s ws), hd] at hsrt hnd
  have hnot : ¬ doneP am s ws k (ordP am s ws)[k] := fun hin => (List.nodup_append.1 hnd).2.2 _ hin _ List.mem_cons_self rfl
  rw [List.getElem?_eq_getElem hkl]
  generalize hxe : (ordP am s ws)[k] = x at *
  rcases h with ⟨h1, h2⟩ | ⟨h1, h2, h3⟩
  · exact (hnot (h2 x hxm.1 hxm.2)).elim
  · have hb : b ∈ ordP am s ws := ord_mem.2 h1
    rw [← List.take_append_drop k (ordP am s ws), hd, List.mem_append] at hb
    rcases hb with hb | hb
    · exact (h2 hb).elim
    · rcases List.mem_cons.1 hb with rfl | hb
      · rfl
      · have hp := (List.pairwise_cons.1 (List.pairwise_append.1 hsrt).2.1).1 b hb
        have hq := h3 x hxm.1 hxm.2 hnot
        omega
theorem done_succ {k : Nat} {b : Int} (hb : (ordP am s ws)[k]? = some b) (i : Int) : doneP am s ws (k + 1) i ↔ doneP am s ws k i ∨ i = b := by
  unfold doneP
  rw [List.take_add_one, hb]; simp
theorem bump_succ {k : Nat} {b : Int} (o : List Int) (hb : (ordP am s ws)[k]? = some b) : bump o ((ordP am s ws).take (k + 1)) = (bump o ((ordP am s ws).take k)).set b.toNat ((bump o ((ordP am s ws).take k)).getD b.toNat 0 + 1) := by
  rw [List.take_add_one, hb]
  exact bump_snoc _ _ _
end
end Go.Proofs.Cost58
