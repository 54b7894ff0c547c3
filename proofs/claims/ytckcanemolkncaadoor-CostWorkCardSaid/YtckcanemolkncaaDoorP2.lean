/-
  Stable sorting, walked: the insertion sort. (at placements)
  Stable sorting, walked: swapping of ranges, rotation. (at placements)
-/
import Derived.Test.YtckcanemolkncaaDoorS3
set_option linter.unusedVariables false
set_option linter.unusedSimpArgs false
namespace Go.Proofs.Cost58.Pz
open Go Go.Proofs Go.Ab Go.Proofs.Cost58
set_option maxRecDepth 100000
abbrev Pl := Int × Int × Int × Int
def plV (p : Pl) : V := .agg [I p.1, I p.2.1, I p.2.2.1, I p.2.2.2]
variable {g : FuncId} {c : Pl → Pl → Int} {Q : Pl → Prop}
abbrev CmpOk (g : FuncId) (c : Pl → Pl → Int) (Q : Pl → Prop) : Prop := ∀ i j, Q i → Q j → Sp g [plV i, plV j] (I (c i j))

theorem ins_vc (hc : CmpOk g c Q) (pre xs post : List Pl) (hq : ∀ x ∈ xs, Q x) (hl : pre.length + xs.length + post.length ≤ 100000) :
    fnIO T Tryd.prog Tryd.f102 [.own 102 ((pre ++ xs ++ post).map plV), I pre.length, I (pre.length + xs.length), .fn g []] (.tup []) 0 102 ((pre ++ isortP c xs ++ post).map plV) := by
  repeat' ((conv => whnf); first
    | refine seq_go ?_
    | refine draw_i (by kernel_rfl) ?_
    | refine arith_half (by omega) ?_
    | refine arith_in (by omega) ?_
    | refine arith_u (by omega) ?_
    | refine need_i (p := (T.row _).eq = true) (by kernel_rfl) ?_
    | refine need_i (by omega) ?_
    | refine br_not ?_
    | refine br_dec (fun hd => ?_) (fun hd => ?_)
    | refine br_lt (fun hlt => ?_) (fun hlt => ?_)
    | refine br_le (fun hle => ?_) (fun hle => ?_)
    | refine br_eq (fun heq => ?_) (fun heq => ?_)
    | refine idx_map (by omega) (fun x hx => ?_)
    | refine live_i rfl (fun h => by cases h) ?_
    | refine branch_s (fun hbb => ?_) (fun hbb => ?_)
    | refine ret_i ?_)
  refine loop_i (A := Nat) (fun k => mkSt [(0, .arr 0 0), (1, I pre.length), (2, I (pre.length + xs.length)), (3, .fn g []), (8, I (pre.length + k))] [] [(0, ⟨0, .own, 102, (pre ++ (isR c (xs.take k)).reverse ++ xs.drop k ++ post).map plV⟩)])
    (fun k => 1 ≤ k ∧ (k ≤ xs.length ∨ k = 1)) (fun k => xs.length - k) 1 ?_ ⟨by omega, .inr rfl⟩ (fun k hk => ?_)
  · refine le_mk ?_ ?_ ?_ ?_
    all_goals repeat' (first | exact trivial | refine And.intro ?_ ?_ | with_reducible rfl | exact Nat.le_refl _ | omega | exact rfl)
    · show List.map plV (pre ++ xs ++ post) = List.map plV (pre ++ (isR c (List.take 1 xs)).reverse ++ List.drop 1 xs ++ post)
      cases xs with
      | nil => simp [isR]
      | cons x r => simp [isR, insR]
  · change 1 ≤ k ∧ (k ≤ xs.length ∨ k = 1) at hk
    rcases Nat.lt_or_ge k xs.length with hkl | hkl
    · have hd : xs.drop k = xs[k] :: xs.drop (k + 1) := List.drop_eq_getElem_cons hkl
      have ht : xs.take (k + 1) = xs.take k ++ [xs[k]] := by rw [List.take_add_one, List.getElem?_eq_getElem hkl]; rfl
      have hx0 : Q xs[k] := hq _ (List.getElem_mem hkl)
      generalize xs[k] = x at hd ht hx0
      obtain ⟨tl, hd'⟩ : ∃ tl, xs.drop (k + 1) = tl := ⟨_, rfl⟩
      rw [hd'] at hd
      have hlen : (isR c (xs.take k)).length = k := by rw [isR_len, List.length_take]; omega
      have hR0 : ∀ z ∈ isR c (xs.take k), Q z := fun z hz => hq z (List.mem_of_mem_take (isR_mem.1 hz))
      have hnew : isR c (xs.take (k + 1)) = insR c x (isR c (xs.take k)) := by rw [ht, isR_snoc]
      generalize isR c (xs.take k) = R0 at hlen hR0 hnew
      rw [hd]
      repeat' ((conv => whnf); first
        | (exfalso; omega)
        | refine seq_go ?_
        | refine draw_i (by kernel_rfl) ?_
        | refine arith_half (by omega) ?_
        | refine arith_in (by omega) ?_
        | refine arith_u (by omega) ?_
        | refine need_i (p := (T.row _).eq = true) (by kernel_rfl) ?_
        | refine need_i (by omega) ?_
        | refine br_not ?_
        | refine br_dec (fun hd => ?_) (fun hd => ?_)
        | refine br_lt (fun hlt => ?_) (fun hlt => ?_)
        | refine br_le (fun hle => ?_) (fun hle => ?_)
        | refine br_eq (fun heq => ?_) (fun heq => ?_)
        | refine idx_map (by omega) (fun x hx => ?_)
        | refine live_i rfl (fun h => by cases h) ?_
        | refine branch_s (fun hbb => ?_) (fun hbb => ?_)
        | refine ret_i ?_)
      refine loop_2 (A := List Pl) (B := List Pl) (fun R M => mkSt [(0, .arr 0 0), (1, I pre.length), (2, I (pre.length + xs.length)), (3, .fn g []), (8, I (pre.length + k)), (9, I (pre.length + R.length))] [] [(0, ⟨0, .own, 102, (pre ++ (R.reverse ++ x :: (M ++ tl)) ++ post).map plV⟩)])
        (fun R M => R.length ≤ k ∧ (∀ z ∈ R, Q z) ∧ (insR c x R0).reverse = (insR c x R).reverse ++ M) (fun R M => R.length) R0 [] ?_ ⟨by omega, hR0, by simp⟩ (fun R M hp => ?_)
      · refine le_mk ?_ ?_ ?_ ?_
        all_goals repeat' (first | exact trivial | refine And.intro ?_ ?_ | with_reducible rfl | exact Nat.le_refl _ | omega | exact rfl)
        · show List.map plV (pre ++ R0.reverse ++ x :: tl ++ post) = List.map plV (pre ++ (R0.reverse ++ x :: ([] ++ tl)) ++ post)
          simp
      · obtain ⟨hp1, hp2, hp3⟩ := hp
        change R.length ≤ k at hp1
        change ∀ z ∈ R, Q z at hp2
        change (insR c x R0).reverse = (insR c x R).reverse ++ M at hp3
        cases R with
        | nil =>
          have hn : ([] : List Pl).length = 0 := rfl
          repeat' ((conv => whnf); first
            | (exfalso; omega)
            | refine seq_go ?_
            | refine draw_i (by kernel_rfl) ?_
            | refine arith_half (by omega) ?_
            | refine arith_in (by omega) ?_
            | refine arith_u (by omega) ?_
            | refine need_i (p := (T.row _).eq = true) (by kernel_rfl) ?_
            | refine need_i (by omega) ?_
            | refine br_not ?_
            | refine br_dec (fun hd => ?_) (fun hd => ?_)
            | refine br_lt (fun hlt => ?_) (fun hlt => ?_)
            | refine br_le (fun hle => ?_) (fun hle => ?_)
            | refine br_eq (fun heq => ?_) (fun heq => ?_)
            | refine idx_map (by omega) (fun x hx => ?_)
            | refine live_i rfl (fun h => by cases h) ?_
            | refine branch_s (fun hbb => ?_) (fun hbb => ?_)
            | refine ret_i ?_)
          refine ⟨k + 1, ?_, ⟨by omega, .inl (by omega)⟩, by omega⟩
          rw [hnew]
          refine le_mk ?_ ?_ ?_ ?_
          all_goals repeat' (first | exact trivial | refine And.intro ?_ ?_ | with_reducible rfl | exact Nat.le_refl _ | omega | exact rfl)
          · show List.map plV (pre ++ ([].reverse ++ x :: (M ++ tl)) ++ post) = List.map plV (pre ++ (insR c x R0).reverse ++ List.drop (k + 1) xs ++ post)
            rw [hp3, hd']
            simp [insR]
        | cons y r =>
          have hsz : (pre ++ ((y :: r).reverse ++ x :: (M ++ tl)) ++ post).length = pre.length + (r.length + 1) + 1 + (M ++ tl ++ post).length := by simp; omega
          have hlc : (y :: r).length = r.length + 1 := rfl
          repeat' ((conv => whnf); first
            | (exfalso; omega)
            | (refine need_set (l := pre ++ ((y :: r).reverse ++ x :: (M ++ tl)) ++ post) rfl (fun h => by cases h) rfl ?_ ?_; focus (constructor <;> omega))
            | refine idx_set_ne (by omega) ?_
            | (refine need_mid (l := pre ++ ((y :: r).reverse ++ x :: (M ++ tl)) ++ post) rfl (fun h => by cases h) rfl ?_ ?_; focus (constructor <;> omega))
            | refine idx_mid (l := pre ++ ((y :: r).reverse ++ x :: (M ++ tl)) ++ post) (A := pre ++ (y :: r).reverse) (x := x) (B := M ++ tl ++ post) (by simp) (by simp; omega) ?_
            | refine idx_mid (l := pre ++ ((y :: r).reverse ++ x :: (M ++ tl)) ++ post) (A := pre ++ r.reverse) (x := y) (B := x :: (M ++ tl ++ post)) (by simp) (by simp; omega) ?_
            | (refine call_i (hc x y hx0 (hp2 y (by simp))) false ?_ rfl ?_; focus ((repeat' (first | exact trivial | refine And.intro ?_ ?_ | with_reducible rfl | exact (fun h => by cases h) | exact rfl)); done))
            | refine own_i rfl rfl ?_
            | refine seq_go ?_
            | refine draw_i (by kernel_rfl) ?_
            | refine arith_half (by omega) ?_
            | refine arith_in (by omega) ?_
            | refine arith_u (by omega) ?_
            | refine need_i (p := (T.row _).eq = true) (by kernel_rfl) ?_
            | refine need_i (by omega) ?_
            | refine br_not ?_
            | refine br_dec (fun hd => ?_) (fun hd => ?_)
            | refine br_lt (fun hlt => ?_) (fun hlt => ?_)
            | refine br_le (fun hle => ?_) (fun hle => ?_)
            | refine br_eq (fun heq => ?_) (fun heq => ?_)
            | refine idx_map (by omega) (fun x hx => ?_)
            | refine live_i rfl (fun h => by cases h) ?_
            | refine branch_s (fun hbb => ?_) (fun hbb => ?_)
            | refine ret_i ?_)
          · refine ⟨(r, y :: M), ?_, ?_, ?_⟩
            · refine le_mk ?_ ?_ ?_ ?_
              all_goals repeat' (first | exact trivial | refine And.intro ?_ ?_ | with_reducible rfl | exact Nat.le_refl _ | omega | exact rfl)
              · show List.set (List.set (List.map plV (pre ++ ((y :: r).reverse ++ x :: (M ++ tl)) ++ post)) _ (plV y)) _ (plV x) = List.map plV (pre ++ (r.reverse ++ x :: (y :: M ++ tl)) ++ post)
                rw [show pre ++ ((y :: r).reverse ++ x :: (M ++ tl)) ++ post = (pre ++ (y :: r).reverse) ++ x :: (M ++ tl ++ post) by simp, List.map_append, List.map_cons, set_mid (by simp; omega)]
                rw [show (pre ++ (y :: r).reverse : List Pl) = (pre ++ r.reverse) ++ [y] by simp, List.map_append, List.map_cons, List.append_assoc, List.map_nil, List.cons_append, List.nil_append, set_mid (by simp; omega)]
                simp
              · show (pre.length : Int) + (y :: r).length - 1 = pre.length + r.length
                omega
            · refine ⟨by show r.length ≤ k; omega, fun z hz => hp2 z (by simp [show z ∈ r from hz]), ?_⟩
              show (insR c x R0).reverse = (insR c x r).reverse ++ y :: M
              rw [hp3]; simp [insR, hlt]
            · show r.length < (y :: r).length
              simp
          · refine ⟨k + 1, ?_, ⟨by omega, .inl (by omega)⟩, by omega⟩
            rw [hnew]
            refine le_mk ?_ ?_ ?_ ?_
            all_goals repeat' (first | exact trivial | refine And.intro ?_ ?_ | with_reducible rfl | exact Nat.le_refl _ | omega | exact rfl)
            · show List.map plV (pre ++ ((y :: r).reverse ++ x :: (M ++ tl)) ++ post) = List.map plV (pre ++ (insR c x R0).reverse ++ List.drop (k + 1) xs ++ post)
              rw [hp3, hd']
              simp [insR, show ¬ c x y < 0 by omega]
    · rw [List.take_of_length_le hkl, List.drop_eq_nil_of_le hkl]
      repeat' ((conv => whnf); first
        | (exfalso; omega)
        | refine seq_go ?_
        | refine draw_i (by kernel_rfl) ?_
        | refine arith_half (by omega) ?_
        | refine arith_in (by omega) ?_
        | refine arith_u (by omega) ?_
        | refine need_i (p := (T.row _).eq = true) (by kernel_rfl) ?_
        | refine need_i (by omega) ?_
        | refine br_not ?_
        | refine br_dec (fun hd => ?_) (fun hd => ?_)
        | refine br_lt (fun hlt => ?_) (fun hlt => ?_)
        | refine br_le (fun hle => ?_) (fun hle => ?_)
        | refine br_eq (fun heq => ?_) (fun heq => ?_)
        | refine idx_map (by omega) (fun x hx => ?_)
        | refine live_i rfl (fun h => by cases h) ?_
        | refine branch_s (fun hbb => ?_) (fun hbb => ?_)
        | refine ret_i ?_)
      refine retIO_i ?_
      conv => whnf
      refine ⟨[], rfl, ⟨⟨rfl, rfl, rfl, ?_⟩, trivial⟩, rfl⟩
      show List.map plV (pre ++ (isR c xs).reverse ++ [] ++ post) = List.map plV (pre ++ isortP c xs ++ post)
      simp [isortP]
theorem ins_spec (hc : CmpOk g c Q) (pre xs post : List Pl) (hq : ∀ x ∈ xs, Q x) (hl : pre.length + xs.length + post.length ≤ 100000) :
    SpIO 102 [.own 102 ((pre ++ xs ++ post).map plV), I pre.length, I (pre.length + xs.length), .fn g []] (.tup []) 102 ((pre ++ isortP c xs ++ post).map plV) :=
  io_of rfl Tryd.func102 (by kernel_rfl) (by kernel_rfl) (ins_vc hc pre xs post hq hl)
end Go.Proofs.Cost58.Pz
namespace Go.Proofs.Cost58.Pz
open Go Go.Proofs Go.Ab Go.Proofs.Cost58
set_option maxRecDepth 100000
variable {g : FuncId}

theorem swap_vc (A X M Y C : List Pl) (hXY : X.length = Y.length) (hl : A.length + X.length + M.length + Y.length + C.length ≤ 100000) :
    fnIO T Tryd.prog Tryd.f151 [.own 102 ((A ++ X ++ M ++ Y ++ C).map plV), I A.length, I (A.length + X.length + M.length), I X.length, .fn g []] (.tup []) 0 102 ((A ++ Y ++ M ++ X ++ C).map plV) := by
  repeat' ((conv => whnf); first
    | refine seq_go ?_
    | refine draw_i (by kernel_rfl) ?_
    | refine arith_half (by omega) ?_
    | refine arith_in (by omega) ?_
    | refine arith_u (by omega) ?_
    | refine need_i (p := (T.row _).eq = true) (by kernel_rfl) ?_
    | refine need_i (by omega) ?_
    | refine br_not ?_
    | refine br_dec (fun hd => ?_) (fun hd => ?_)
    | refine br_lt (fun hlt => ?_) (fun hlt => ?_)
    | refine br_le (fun hle => ?_) (fun hle => ?_)
    | refine br_eq (fun heq => ?_) (fun heq => ?_)
    | refine idx_map (by omega) (fun x hx => ?_)
    | refine live_i rfl (fun h => by cases h) ?_
    | refine branch_s (fun hbb => ?_) (fun hbb => ?_)
    | refine ret_i ?_)
  refine loop_i (A := Nat) (fun k => mkSt [(0, .arr 0 0), (1, I A.length), (2, I (A.length + X.length + M.length)), (3, I X.length), (4, .fn g []), (10, I k)] [] [(0, ⟨0, .own, 102, (A ++ (Y.take k ++ X.drop k) ++ M ++ (X.take k ++ Y.drop k) ++ C).map plV⟩)])
    (fun k => k ≤ X.length) (fun k => X.length - k) 0 ?_ (by omega) (fun k hk => ?_)
  · refine le_mk ?_ ?_ ?_ ?_
    all_goals repeat' (first | exact trivial | refine And.intro ?_ ?_ | with_reducible rfl | exact Nat.le_refl _ | omega | exact rfl)
  · change k ≤ X.length at hk
    rcases Nat.lt_or_ge k X.length with hkl | hkl
    · have hkl' : k < Y.length := by omega
      have hdX : X.drop k = X[k] :: X.drop (k + 1) := List.drop_eq_getElem_cons hkl
      have htX : X.take (k + 1) = X.take k ++ [X[k]] := by rw [List.take_add_one, List.getElem?_eq_getElem hkl]; rfl
      have hdY : Y.drop k = Y[k] :: Y.drop (k + 1) := List.drop_eq_getElem_cons hkl'
      have htY : Y.take (k + 1) = Y.take k ++ [Y[k]] := by rw [List.take_add_one, List.getElem?_eq_getElem hkl']; rfl
      have hlX : (X.take k).length = k := by rw [List.length_take]; omega
      have hlY : (Y.take k).length = k := by rw [List.length_take]; omega
      have hlX' : (X.drop (k + 1)).length = X.length - (k + 1) := by rw [List.length_drop]
      have hlY' : (Y.drop (k + 1)).length = X.length - (k + 1) := by rw [List.length_drop, hXY]
      generalize X[k] = x at hdX htX
      generalize Y[k] = y at hdY htY
      obtain ⟨X0, hX0⟩ : ∃ z, X.take k = z := ⟨_, rfl⟩
      obtain ⟨Y0, hY0⟩ : ∃ z, Y.take k = z := ⟨_, rfl⟩
      obtain ⟨X1, hX1⟩ : ∃ z, X.drop (k + 1) = z := ⟨_, rfl⟩
      obtain ⟨Y1, hY1⟩ : ∃ z, Y.drop (k + 1) = z := ⟨_, rfl⟩
      rw [hX0] at hlX htX
      rw [hY0] at hlY htY
      rw [hX1] at hlX' hdX
      rw [hY1] at hlY' hdY
      rw [hX0, hY0, hdX, hdY]
      have hsz : (A ++ (Y0 ++ x :: X1) ++ M ++ (X0 ++ y :: Y1) ++ C).length = A.length + X.length + M.length + X.length + C.length := by simp; omega
      repeat' ((conv => whnf); first
        | (exfalso; omega)
        | (refine need_set (l := A ++ (Y0 ++ x :: X1) ++ M ++ (X0 ++ y :: Y1) ++ C) rfl (fun h => by cases h) rfl ?_ ?_; focus (constructor <;> omega))
        | refine idx_set_ne (by omega) ?_
        | (refine need_mid (l := A ++ (Y0 ++ x :: X1) ++ M ++ (X0 ++ y :: Y1) ++ C) rfl (fun h => by cases h) rfl ?_ ?_; focus (constructor <;> omega))
        | refine idx_mid (l := A ++ (Y0 ++ x :: X1) ++ M ++ (X0 ++ y :: Y1) ++ C) (A := A ++ Y0) (x := x) (B := X1 ++ M ++ (X0 ++ y :: Y1) ++ C) (by simp) (by simp; omega) ?_
        | refine idx_mid (l := A ++ (Y0 ++ x :: X1) ++ M ++ (X0 ++ y :: Y1) ++ C) (A := A ++ (Y0 ++ x :: X1) ++ M ++ X0) (x := y) (B := Y1 ++ C) (by simp) (by simp; omega) ?_
        | refine own_i rfl rfl ?_
        | refine seq_go ?_
        | refine draw_i (by kernel_rfl) ?_
        | refine arith_half (by omega) ?_
        | refine arith_in (by omega) ?_
        | refine arith_u (by omega) ?_
        | refine need_i (p := (T.row _).eq = true) (by kernel_rfl) ?_
        | refine need_i (by omega) ?_
        | refine br_not ?_
        | refine br_dec (fun hd => ?_) (fun hd => ?_)
        | refine br_lt (fun hlt => ?_) (fun hlt => ?_)
        | refine br_le (fun hle => ?_) (fun hle => ?_)
        | refine br_eq (fun heq => ?_) (fun heq => ?_)
        | refine idx_map (by omega) (fun x hx => ?_)
        | refine live_i rfl (fun h => by cases h) ?_
        | refine branch_s (fun hbb => ?_) (fun hbb => ?_)
        | refine ret_i ?_)
      refine ⟨k + 1, ?_, (by show k + 1 ≤ X.length; omega), by omega⟩
      rw [htX, htY, hX1, hY1]
      refine le_mk ?_ ?_ ?_ ?_
      all_goals repeat' (first | exact trivial | refine And.intro ?_ ?_ | with_reducible rfl | exact Nat.le_refl _ | omega | exact rfl)
      · show List.set (List.set (List.map plV (A ++ (Y0 ++ x :: X1) ++ M ++ (X0 ++ y :: Y1) ++ C)) _ (plV y)) _ (plV x) = List.map plV (A ++ (Y0 ++ [y] ++ X1) ++ M ++ (X0 ++ [x] ++ Y1) ++ C)
        rw [show A ++ (Y0 ++ x :: X1) ++ M ++ (X0 ++ y :: Y1) ++ C = (A ++ Y0) ++ x :: (X1 ++ M ++ (X0 ++ y :: Y1) ++ C) by simp, List.map_append, List.map_cons, set_mid (by simp; omega), ← List.map_cons, ← List.map_append]
        rw [show (A ++ Y0) ++ y :: (X1 ++ M ++ (X0 ++ y :: Y1) ++ C) = (A ++ Y0 ++ y :: X1 ++ M ++ X0) ++ y :: (Y1 ++ C) by simp, List.map_append, List.map_cons, set_mid (by simp; omega), ← List.map_cons, ← List.map_append]
        simp
    · have e1 : k = X.length := by omega
      have e2 : Y.take k = Y := List.take_of_length_le (by omega)
      have e3 : X.take k = X := List.take_of_length_le (by omega)
      have e4 : Y.drop k = [] := List.drop_eq_nil_of_le (by omega)
      have e5 : X.drop k = [] := List.drop_eq_nil_of_le (by omega)
      rw [e2, e3, e4, e5]
      repeat' ((conv => whnf); first
        | (exfalso; omega)
        | refine seq_go ?_
        | refine draw_i (by kernel_rfl) ?_
        | refine arith_half (by omega) ?_
        | refine arith_in (by omega) ?_
        | refine arith_u (by omega) ?_
        | refine need_i (p := (T.row _).eq = true) (by kernel_rfl) ?_
        | refine need_i (by omega) ?_
        | refine br_not ?_
        | refine br_dec (fun hd => ?_) (fun hd => ?_)
        | refine br_lt (fun hlt => ?_) (fun hlt => ?_)
        | refine br_le (fun hle => ?_) (fun hle => ?_)
        | refine br_eq (fun heq => ?_) (fun heq => ?_)
        | refine idx_map (by omega) (fun x hx => ?_)
        | refine live_i rfl (fun h => by cases h) ?_
        | refine branch_s (fun hbb => ?_) (fun hbb => ?_)
        | refine ret_i ?_)
      refine retIO_i ?_
      conv => whnf
      refine ⟨[], rfl, ⟨⟨rfl, rfl, rfl, ?_⟩, trivial⟩, rfl⟩
      show List.map plV (A ++ (Y ++ []) ++ M ++ (X ++ []) ++ C) = List.map plV (A ++ Y ++ M ++ X ++ C)
      simp
theorem swap_spec {l l' : List Pl} {a b n : Int} (A X M Y C : List Pl) (hXY : X.length = Y.length) (h : l = A ++ X ++ M ++ Y ++ C) (h' : l' = A ++ Y ++ M ++ X ++ C) (ha : a = A.length) (hb : b = A.length + X.length + M.length) (hn : n = X.length) (hl : A.length + X.length + M.length + Y.length + C.length ≤ 100000) :
    SpIO 151 [.own 102 (l.map plV), I a, I b, I n, .fn g []] (.tup []) 102 (l'.map plV) := by
  subst h h' ha hb hn
  exact io_of rfl Tryd.func151 (by kernel_rfl) (by kernel_rfl) (swap_vc A X M Y C hXY hl)

theorem rot_vc (A X Y C : List Pl) (hX : 0 < X.length) (hY : 0 < Y.length) (hl : A.length + X.length + Y.length + C.length ≤ 100000) :
    fnIO T Tryd.prog Tryd.f130 [.own 102 ((A ++ X ++ Y ++ C).map plV), I A.length, I (A.length + X.length), I (A.length + X.length + Y.length), .fn g []] (.tup []) 0 102 ((A ++ Y ++ X ++ C).map plV) := by
  repeat' ((conv => whnf); first
    | refine seq_go ?_
    | refine draw_i (by kernel_rfl) ?_
    | refine arith_half (by omega) ?_
    | refine arith_in (by omega) ?_
    | refine arith_u (by omega) ?_
    | refine need_i (p := (T.row _).eq = true) (by kernel_rfl) ?_
    | refine need_i (by omega) ?_
    | refine br_not ?_
    | refine br_dec (fun hd => ?_) (fun hd => ?_)
    | refine br_lt (fun hlt => ?_) (fun hlt => ?_)
    | refine br_le (fun hle => ?_) (fun hle => ?_)
    | refine br_eq (fun heq => ?_) (fun heq => ?_)
    | refine idx_map (by omega) (fun x hx => ?_)
    | refine live_i rfl (fun h => by cases h) ?_
    | refine branch_s (fun hbb => ?_) (fun hbb => ?_)
    | refine ret_i ?_)
  refine loop_4 (A := List Pl) (B := List Pl) (C := List Pl) (D := List Pl) (fun A' X' Y' C' => mkSt [(0, .arr 0 0), (2, I (A.length + X.length)), (4, .fn g []), (10, I X'.length), (11, I Y'.length)] [] [(0, ⟨0, .own, 102, (A' ++ X' ++ Y' ++ C').map plV⟩)])
    (fun A' X' Y' C' => A'.length + X'.length = A.length + X.length ∧ 0 < X'.length ∧ 0 < Y'.length ∧ A' ++ Y' ++ X' ++ C' = A ++ Y ++ X ++ C ∧ A'.length + X'.length + Y'.length + C'.length ≤ 100000)
    (fun _ X' Y' _ => X'.length + Y'.length) A X Y C ?_ ⟨rfl, hX, hY, rfl, hl⟩ ?_
  · refine le_mk ?_ ?_ ?_ ?_
    all_goals repeat' (first | exact trivial | refine And.intro ?_ ?_ | with_reducible rfl | exact Nat.le_refl _ | omega | exact rfl)
  · rintro A' X' Y' C' ⟨h1, h2, h3, h4, h5⟩
    rcases Nat.lt_trichotomy X'.length Y'.length with hlt | heqN | hgt
    · obtain ⟨Y1, Y2, rfl, hy⟩ : ∃ Y1 Y2, Y' = Y1 ++ Y2 ∧ Y2.length = X'.length := ⟨Y'.take (Y'.length - X'.length), Y'.drop (Y'.length - X'.length), by simp, by simp; omega⟩
      have hyl : (Y1 ++ Y2).length = Y1.length + Y2.length := by simp
      repeat' ((conv => whnf); first
        | (exfalso; omega)
        | (refine call_io_i (swap_spec (g := g) (l := A' ++ X' ++ (Y1 ++ Y2) ++ C') (l' := A' ++ Y2 ++ Y1 ++ X' ++ C') (a := A.length + X.length - X'.length) (b := A.length + X.length + (Y1 ++ Y2).length - X'.length) (n := X'.length) A' X' Y1 Y2 C' (by omega) (by simp) (by simp) (by omega) (by omega) rfl (by omega)) rfl rfl ?_ rfl rfl ?_; focus ((repeat' (first | exact trivial | refine And.intro ?_ ?_ | with_reducible rfl | exact (fun h => by cases h) | exact rfl)); done))
        | refine seq_go ?_
        | refine draw_i (by kernel_rfl) ?_
        | refine arith_half (by omega) ?_
        | refine arith_in (by omega) ?_
        | refine arith_u (by omega) ?_
        | refine need_i (p := (T.row _).eq = true) (by kernel_rfl) ?_
        | refine need_i (by omega) ?_
        | refine br_not ?_
        | refine br_dec (fun hd => ?_) (fun hd => ?_)
        | refine br_lt (fun hlt => ?_) (fun hlt => ?_)
        | refine br_le (fun hle => ?_) (fun hle => ?_)
        | refine br_eq (fun heq => ?_) (fun heq => ?_)
        | refine idx_map (by omega) (fun x hx => ?_)
        | refine live_i rfl (fun h => by cases h) ?_
        | refine branch_s (fun hbb => ?_) (fun hbb => ?_)
        | refine ret_i ?_)
      refine ⟨(A', Y2, Y1, X' ++ C'), ?_, ⟨by show A'.length + Y2.length = _; omega, by show 0 < Y2.length; omega, by show 0 < Y1.length; omega, ?_, ?_⟩, ?_⟩
      · refine le_mk ?_ ?_ ?_ ?_
        all_goals repeat' (first | exact trivial | refine And.intro ?_ ?_ | with_reducible rfl | exact Nat.le_refl _ | omega | exact rfl)
        · show List.map plV (A' ++ Y2 ++ Y1 ++ X' ++ C') = List.map plV (A' ++ Y2 ++ Y1 ++ (X' ++ C'))
          simp
        · show (X'.length : Int) = Y2.length
          omega
        · show ((Y1 ++ Y2).length : Int) - X'.length = Y1.length
          omega
      · show A' ++ Y1 ++ Y2 ++ (X' ++ C') = _
        rw [← h4]; simp
      · show A'.length + Y2.length + Y1.length + (X' ++ C').length ≤ 100000
        rw [List.length_append]; omega
      · show Y2.length + Y1.length < X'.length + (Y1 ++ Y2).length
        omega
    · repeat' ((conv => whnf); first
        | (exfalso; omega)
        | (refine call_io_i (swap_spec (g := g) (l := A' ++ X' ++ Y' ++ C') (l' := A' ++ Y' ++ X' ++ C') (a := A.length + X.length - X'.length) (b := A.length + X.length) (n := X'.length) A' X' [] Y' C' heqN (by simp) (by simp) (by omega) (by simp; omega) rfl (by simp; omega)) rfl rfl ?_ rfl rfl ?_; focus ((repeat' (first | exact trivial | refine And.intro ?_ ?_ | with_reducible rfl | exact (fun h => by cases h) | exact rfl)); done))
        | refine seq_go ?_
        | refine draw_i (by kernel_rfl) ?_
        | refine arith_half (by omega) ?_
        | refine arith_in (by omega) ?_
        | refine arith_u (by omega) ?_
        | refine need_i (p := (T.row _).eq = true) (by kernel_rfl) ?_
        | refine need_i (by omega) ?_
        | refine br_not ?_
        | refine br_dec (fun hd => ?_) (fun hd => ?_)
        | refine br_lt (fun hlt => ?_) (fun hlt => ?_)
        | refine br_le (fun hle => ?_) (fun hle => ?_)
        | refine br_eq (fun heq => ?_) (fun heq => ?_)
        | refine idx_map (by omega) (fun x hx => ?_)
        | refine live_i rfl (fun h => by cases h) ?_
        | refine branch_s (fun hbb => ?_) (fun hbb => ?_)
        | refine ret_i ?_)
      refine retIO_i ?_
      conv => whnf
      refine ⟨[], rfl, ⟨⟨rfl, rfl, rfl, ?_⟩, trivial⟩, rfl⟩
      show List.map plV (A' ++ Y' ++ X' ++ C') = _
      rw [h4]
    · obtain ⟨X1, X2, rfl, hy⟩ : ∃ X1 X2, X' = X1 ++ X2 ∧ X1.length = Y'.length := ⟨X'.take Y'.length, X'.drop Y'.length, by simp, by simp; omega⟩
      have hxl : (X1 ++ X2).length = X1.length + X2.length := by simp
      repeat' ((conv => whnf); first
        | (exfalso; omega)
        | (refine call_io_i (swap_spec (g := g) (l := A' ++ (X1 ++ X2) ++ Y' ++ C') (l' := A' ++ Y' ++ X2 ++ X1 ++ C') (a := A.length + X.length - (X1 ++ X2).length) (b := A.length + X.length) (n := Y'.length) A' X1 X2 Y' C' hy (by simp) (by simp) (by omega) (by omega) (by omega) (by omega)) rfl rfl ?_ rfl rfl ?_; focus ((repeat' (first | exact trivial | refine And.intro ?_ ?_ | with_reducible rfl | exact (fun h => by cases h) | exact rfl)); done))
        | refine seq_go ?_
        | refine draw_i (by kernel_rfl) ?_
        | refine arith_half (by omega) ?_
        | refine arith_in (by omega) ?_
        | refine arith_u (by omega) ?_
        | refine need_i (p := (T.row _).eq = true) (by kernel_rfl) ?_
        | refine need_i (by omega) ?_
        | refine br_not ?_
        | refine br_dec (fun hd => ?_) (fun hd => ?_)
        | refine br_lt (fun hlt => ?_) (fun hlt => ?_)
        | refine br_le (fun hle => ?_) (fun hle => ?_)
        | refine br_eq (fun heq => ?_) (fun heq => ?_)
        | refine idx_map (by omega) (fun x hx => ?_)
        | refine live_i rfl (fun h => by cases h) ?_
        | refine branch_s (fun hbb => ?_) (fun hbb => ?_)
        | refine ret_i ?_)
      refine ⟨(A' ++ Y', X2, X1, C'), ?_, ⟨by show (A' ++ Y').length + X2.length = _; rw [List.length_append]; omega, by show 0 < X2.length; omega, by show 0 < X1.length; omega, ?_, ?_⟩, ?_⟩
      · refine le_mk ?_ ?_ ?_ ?_
        all_goals repeat' (first | exact trivial | refine And.intro ?_ ?_ | with_reducible rfl | exact Nat.le_refl _ | omega | exact rfl)
        · show ((X1 ++ X2).length : Int) - Y'.length = X2.length
          omega
        · show (Y'.length : Int) = X1.length
          omega
      · show A' ++ Y' ++ X1 ++ X2 ++ C' = _
        rw [← h4]; simp
      · show (A' ++ Y').length + X2.length + X1.length + C'.length ≤ 100000
        rw [List.length_append]; omega
      · show X2.length + X1.length < (X1 ++ X2).length + Y'.length
        omega
theorem rot_spec {l l' : List Pl} {a m b : Int} (A X Y C : List Pl) (hX : 0 < X.length) (hY : 0 < Y.length) (h : l = A ++ X ++ Y ++ C) (h' : l' = A ++ Y ++ X ++ C) (ha : a = A.length) (hm : m = A.length + X.length) (hb : b = A.length + X.length + Y.length) (hl : A.length + X.length + Y.length + C.length ≤ 100000) :
    SpIO 130 [.own 102 (l.map plV), I a, I m, I b, .fn g []] (.tup []) 102 (l'.map plV) := by
  subst h h' ha hm hb
  exact io_of rfl Tryd.func130 (by kernel_rfl) (by kernel_rfl) (rot_vc A X Y C hX hY hl)
end Go.Proofs.Cost58.Pz
