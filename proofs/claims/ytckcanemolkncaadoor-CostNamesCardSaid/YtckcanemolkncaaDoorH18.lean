/-
  Stable sorting, walked: the insertion sort.
  Stable sorting, walked: swapping of ranges, rotation.
  Merging, in plain Lean.
-/
import Derived.Test.YtckcanemolkncaaDoorH17
set_option linter.unusedVariables false
set_option linter.unusedSimpArgs false
namespace Go.Proofs.Cost58
open Go Go.Proofs Go.Ab
set_option maxRecDepth 100000

section
variable {α : Type} (c : α → α → Int)
def insR (x : α) : List α → List α
  | [] => [x]
  | y :: r => if c x y < 0 then y :: insR x r else x :: y :: r
def isR (xs : List α) : List α := xs.foldl (fun R x => insR c x R) []
def isortP (xs : List α) : List α := (isR c xs).reverse
variable {c}
theorem insR_len (x : α) : ∀ R, (insR c x R).length = R.length + 1
  | [] => rfl
  | y :: r => by
    unfold insR; split
    · simp [insR_len x r]
    · simp
theorem isR_snoc (xs : List α) (x : α) : isR c (xs ++ [x]) = insR c x (isR c xs) := by simp [isR]
theorem isF_len : ∀ (xs R : List α), (xs.foldl (fun R x => insR c x R) R).length = R.length + xs.length
  | [], R => rfl
  | x :: xs, R => by rw [List.foldl_cons, isF_len xs, insR_len]; simp; omega
theorem isR_len (xs : List α) : (isR c xs).length = xs.length := by unfold isR; rw [isF_len]; simp
theorem insR_mem {x : α} : ∀ {R : List α} {z : α}, z ∈ insR c x R ↔ z = x ∨ z ∈ R
  | [], z => by simp [insR]
  | y :: r, z => by
    unfold insR; split
    · rw [List.mem_cons, insR_mem (R := r), List.mem_cons]
      constructor <;> (rintro (h | h | h) <;> simp [h])
    · simp
theorem isF_mem : ∀ {xs R : List α} {z : α}, z ∈ xs.foldl (fun R x => insR c x R) R ↔ z ∈ R ∨ z ∈ xs
  | [], R, z => by simp
  | x :: xs, R, z => by
    rw [List.foldl_cons, isF_mem (xs := xs), insR_mem, List.mem_cons]
    constructor
    · rintro ((h | h) | h) <;> simp [h]
    · rintro (h | h | h) <;> simp [h]
theorem isR_mem {xs : List α} {z : α} : z ∈ isR c xs ↔ z ∈ xs := by unfold isR; rw [isF_mem]; simp
end
theorem idx_mid {α : Type} {f : α → V} {l A B : List α} {x : α} {i : Nat} {K : V → Prop} (h : l = A ++ x :: B) (hi : i = A.length) (hk : K (f x)) : idx (l.map f) i K := by
  subst h hi
  exact idx_i _ (by simp) hk

theorem need_mid {α : Type} {f : α → V} {l : List α} {en : AE} {g : Nat} {z : Int} {K : Prop} (h1 : en.gen = g) (h2 : en.kind ≠ .dead) (h0 : en.l = l.map f) (h3 : 0 ≤ z ∧ z < l.length) (hk : K) : need (en.gen = g ∧ en.kind ≠ .dead ∧ 0 ≤ z ∧ z < en.l.length) K :=
  need_i ⟨h1, h2, h3.1, by rw [h0, List.length_map]; exact h3.2⟩ hk
theorem need_set {α : Type} {f : α → V} {l : List α} {n : Nat} {v : V} {en : AE} {g : Nat} {z : Int} {K : Prop} (h1 : en.gen = g) (h2 : en.kind ≠ .dead) (h0 : en.l = (l.map f).set n v) (h3 : 0 ≤ z ∧ z < l.length) (hk : K) : need (en.gen = g ∧ en.kind ≠ .dead ∧ 0 ≤ z ∧ z < en.l.length) K :=
  need_i ⟨h1, h2, h3.1, by rw [h0, List.length_set, List.length_map]; exact h3.2⟩ hk
theorem idx_set_ne {l : List V} {i j : Nat} {v : V} {K : V → Prop} (h : j ≠ i) (hk : idx l i K) : idx (l.set j v) i K := by
  obtain ⟨x, h1, h2⟩ := hk
  exact ⟨x, by rw [List.getElem?_set_ne h]; exact h1, h2⟩
theorem set_mid {α : Type} {A B : List α} {x y : α} {i : Nat} (h : i = A.length) : (A ++ x :: B).set i y = A ++ y :: B := by subst h; simp
theorem own_i {en : AE} {g : Nat} {K : Prop} (h1 : en.gen = g) (h2 : en.kind = .own) (hk : K) : need (en.gen = g ∧ en.kind = .own) K := need_i ⟨h1, h2⟩ hk

variable {g : FuncId} {cs : List V} {c : Int → Int → Int} {Q : Int → Prop}
abbrev CmpOk (g : FuncId) (cs : List V) (c : Int → Int → Int) (Q : Int → Prop) : Prop := ∀ i j, Q i → Q j → Sp g [I i, I j, .fp cs] (I (c i j))

theorem ins_vc (hc : CmpOk g cs c Q) (pre xs post : List Int) (hq : ∀ x ∈ xs, Q x) (hl : pre.length + xs.length + post.length ≤ 100000) :
    fnIO T Tryd.prog Tryd.f99 [.own 3 ((pre ++ xs ++ post).map I), I pre.length, I (pre.length + xs.length), .fn g [.fp cs]] (.tup []) 0 3 ((pre ++ isortP c xs ++ post).map I) := by
  repeat' ((conv => whnf); first
    | refine seq_go ?_
    | refine draw_i (by kernel_rfl) ?_
    | refine arith_half (by omega) ?_
    | refine arith_in (by omega) ?_
    | refine arith_u (by omega) ?_
    | refine need_i (p := (T.row _).eq = true) (by kernel_rfl) ?_
    | refine need_i (by omega) ?_
    | refine br_not ?_
    | refine br_dec (fun hd => ?_) (fun hd => ?_)
    | refine br_lt (fun hlt => ?_) (fun hlt => ?_)
    | refine br_le (fun hle => ?_) (fun hle => ?_)
    | refine br_eq (fun heq => ?_) (fun heq => ?_)
    | refine idx_map (by omega) (fun x hx => ?_)
    | refine live_i rfl (fun h => by cases h) ?_
    | refine branch_s (fun hbb => ?_) (fun hbb => ?_)
    | refine ret_i ?_
    | refine retB_i ?_)
  refine loop_i (A := Nat) (fun k => mkSt [(0, .arr 0 0), (1, I pre.length), (2, I (pre.length + xs.length)), (3, .fn g [.fp cs]), (8, I (pre.length + k))] [] [(0, ⟨0, .own, 3, (pre ++ (isR c (xs.take k)).reverse ++ xs.drop k ++ post).map I⟩)])
    (fun k => 1 ≤ k ∧ (k ≤ xs.length ∨ k = 1)) (fun k => xs.length - k) 1 ?_ ⟨by omega, .inr rfl⟩ (fun k hk => ?_)
  · refine le_mk ?_ ?_ ?_ ?_
    all_goals repeat' (first | exact trivial | refine And.intro ?_ ?_ | with_reducible rfl | exact Nat.le_refl _ | omega | exact rfl)
    · show List.map I (pre ++ xs ++ post) = List.map I (pre ++ (isR c (List.take 1 xs)).reverse ++ List.drop 1 xs ++ post)
      cases xs with
      | nil => simp [isR]
      | cons x r => simp [isR, insR]
  · change 1 ≤ k ∧ (k ≤ xs.length ∨ k = 1) at hk
    rcases Nat.lt_or_ge k xs.length with hkl | hkl
    · have hd : xs.drop k = xs[k] :: xs.drop (k + 1) := List.drop_eq_getElem_cons hkl
      have ht : xs.take (k + 1) = xs.take k ++ [xs[k]] := by rw [List.take_add_one, List.getElem?_eq_getElem hkl]; rfl
      have hx0 : Q xs[k] := hq _ (List.getElem_mem hkl)
      generalize xs[k] = x at hd ht hx0
      obtain ⟨tl, hd'⟩ : ∃ tl, xs.drop (k + 1) = tl := ⟨_, rfl⟩
      rw [hd'] at hd
      have hlen : (isR c (xs.take k)).length = k := by rw [isR_len, List.length_take]; omega
      have hR0 : ∀ z ∈ isR c (xs.take k), Q z := fun z hz => hq z (List.mem_of_mem_take (isR_mem.1 hz))
      have hnew : isR c (xs.take (k + 1)) = insR c x (isR c (xs.take k)) := by rw [ht, isR_snoc]
      generalize isR c (xs.take k) = R0 at hlen hR0 hnew
      rw [hd]
      repeat' ((conv => whnf); first
        | (exfalso; omega)
        | refine seq_go ?_
        | refine draw_i (by kernel_rfl) ?_
        | refine arith_half (by omega) ?_
        | refine arith_in (by omega) ?_
        | refine arith_u (by omega) ?_
        | refine need_i (p := (T.row _).eq = true) (by kernel_rfl) ?_
        | refine need_i (by omega) ?_
        | refine br_not ?_
        | refine br_dec (fun hd => ?_) (fun hd => ?_)
        | refine br_lt (fun hlt => ?_) (fun hlt => ?_)
        | refine br_le (fun hle => ?_) (fun hle => ?_)
        | refine br_eq (fun heq => ?_) (fun heq => ?_)
        | refine idx_map (by omega) (fun x hx => ?_)
        | refine live_i rfl (fun h => by cases h) ?_
        | refine branch_s (fun hbb => ?_) (fun hbb => ?_)
        | refine ret_i ?_
        | refine retB_i ?_)
      refine loop_2 (A := List Int) (B := List Int) (fun R M => mkSt [(0, .arr 0 0), (1, I pre.length), (2, I (pre.length + xs.length)), (3, .fn g [.fp cs]), (8, I (pre.length + k)), (9, I (pre.length + R.length))] [] [(0, ⟨0, .own, 3, (pre ++ (R.reverse ++ x :: (M ++ tl)) ++ post).map I⟩)])
        (fun R M => R.length ≤ k ∧ (∀ z ∈ R, Q z) ∧ (insR c x R0).reverse = (insR c x R).reverse ++ M) (fun R M => R.length) R0 [] ?_ ⟨by omega, hR0, by simp⟩ (fun R M hp => ?_)
      · refine le_mk ?_ ?_ ?_ ?_
        all_goals repeat' (first | exact trivial | refine And.intro ?_ ?_ | with_reducible rfl | exact Nat.le_refl _ | omega | exact rfl)
        · show List.map I (pre ++ R0.reverse ++ x :: tl ++ post) = List.map I (pre ++ (R0.reverse ++ x :: ([] ++ tl)) ++ post)
          simp
      · obtain ⟨hp1, hp2, hp3⟩ := hp
        change R.length ≤ k at hp1
        change ∀ z ∈ R, Q z at hp2
        change (insR c x R0).reverse = (insR c x R).reverse ++ M at hp3
        cases R with
        | nil =>
          have hn : ([] : List Int).length = 0 := rfl
          repeat' ((conv => whnf); first
            | (exfalso; omega)
            | refine seq_go ?_
            | refine draw_i (by kernel_rfl) ?_
            | refine arith_half (by omega) ?_
            | refine arith_in (by omega) ?_
            | refine arith_u (by omega) ?_
            | refine need_i (p := (T.row _).eq = true) (by kernel_rfl) ?_
            | refine need_i (by omega) ?_
            | refine br_not ?_
            | refine br_dec (fun hd => ?_) (fun hd => ?_)
            | refine br_lt (fun hlt => ?_) (fun hlt => ?_)
            | refine br_le (fun hle => ?_) (fun hle => ?_)
            | refine br_eq (fun heq => ?_) (fun heq => ?_)
            | refine idx_map (by omega) (fun x hx => ?_)
            | refine live_i rfl (fun h => by cases h) ?_
            | refine branch_s (fun hbb => ?_) (fun hbb => ?_)
            | refine ret_i ?_
            | refine retB_i ?_)
          refine ⟨k + 1, ?_, ⟨by omega, .inl (by omega)⟩, by omega⟩
          rw [hnew]
          refine le_mk ?_ ?_ ?_ ?_
          all_goals repeat' (first | exact trivial | refine And.intro ?_ ?_ | with_reducible rfl | exact Nat.le_refl _ | omega | exact rfl)
          · show List.map I (pre ++ ([].reverse ++ x :: (M ++ tl)) ++ post) = List.map I (pre ++ (insR c x R0).reverse ++ List.drop (k + 1) xs ++ post)
            rw [hp3, hd']
            simp [insR]
        | cons y r =>
          have hsz : (pre ++ ((y :: r).reverse ++ x :: (M ++ tl)) ++ post).length = pre.length + (r.length + 1) + 1 + (M ++ tl ++ post).length := by simp; omega
          have hlc : (y :: r).length = r.length + 1 := rfl
          repeat' ((conv => whnf); first
            | (exfalso; omega)
            | (refine need_set (l := pre ++ ((y :: r).reverse ++ x :: (M ++ tl)) ++ post) rfl (fun h => by cases h) rfl ?_ ?_; focus (constructor <;> omega))
            | refine idx_set_ne (by omega) ?_
            | (refine need_mid (l := pre ++ ((y :: r).reverse ++ x :: (M ++ tl)) ++ post) rfl (fun h => by cases h) rfl ?_ ?_; focus (constructor <;> omega))
            | refine idx_mid (l := pre ++ ((y :: r).reverse ++ x :: (M ++ tl)) ++ post) (A := pre ++ (y :: r).reverse) (x := x) (B := M ++ tl ++ post) (by simp) (by simp; omega) ?_
            | refine idx_mid (l := pre ++ ((y :: r).reverse ++ x :: (M ++ tl)) ++ post) (A := pre ++ r.reverse) (x := y) (B := x :: (M ++ tl ++ post)) (by simp) (by simp; omega) ?_
            | (refine call_i (hc x y hx0 (hp2 y (by simp))) false ?_ rfl ?_; focus ((repeat' (first | exact trivial | refine And.intro ?_ ?_ | with_reducible rfl | exact (fun h => by cases h) | exact rfl)); done))
            | refine own_i rfl rfl ?_
            | refine seq_go ?_
            | refine draw_i (by kernel_rfl) ?_
            | refine arith_half (by omega) ?_
            | refine arith_in (by omega) ?_
            | refine arith_u (by omega) ?_
            | refine need_i (p := (T.row _).eq = true) (by kernel_rfl) ?_
            | refine need_i (by omega) ?_
            | refine br_not ?_
            | refine br_dec (fun hd => ?_) (fun hd => ?_)
            | refine br_lt (fun hlt => ?_) (fun hlt => ?_)
            | refine br_le (fun hle => ?_) (fun hle => ?_)
            | refine br_eq (fun heq => ?_) (fun heq => ?_)
            | refine idx_map (by omega) (fun x hx => ?_)
            | refine live_i rfl (fun h => by cases h) ?_
            | refine branch_s (fun hbb => ?_) (fun hbb => ?_)
            | refine ret_i ?_
            | refine retB_i ?_)
          · refine ⟨(r, y :: M), ?_, ?_, ?_⟩
            · refine le_mk ?_ ?_ ?_ ?_
              all_goals repeat' (first | exact trivial | refine And.intro ?_ ?_ | with_reducible rfl | exact Nat.le_refl _ | omega | exact rfl)
              · show List.set (List.set (List.map I (pre ++ ((y :: r).reverse ++ x :: (M ++ tl)) ++ post)) _ (I y)) _ (I x) = List.map I (pre ++ (r.reverse ++ x :: (y :: M ++ tl)) ++ post)
                rw [show pre ++ ((y :: r).reverse ++ x :: (M ++ tl)) ++ post = (pre ++ (y :: r).reverse) ++ x :: (M ++ tl ++ post) by simp, List.map_append, List.map_cons, set_mid (by simp; omega)]
                rw [show (pre ++ (y :: r).reverse : List Int) = (pre ++ r.reverse) ++ [y] by simp, List.map_append, List.map_cons, List.append_assoc, List.map_nil, List.cons_append, List.nil_append, set_mid (by simp; omega)]
                simp
              · show (pre.length : Int) + (y :: r).length - 1 = pre.length + r.length
                omega
            · refine ⟨by show r.length ≤ k; omega, fun z hz => hp2 z (by simp [show z ∈ r from hz]), ?_⟩
              show (insR c x R0).reverse = (insR c x r).reverse ++ y :: M
              rw [hp3]; simp [insR, hlt]
            · show r.length < (y :: r).length
              simp
          · refine ⟨k + 1, ?_, ⟨by omega, .inl (by omega)⟩, by omega⟩
            rw [hnew]
            refine le_mk ?_ ?_ ?_ ?_
            all_goals repeat' (first | exact trivial | refine And.intro ?_ ?_ | with_reducible rfl | exact Nat.le_refl _ | omega | exact rfl)
            · show List.map I (pre ++ ((y :: r).reverse ++ x :: (M ++ tl)) ++ post) = List.map I (pre ++ (insR c x R0).reverse ++ List.drop (k + 1) xs ++ post)
              rw [hp3, hd']
              simp [insR, show ¬ c x y < 0 by omega]
    · rw [List.take_of_length_le hkl, List.drop_eq_nil_of_le hkl]
      repeat' ((conv => whnf); first
        | (exfalso; omega)
        | refine seq_go ?_
        | refine draw_i (by kernel_rfl) ?_
        | refine arith_half (by omega) ?_
        | refine arith_in (by omega) ?_
        | refine arith_u (by omega) ?_
        | refine need_i (p := (T.row _).eq = true) (by kernel_rfl) ?_
        | refine need_i (by omega) ?_
        | refine br_not ?_
        | refine br_dec (fun hd => ?_) (fun hd => ?_)
        | refine br_lt (fun hlt => ?_) (fun hlt => ?_)
        | refine br_le (fun hle => ?_) (fun hle => ?_)
        | refine br_eq (fun heq => ?_) (fun heq => ?_)
        | refine idx_map (by omega) (fun x hx => ?_)
        | refine live_i rfl (fun h => by cases h) ?_
        | refine branch_s (fun hbb => ?_) (fun hbb => ?_)
        | refine ret_i ?_
        | refine retB_i ?_)
      refine retIO_i ?_
      conv => whnf
      refine ⟨[], rfl, ⟨⟨rfl, rfl, rfl, ?_⟩, trivial⟩, rfl⟩
      show List.map I (pre ++ (isR c xs).reverse ++ [] ++ post) = List.map I (pre ++ isortP c xs ++ post)
      simp [isortP]
theorem ins_spec (hc : CmpOk g cs c Q) (pre xs post : List Int) (hq : ∀ x ∈ xs, Q x) (hl : pre.length + xs.length + post.length ≤ 100000) :
    SpIO 99 [.own 3 ((pre ++ xs ++ post).map I), I pre.length, I (pre.length + xs.length), .fn g [.fp cs]] (.tup []) 3 ((pre ++ isortP c xs ++ post).map I) :=
  io_of rfl Tryd.func99 (by kernel_rfl) (by kernel_rfl) (ins_vc hc pre xs post hq hl)
end Go.Proofs.Cost58
namespace Go.Proofs.Cost58
open Go Go.Proofs Go.Ab
set_option maxRecDepth 100000
variable {g : FuncId} {cs : List V}

theorem swap_vc (A X M Y C : List Int) (hXY : X.length = Y.length) (hl : A.length + X.length + M.length + Y.length + C.length ≤ 100000) :
    fnIO T Tryd.prog Tryd.f150 [.own 3 ((A ++ X ++ M ++ Y ++ C).map I), I A.length, I (A.length + X.length + M.length), I X.length, .fn g [.fp cs]] (.tup []) 0 3 ((A ++ Y ++ M ++ X ++ C).map I) := by
  repeat' ((conv => whnf); first
    | refine seq_go ?_
    | refine draw_i (by kernel_rfl) ?_
    | refine arith_half (by omega) ?_
    | refine arith_in (by omega) ?_
    | refine arith_u (by omega) ?_
    | refine need_i (p := (T.row _).eq = true) (by kernel_rfl) ?_
    | refine need_i (by omega) ?_
    | refine br_not ?_
    | refine br_dec (fun hd => ?_) (fun hd => ?_)
    | refine br_lt (fun hlt => ?_) (fun hlt => ?_)
    | refine br_le (fun hle => ?_) (fun hle => ?_)
    | refine br_eq (fun heq => ?_) (fun heq => ?_)
    | refine idx_map (by omega) (fun x hx => ?_)
    | refine live_i rfl (fun h => by cases h) ?_
    | refine branch_s (fun hbb => ?_) (fun hbb => ?_)
    | refine ret_i ?_
    | refine retB_i ?_)
  refine loop_i (A := Nat) (fun k => mkSt [(0, .arr 0 0), (1, I A.length), (2, I (A.length + X.length + M.length)), (3, I X.length), (4, .fn g [.fp cs]), (10, I k)] [] [(0, ⟨0, .own, 3, (A ++ (Y.take k ++ X.drop k) ++ M ++ (X.take k ++ Y.drop k) ++ C).map I⟩)])
    (fun k => k ≤ X.length) (fun k => X.length - k) 0 ?_ (by omega) (fun k hk => ?_)
  · refine le_mk ?_ ?_ ?_ ?_
    all_goals repeat' (first | exact trivial | refine And.intro ?_ ?_ | with_reducible rfl | exact Nat.le_refl _ | omega | exact rfl)
  · change k ≤ X.length at hk
    rcases Nat.lt_or_ge k X.length with hkl | hkl
    · have hkl' : k < Y.length := by omega
      have hdX : X.drop k = X[k] :: X.drop (k + 1) := List.drop_eq_getElem_cons hkl
      have htX : X.take (k + 1) = X.take k ++ [X[k]] := by rw [List.take_add_one, List.getElem?_eq_getElem hkl]; rfl
      have hdY : Y.drop k = Y[k] :: Y.drop (k + 1) := List.drop_eq_getElem_cons hkl'
      have htY : Y.take (k + 1) = Y.take k ++ [Y[k]] := by rw [List.take_add_one, List.getElem?_eq_getElem hkl']; rfl
      have hlX : (X.take k).length = k := by rw [List.length_take]; omega
      have hlY : (Y.take k).length = k := by rw [List.length_take]; omega
      have hlX' : (X.drop (k + 1)).length = X.length - (k + 1) := by rw [List.length_drop]
      have hlY' : (Y.drop (k + 1)).length = X.length - (k + 1) := by rw [List.length_drop, hXY]
      generalize X[k] = x at hdX htX
      generalize Y[k] = y at hdY htY
      obtain ⟨X0, hX0⟩ : ∃ z, X.take k = z := ⟨_, rfl⟩
      obtain ⟨Y0, hY0⟩ : ∃ z, Y.take k = z := ⟨_, rfl⟩
      obtain ⟨X1, hX1⟩ : ∃ z, X.drop (k + 1) = z := ⟨_, rfl⟩
      obtain ⟨Y1, hY1⟩ : ∃ z, Y.drop (k + 1) = z := ⟨_, rfl⟩
      rw [hX0] at hlX htX
      rw [hY0] at hlY htY
      rw [hX1] at hlX' hdX
      rw [hY1] at hlY' hdY
      rw [hX0, hY0, hdX, hdY]
      have hsz : (A ++ (Y0 ++ x :: X1) ++ M ++ (X0 ++ y :: Y1) ++ C).length = A.length + X.length + M.length + X.length + C.length := by simp; omega
      repeat' ((conv => whnf); first
        | (exfalso; omega)
        | (refine need_set (l := A ++ (Y0 ++ x :: X1) ++ M ++ (X0 ++ y :: Y1) ++ C) rfl (fun h => by cases h) rfl ?_ ?_; focus (constructor <;> omega))
        | refine idx_set_ne (by omega) ?_
        | (refine need_mid (l := A ++ (Y0 ++ x :: X1) ++ M ++ (X0 ++ y :: Y1) ++ C) rfl (fun h => by cases h) rfl ?_ ?_; focus (constructor <;> omega))
        | refine idx_mid (l := A ++ (Y0 ++ x :: X1) ++ M ++ (X0 ++ y :: Y1) ++ C) (A := A ++ Y0) (x := x) (B := X1 ++ M ++ (X0 ++ y :: Y1) ++ C) (by simp) (by simp; omega) ?_
        | refine idx_mid (l := A ++ (Y0 ++ x :: X1) ++ M ++ (X0 ++ y :: Y1) ++ C) (A := A ++ (Y0 ++ x :: X1) ++ M ++ X0) (x := y) (B := Y1 ++ C) (by simp) (by simp; omega) ?_
        | refine own_i rfl rfl ?_
        | refine seq_go ?_
        | refine draw_i (by kernel_rfl) ?_
        | refine arith_half (by omega) ?_
        | refine arith_in (by omega) ?_
        | refine arith_u (by omega) ?_
        | refine need_i (p := (T.row _).eq = true) (by kernel_rfl) ?_
        | refine need_i (by omega) ?_
        | refine br_not ?_
        | refine br_dec (fun hd => ?_) (fun hd => ?_)
        | refine br_lt (fun hlt => ?_) (fun hlt => ?_)
        | refine br_le (fun hle => ?_) (fun hle => ?_)
        | refine br_eq (fun heq => ?_) (fun heq => ?_)
        | refine idx_map (by omega) (fun x hx => ?_)
        | refine live_i rfl (fun h => by cases h) ?_
        | refine branch_s (fun hbb => ?_) (fun hbb => ?_)
        | refine ret_i ?_
        | refine retB_i ?_)
      refine ⟨k + 1, ?_, (by show k + 1 ≤ X.length; omega), by omega⟩
      rw [htX, htY, hX1, hY1]
      refine le_mk ?_ ?_ ?_ ?_
      all_goals repeat' (first | exact trivial | refine And.intro ?_ ?_ | with_reducible rfl | exact Nat.le_refl _ | omega | exact rfl)
      · show List.set (List.set (List.map I (A ++ (Y0 ++ x :: X1) ++ M ++ (X0 ++ y :: Y1) ++ C)) _ (I y)) _ (I x) = List.map I (A ++ (Y0 ++ [y] ++ X1) ++ M ++ (X0 ++ [x] ++ Y1) ++ C)
        rw [show A ++ (Y0 ++ x :: X1) ++ M ++ (X0 ++ y :: Y1) ++ C = (A ++ Y0) ++ x :: (X1 ++ M ++ (X0 ++ y :: Y1) ++ C) by simp, List.map_append, List.map_cons, set_mid (by simp; omega), ← List.map_cons, ← List.map_append]
        rw [show (A ++ Y0) ++ y :: (X1 ++ M ++ (X0 ++ y :: Y1) ++ C) = (A ++ Y0 ++ y :: X1 ++ M ++ X0) ++ y :: (Y1 ++ C) by simp, List.map_append, List.map_cons, set_mid (by simp; omega), ← List.map_cons, ← List.map_append]
        simp
    · have e1 : k = X.length := by omega
      have e2 : Y.take k = Y := List.take_of_length_le (by omega)
      have e3 : X.take k = X := List.take_of_length_le (by omega)
      have e4 : Y.drop k = [] := List.drop_eq_nil_of_le (by omega)
      have e5 : X.drop k = [] := List.drop_eq_nil_of_le (by omega)
      rw [e2, e3, e4, e5]
      repeat' ((conv => whnf); first
        | (exfalso; omega)
        | refine seq_go ?_
        | refine draw_i (by kernel_rfl) ?_
        | refine arith_half (by omega) ?_
        | refine arith_in (by omega) ?_
        | refine arith_u (by omega) ?_
        | refine need_i (p := (T.row _).eq = true) (by kernel_rfl) ?_
        | refine need_i (by omega) ?_
        | refine br_not ?_
        | refine br_dec (fun hd => ?_) (fun hd => ?_)
        | refine br_lt (fun hlt => ?_) (fun hlt => ?_)
        | refine br_le (fun hle => ?_) (fun hle => ?_)
        | refine br_eq (fun heq => ?_) (fun heq => ?_)
        | refine idx_map (by omega) (fun x hx => ?_)
        | refine live_i rfl (fun h => by cases h) ?_
        | refine branch_s (fun hbb => ?_) (fun hbb => ?_)
        | refine ret_i ?_
        | refine retB_i ?_)
      refine retIO_i ?_
      conv => whnf
      refine ⟨[], rfl, ⟨⟨rfl, rfl, rfl, ?_⟩, trivial⟩, rfl⟩
      show List.map I (A ++ (Y ++ []) ++ M ++ (X ++ []) ++ C) = List.map I (A ++ Y ++ M ++ X ++ C)
      simp
theorem swap_spec {l l' : List Int} {a b n : Int} (A X M Y C : List Int) (hXY : X.length = Y.length) (h : l = A ++ X ++ M ++ Y ++ C) (h' : l' = A ++ Y ++ M ++ X ++ C) (ha : a = A.length) (hb : b = A.length + X.length + M.length) (hn : n = X.length) (hl : A.length + X.length + M.length + Y.length + C.length ≤ 100000) :
    SpIO 150 [.own 3 (l.map I), I a, I b, I n, .fn g [.fp cs]] (.tup []) 3 (l'.map I) := by
  subst h h' ha hb hn
  exact io_of rfl Tryd.func150 (by kernel_rfl) (by kernel_rfl) (swap_vc A X M Y C hXY hl)

theorem rot_vc (A X Y C : List Int) (hX : 0 < X.length) (hY : 0 < Y.length) (hl : A.length + X.length + Y.length + C.length ≤ 100000) :
    fnIO T Tryd.prog Tryd.f129 [.own 3 ((A ++ X ++ Y ++ C).map I), I A.length, I (A.length + X.length), I (A.length + X.length + Y.length), .fn g [.fp cs]] (.tup []) 0 3 ((A ++ Y ++ X ++ C).map I) := by
  repeat' ((conv => whnf); first
    | refine seq_go ?_
    | refine draw_i (by kernel_rfl) ?_
    | refine arith_half (by omega) ?_
    | refine arith_in (by omega) ?_
    | refine arith_u (by omega) ?_
    | refine need_i (p := (T.row _).eq = true) (by kernel_rfl) ?_
    | refine need_i (by omega) ?_
    | refine br_not ?_
    | refine br_dec (fun hd => ?_) (fun hd => ?_)
    | refine br_lt (fun hlt => ?_) (fun hlt => ?_)
    | refine br_le (fun hle => ?_) (fun hle => ?_)
    | refine br_eq (fun heq => ?_) (fun heq => ?_)
    | refine idx_map (by omega) (fun x hx => ?_)
    | refine live_i rfl (fun h => by cases h) ?_
    | refine branch_s (fun hbb => ?_) (fun hbb => ?_)
    | refine ret_i ?_
    | refine retB_i ?_)
  refine loop_4 (A := List Int) (B := List Int) (C := List Int) (D := List Int) (fun A' X' Y' C' => mkSt [(0, .arr 0 0), (2, I (A.length + X.length)), (4, .fn g [.fp cs]), (10, I X'.length), (11, I Y'.length)] [] [(0, ⟨0, .own, 3, (A' ++ X' ++ Y' ++ C').map I⟩)])
    (fun A' X' Y' C' => A'.length + X'.length = A.length + X.length ∧ 0 < X'.length ∧ 0 < Y'.length ∧ A' ++ Y' ++ X' ++ C' = A ++ Y ++ X ++ C ∧ A'.length + X'.length + Y'.length + C'.length ≤ 100000)
    (fun _ X' Y' _ => X'.length + Y'.length) A X Y C ?_ ⟨rfl, hX, hY, rfl, hl⟩ ?_
  · refine le_mk ?_ ?_ ?_ ?_
    all_goals repeat' (first | exact trivial | refine And.intro ?_ ?_ | with_reducible rfl | exact Nat.le_refl _ | omega | exact rfl)
  · rintro A' X' Y' C' ⟨h1, h2, h3, h4, h5⟩
    rcases Nat.lt_trichotomy X'.length Y'.length with hlt | heqN | hgt
    · obtain ⟨Y1, Y2, rfl, hy⟩ : ∃ Y1 Y2, Y' = Y1 ++ Y2 ∧ Y2.length = X'.length := ⟨Y'.take (Y'.length - X'.length), Y'.drop (Y'.length - X'.length), by simp, by simp; omega⟩
      have hyl : (Y1 ++ Y2).length = Y1.length + Y2.length := by simp
      repeat' ((conv => whnf); first
        | (exfalso; omega)
        | (refine call_io_i (swap_spec (g := g) (cs := cs) (l := A' ++ X' ++ (Y1 ++ Y2) ++ C') (l' := A' ++ Y2 ++ Y1 ++ X' ++ C') (a := A.length + X.length - X'.length) (b := A.length + X.length + (Y1 ++ Y2).length - X'.length) (n := X'.length) A' X' Y1 Y2 C' (by omega) (by simp) (by simp) (by omega) (by omega) rfl (by omega)) rfl rfl ?_ rfl rfl ?_; focus ((repeat' (first | exact trivial | refine And.intro ?_ ?_ | with_reducible rfl | exact (fun h => by cases h) | exact rfl)); done))
        | refine seq_go ?_
        | refine draw_i (by kernel_rfl) ?_
        | refine arith_half (by omega) ?_
        | refine arith_in (by omega) ?_
        | refine arith_u (by omega) ?_
        | refine need_i (p := (T.row _).eq = true) (by kernel_rfl) ?_
        | refine need_i (by omega) ?_
        | refine br_not ?_
        | refine br_dec (fun hd => ?_) (fun hd => ?_)
        | refine br_lt (fun hlt => ?_) (fun hlt => ?_)
        | refine br_le (fun hle => ?_) (fun hle => ?_)
        | refine br_eq (fun heq => ?_) (fun heq => ?_)
        | refine idx_map (by omega) (fun x hx => ?_)
        | refine live_i rfl (fun h => by cases h) ?_
        | refine branch_s (fun hbb => ?_) (fun hbb => ?_)
        | refine ret_i ?_
        | refine retB_i ?_)
      refine ⟨(A', Y2, Y1, X' ++ C'), ?_, ⟨by show A'.length + Y2.length = _; omega, by show 0 < Y2.length; omega, by show 0 < Y1.length; omega, ?_, ?_⟩, ?_⟩
      · refine le_mk ?_ ?_ ?_ ?_
        all_goals repeat' (first | exact trivial | refine And.intro ?_ ?_ | with_reducible rfl | exact Nat.le_refl _ | omega | exact rfl)
        · show List.map I (A' ++ Y2 ++ Y1 ++ X' ++ C') = List.map I (A' ++ Y2 ++ Y1 ++ (X' ++ C'))
          simp
        · show (X'.length : Int) = Y2.length
          omega
        · show ((Y1 ++ Y2).length : Int) - X'.length = Y1.length
          omega
      · show A' ++ Y1 ++ Y2 ++ (X' ++ C') = _
        rw [← h4]; simp
      · show A'.length + Y2.length + Y1.length + (X' ++ C').length ≤ 100000
        rw [List.length_append]; omega
      · show Y2.length + Y1.length < X'.length + (Y1 ++ Y2).length
        omega
    · repeat' ((conv => whnf); first
        | (exfalso; omega)
        | (refine call_io_i (swap_spec (g := g) (cs := cs) (l := A' ++ X' ++ Y' ++ C') (l' := A' ++ Y' ++ X' ++ C') (a := A.length + X.length - X'.length) (b := A.length + X.length) (n := X'.length) A' X' [] Y' C' heqN (by simp) (by simp) (by omega) (by simp; omega) rfl (by simp; omega)) rfl rfl ?_ rfl rfl ?_; focus ((repeat' (first | exact trivial | refine And.intro ?_ ?_ | with_reducible rfl | exact (fun h => by cases h) | exact rfl)); done))
        | refine seq_go ?_
        | refine draw_i (by kernel_rfl) ?_
        | refine arith_half (by omega) ?_
        | refine arith_in (by omega) ?_
        | refine arith_u (by omega) ?_
        | refine need_i (p := (T.row _).eq = true) (by kernel_rfl) ?_
        | refine need_i (by omega) ?_
        | refine br_not ?_
        | refine br_dec (fun hd => ?_) (fun hd => ?_)
        | refine br_lt (fun hlt => ?_) (fun hlt => ?_)
        | refine br_le (fun hle => ?_) (fun hle => ?_)
        | refine br_eq (fun heq => ?_) (fun heq => ?_)
        | refine idx_map (by omega) (fun x hx => ?_)
        | refine live_i rfl (fun h => by cases h) ?_
        | refine branch_s (fun hbb => ?_) (fun hbb => ?_)
        | refine ret_i ?_
        | refine retB_i ?_)
      refine retIO_i ?_
      conv => whnf
      refine ⟨[], rfl, ⟨⟨rfl, rfl, rfl, ?_⟩, trivial⟩, rfl⟩
      show List.map I (A' ++ Y' ++ X' ++ C') = _
      rw [h4]
    · obtain ⟨X1, X2, rfl, hy⟩ : ∃ X1 X2, X' = X1 ++ X2 ∧ X1.length = Y'.length := ⟨X'.take Y'.length, X'.drop Y'.length, by simp, by simp; omega⟩
      have hxl : (X1 ++ X2).length = X1.length + X2.length := by simp
      repeat' ((conv => whnf); first
        | (exfalso; omega)
        | (refine call_io_i (swap_spec (g := g) (cs := cs) (l := A' ++ (X1 ++ X2) ++ Y' ++ C') (l' := A' ++ Y' ++ X2 ++ X1 ++ C') (a := A.length + X.length - (X1 ++ X2).length) (b := A.length + X.length) (n := Y'.length) A' X1 X2 Y' C' hy (by simp) (by simp) (by omega) (by omega) (by omega) (by omega)) rfl rfl ?_ rfl rfl ?_; focus ((repeat' (first | exact trivial | refine And.intro ?_ ?_ | with_reducible rfl | exact (fun h => by cases h) | exact rfl)); done))
        | refine seq_go ?_
        | refine draw_i (by kernel_rfl) ?_
        | refine arith_half (by omega) ?_
        | refine arith_in (by omega) ?_
        | refine arith_u (by omega) ?_
        | refine need_i (p := (T.row _).eq = true) (by kernel_rfl) ?_
        | refine need_i (by omega) ?_
        | refine br_not ?_
        | refine br_dec (fun hd => ?_) (fun hd => ?_)
        | refine br_lt (fun hlt => ?_) (fun hlt => ?_)
        | refine br_le (fun hle => ?_) (fun hle => ?_)
        | refine br_eq (fun heq => ?_) (fun heq => ?_)
        | refine idx_map (by omega) (fun x hx => ?_)
        | refine live_i rfl (fun h => by cases h) ?_
        | refine branch_s (fun hbb => ?_) (fun hbb => ?_)
        | refine ret_i ?_
        | refine retB_i ?_)
      refine ⟨(A' ++ Y', X2, X1, C'), ?_, ⟨by show (A' ++ Y').length + X2.length = _; rw [List.length_append]; omega, by show 0 < X2.length; omega, by show 0 < X1.length; omega, ?_, ?_⟩, ?_⟩
      · refine le_mk ?_ ?_ ?_ ?_
        all_goals repeat' (first | exact trivial | refine And.intro ?_ ?_ | with_reducible rfl | exact Nat.le_refl _ | omega | exact rfl)
        · show ((X1 ++ X2).length : Int) - Y'.length = X2.length
          omega
        · show (Y'.length : Int) = X1.length
          omega
      · show A' ++ Y' ++ X1 ++ X2 ++ C' = _
        rw [← h4]; simp
      · show (A' ++ Y').length + X2.length + X1.length + C'.length ≤ 100000
        rw [List.length_append]; omega
      · show X2.length + X1.length < (X1 ++ X2).length + Y'.length
        omega
theorem rot_spec {l l' : List Int} {a m b : Int} (A X Y C : List Int) (hX : 0 < X.length) (hY : 0 < Y.length) (h : l = A ++ X ++ Y ++ C) (h' : l' = A ++ Y ++ X ++ C) (ha : a = A.length) (hm : m = A.length + X.length) (hb : b = A.length + X.length + Y.length) (hl : A.length + X.length + Y.length + C.length ≤ 100000) :
    SpIO 129 [.own 3 (l.map I), I a, I m, I b, .fn g [.fp cs]] (.tup []) 3 (l'.map I) := by
  subst h h' ha hm hb
  exact io_of rfl Tryd.func129 (by kernel_rfl) (by kernel_rfl) (rot_vc A X Y C hX hY hl)
end Go.Proofs.Cost58
namespace Go.Proofs.Cost58
section
variable {α : Type} (c : α → α → Int)
/-- the stable merge: of equal ones the left one comes first -/
def mergeP : List α → List α → List α
  | [], ys => ys
  | x :: xs, [] => x :: xs
  | x :: xs, y :: ys => if c y x < 0 then y :: mergeP (x :: xs) ys else x :: mergeP xs (y :: ys)
termination_by xs ys => xs.length + ys.length
variable {c} {key : α → Int}
theorem mergeP_nil (ys : List α) : mergeP c [] ys = ys := by rw [mergeP]
theorem mergeP_nil' (xs : List α) : mergeP c xs [] = xs := by cases xs <;> rw [mergeP]
theorem mergeP_cons (x y : α) (xs ys : List α) : mergeP c (x :: xs) (y :: ys) = if c y x < 0 then y :: mergeP c (x :: xs) ys else x :: mergeP c xs (y :: ys) := by rw [mergeP]
theorem mergeP_split {X2 Y2 : List α} : ∀ (n : Nat) (X1 Y1 : List α), X1.length + Y1.length ≤ n → (∀ x ∈ X1, ∀ y ∈ Y2, ¬ c y x < 0) → (∀ y ∈ Y1, ∀ x ∈ X2, c y x < 0) → mergeP c (X1 ++ X2) (Y1 ++ Y2) = mergeP c X1 Y1 ++ mergeP c X2 Y2 := by
  intro n
  induction n with
  | zero =>
    intro X1 Y1 h h1 h2
    have e1 : X1 = [] := List.length_eq_zero_iff.1 (by omega)
    have e2 : Y1 = [] := List.length_eq_zero_iff.1 (by omega)
    subst e1 e2; simp [mergeP_nil]
  | succ n ih =>
    intro X1 Y1 h h1 h2
    match X1, Y1 with
    | [], [] => simp [mergeP_nil]
    | [], y :: Y1 =>
      rw [mergeP_nil, List.nil_append]
      match X2 with
      | [] => simp [mergeP_nil]
      | x :: X2 =>
        rw [List.cons_append, mergeP_cons, if_pos (h2 y (by simp) x (by simp))]
        have := ih [] Y1 (by simp at h ⊢; omega) (by simp) (fun y hy x hx => h2 y (by simp [hy]) x hx)
        rw [List.nil_append, mergeP_nil] at this
        rw [this]; rfl
    | x :: X1, [] =>
      rw [mergeP_nil', List.nil_append]
      match Y2 with
      | [] => simp [mergeP_nil']
      | y :: Y2 =>
        rw [List.cons_append, mergeP_cons, if_neg (h1 x (by simp) y (by simp))]
        have := ih X1 [] (by simp at h ⊢; omega) (fun x hx y hy => h1 x (by simp [hx]) y hy) (by simp)
        rw [List.nil_append, mergeP_nil'] at this
        rw [this]; rfl
    | x :: X1, y :: Y1 =>
      rw [List.cons_append, List.cons_append, mergeP_cons, mergeP_cons]
      split
      · have := ih (x :: X1) Y1 (by simp at h ⊢; omega) h1 (fun y hy x hx => h2 y (by simp [hy]) x hx)
        rw [List.cons_append] at this
        rw [this]; rfl
      · have := ih X1 (y :: Y1) (by simp at h ⊢; omega) (fun x hx y hy => h1 x (by simp [hx]) y hy) h2
        rw [List.cons_append] at this
        rw [this]; rfl
theorem mergeP_len : ∀ (n : Nat) (X Y : List α), X.length + Y.length ≤ n → (mergeP c X Y).length = X.length + Y.length := by
  intro n
  induction n with
  | zero =>
    intro X Y h
    have e1 : X = [] := List.length_eq_zero_iff.1 (by omega)
    have e2 : Y = [] := List.length_eq_zero_iff.1 (by omega)
    subst e1 e2; simp [mergeP_nil]
  | succ n ih =>
    intro X Y h
    match X, Y with
    | [], Y => simp [mergeP_nil]
    | x :: X, [] => simp [mergeP_nil']
    | x :: X, y :: Y =>
      rw [mergeP_cons]
      split
      · rw [List.length_cons, ih _ _ (by simp at h ⊢; omega)]; simp; omega
      · rw [List.length_cons, ih _ _ (by simp at h ⊢; omega)]; simp; omega
theorem mergeP_mem : ∀ (n : Nat) (X Y : List α), X.length + Y.length ≤ n → ∀ z, z ∈ mergeP c X Y ↔ z ∈ X ∨ z ∈ Y := by
  intro n
  induction n with
  | zero =>
    intro X Y h
    have e1 : X = [] := List.length_eq_zero_iff.1 (by omega)
    have e2 : Y = [] := List.length_eq_zero_iff.1 (by omega)
    subst e1 e2; simp [mergeP_nil]
  | succ n ih =>
    intro X Y h z
    match X, Y with
    | [], Y => simp [mergeP_nil]
    | x :: X, [] => simp [mergeP_nil']
    | x :: X, y :: Y =>
      rw [mergeP_cons]
      split
      · rw [List.mem_cons, ih _ _ (by simp at h ⊢; omega)]; simp only [List.mem_cons]
        constructor
        · rintro (h | (h | h) | h) <;> simp [h]
        · rintro ((h | h) | h | h) <;> simp [h]
      · rw [List.mem_cons, ih _ _ (by simp at h ⊢; omega)]; simp only [List.mem_cons]
        constructor
        · rintro (h | h | h | h) <;> simp [h]
        · rintro ((h | h) | h | h) <;> simp [h]
/-- sorted by keys -/
def Srt (key : α → Int) (l : List α) : Prop := ∀ (i j : Nat) x y, i ≤ j → l[i]? = some x → l[j]? = some y → key x ≤ key y
theorem Srt.left {X Y : List α} (h : Srt key (X ++ Y)) : Srt key X := fun i j x y hij hx hy => by
  have h1 := (List.getElem?_eq_some_iff.1 hx).1
  have h2 := (List.getElem?_eq_some_iff.1 hy).1
  exact h i j x y hij (by rw [List.getElem?_append_left h1]; exact hx) (by rw [List.getElem?_append_left h2]; exact hy)
theorem Srt.right {X Y : List α} (h : Srt key (X ++ Y)) : Srt key Y := fun i j x y hij hx hy => by
  exact h (X.length + i) (X.length + j) x y (by omega) (by rw [List.getElem?_append_right (by omega)]; simpa using hx) (by rw [List.getElem?_append_right (by omega)]; simpa using hy)
/-- one element against a sorted list -/
theorem merge_one {x : α} {Y1 Y2 : List α} (h1 : ∀ y ∈ Y1, c y x < 0) (h2 : ∀ y ∈ Y2, ¬ c y x < 0) : mergeP c [x] (Y1 ++ Y2) = Y1 ++ x :: Y2 := by
  have := mergeP_split (c := c) (X2 := [x]) (Y2 := Y2) _ [] Y1 (Nat.le_refl _) (by simp) (fun y hy x' hx => by rw [List.mem_singleton.1 hx]; exact h1 y hy)
  rw [List.nil_append, mergeP_nil] at this
  rw [this]
  cases Y2 with
  | nil => rw [mergeP_nil']
  | cons y Y2 => rw [mergeP_cons, if_neg (h2 y (by simp)), mergeP_nil]
theorem merge_one' {y : α} {X1 X2 : List α} (h1 : ∀ x ∈ X1, ¬ c y x < 0) (h2 : ∀ x ∈ X2, c y x < 0) : mergeP c (X1 ++ X2) [y] = X1 ++ y :: X2 := by
  have := mergeP_split (c := c) (X2 := X2) (Y2 := [y]) _ X1 [] (Nat.le_refl _) (fun x hx y' hy => by rw [List.mem_singleton.1 hy]; exact h1 x hx) (by simp)
  rw [List.nil_append, mergeP_nil'] at this
  rw [this]
  cases X2 with
  | nil => rw [mergeP_nil]
  | cons x X2 => rw [mergeP_cons, if_pos (h2 x (by simp)), mergeP_nil']
/-- the cut that the search finds -/
theorem cut_sound (hk : ∀ a b, c a b < 0 ↔ key a < key b) {X Y : List α} (hX : Srt key X) (hY : Srt key Y) {s e : Nat} (hs : s ≤ X.length) (he : e ≤ Y.length)
    (h1 : s = 0 ∨ e = Y.length ∨ ∃ x y, X[s - 1]? = some x ∧ Y[e]? = some y ∧ ¬ c y x < 0) (h2 : s = X.length ∨ e = 0 ∨ ∃ x y, X[s]? = some x ∧ Y[e - 1]? = some y ∧ c y x < 0) :
    mergeP c X Y = mergeP c (X.take s) (Y.take e) ++ mergeP c (X.drop s) (Y.drop e) := by
  have hm := mergeP_split (c := c) (X2 := X.drop s) (Y2 := Y.drop e) _ (X.take s) (Y.take e) (Nat.le_refl _) ?_ ?_
  · rwa [List.take_append_drop, List.take_append_drop] at hm
  · intro x hx y hy
    obtain ⟨i, hi⟩ := List.mem_iff_getElem?.1 hx
    obtain ⟨j, hj⟩ := List.mem_iff_getElem?.1 hy
    have hi1 := (List.getElem?_eq_some_iff.1 hi).1
    have hj1 := (List.getElem?_eq_some_iff.1 hj).1
    rw [List.length_take] at hi1
    rw [List.length_drop] at hj1
    rw [List.getElem?_take, if_pos (by omega)] at hi
    rw [List.getElem?_drop] at hj
    rcases h1 with h1 | h1 | ⟨x', y', q1, q2, q3⟩
    · omega
    · omega
    · have := hX i (s - 1) x x' (by omega) hi q1
      have := hY e (e + j) y' y (by omega) q2 hj
      rw [hk] at q3 ⊢; omega
  · intro y hy x hx
    obtain ⟨i, hi⟩ := List.mem_iff_getElem?.1 hx
    obtain ⟨j, hj⟩ := List.mem_iff_getElem?.1 hy
    have hi1 := (List.getElem?_eq_some_iff.1 hi).1
    have hj1 := (List.getElem?_eq_some_iff.1 hj).1
    rw [List.length_drop] at hi1
    rw [List.length_take] at hj1
    rw [List.getElem?_drop] at hi
    rw [List.getElem?_take, if_pos (by omega)] at hj
    rcases h2 with h2 | h2 | ⟨x', y', q1, q2, q3⟩
    · omega
    · omega
    · have := hX s (s + i) x' x (by omega) q1 hi
      have := hY j (e - 1) y y' (by omega) hj q2
      rw [hk] at q3 ⊢; omega
end
end Go.Proofs.Cost58
