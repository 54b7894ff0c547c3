/-
  Rates, lists of numbers, and the examples of the document, walked.
  The value of a size.
  The library's functions of this program lie as the shelf of contracts has them (written by the kit's lay-shelf and lay-plain; the contracts themselves left out).
-/
import Derived.Test.YtckcanemolkncaaDoorH24
import Derived.Shelf.Strings.Cut
import Derived.Shelf.Small.Wraps
import Derived.Shelf.Strconv.ErrVarAll
import Derived.Shelf.Sort.Plain
import Derived.Test.YtckcanemolkncaaDoorProg
set_option linter.unusedVariables false
set_option linter.unusedSimpArgs false
namespace Go.Proofs.Cost58
open Go Go.Proofs Go.Ab
set_option maxRecDepth 100000

noncomputable def minL (x : Int) (l : List Int) : Int := l.foldl minI x
noncomputable def maxL (x : Int) (l : List Int) : Int := l.foldl maxI x
theorem minL_snoc (x y : Int) (l : List Int) : minL x (l ++ [y]) = minI (minL x l) y := by unfold minL; rw [List.foldl_append]; rfl
theorem maxL_snoc (x y : Int) (l : List Int) : maxL x (l ++ [y]) = maxI (maxL x l) y := by unfold maxL; rw [List.foldl_append]; rfl
theorem minL_ge (l : List Int) (x k : Int) : k ≤ minL x l ↔ k ≤ x ∧ ∀ y ∈ l, k ≤ y := by
  refine snoc_ind (p := fun l : List Int => k ≤ minL x l ↔ k ≤ x ∧ ∀ y ∈ l, k ≤ y) (by simp [minL]) ?_ l
  intro xs y ih
  rw [minL_snoc, minI_eq, Int.le_min, ih]
  simp only [List.mem_append, List.mem_singleton]
  constructor
  · rintro ⟨⟨h1, h2⟩, h3⟩
    exact ⟨h1, fun z hz => hz.elim (h2 z) (fun e => by rw [e]; exact h3)⟩
  · rintro ⟨h1, h2⟩
    exact ⟨⟨h1, fun z hz => h2 z (.inl hz)⟩, h2 y (.inr rfl)⟩
theorem maxL_le (l : List Int) (x k : Int) : maxL x l ≤ k ↔ x ≤ k ∧ ∀ y ∈ l, y ≤ k := by
  refine snoc_ind (p := fun l : List Int => maxL x l ≤ k ↔ x ≤ k ∧ ∀ y ∈ l, y ≤ k) (by simp [maxL]) ?_ l
  intro xs y ih
  rw [maxL_snoc, maxI_eq, Int.max_le, ih]
  simp only [List.mem_append, List.mem_singleton]
  constructor
  · rintro ⟨⟨h1, h2⟩, h3⟩
    exact ⟨h1, fun z hz => hz.elim (h2 z) (fun e => by rw [e]; exact h3)⟩
  · rintro ⟨h1, h2⟩
    exact ⟨⟨h1, fun z hz => h2 z (.inl hz)⟩, h2 y (.inr rfl)⟩

theorem min_vc (x : Int) (l : List Int) (hl : l.length ≤ 1000000) : fnVC T Tryd.prog Tryd.f47 [.sl ((x :: l).map I)] (I (minL x l)) := by
  have hll : ((x :: l).map I).length = l.length + 1 := by simp
  repeat' ((conv => whnf); first
    | (exfalso; omega)
    | refine idx_i (I x) rfl ?_
    | refine seq_go ?_
    | refine draw_i (by kernel_rfl) ?_
    | refine arith_half (by omega) ?_
    | refine arith_in (by omega) ?_
    | refine arith_u (by omega) ?_
    | refine need_i (p := (T.row _).eq = true) (by kernel_rfl) ?_
    | refine need_i (by omega) ?_
    | refine br_not ?_
    | refine br_dec (fun hd => ?_) (fun hd => ?_)
    | refine br_lt (fun hlt => ?_) (fun hlt => ?_)
    | refine br_le (fun hle => ?_) (fun hle => ?_)
    | refine br_eq (fun heq => ?_) (fun heq => ?_)
    | refine idx_map (by omega) (fun x hx => ?_)
    | refine live_i rfl (fun h => by cases h) ?_
    | refine branch_s (fun hbb => ?_) (fun hbb => ?_)
    | refine ret_i ?_
    | refine retB_i ?_)
  refine loop_2 (A := List Int) (B := List Int) (fun D R => mkSt [(0, .sl ((x :: l).map I)), (3, I (minL x D)), (4, I (D.length + 1))] [] [])
    (fun D R => l = D ++ R) (fun D R => R.length) [] l ?_ rfl (fun D R hp => ?_)
  · refine le_mk ?_ ?_ ?_ ?_
    all_goals repeat' (first | exact trivial | refine And.intro ?_ ?_ | with_reducible rfl | exact Nat.le_refl _ | omega | exact rfl)
  · have hlen : l.length = D.length + R.length := by rw [show l = D ++ R from hp]; simp
    cases R with
    | nil =>
      have e : l = D := by rw [show l = D ++ [] from hp]; simp
      simp at hlen
      repeat' ((conv => whnf); first
        | (exfalso; omega)
        | refine seq_go ?_
        | refine draw_i (by kernel_rfl) ?_
        | refine arith_half (by omega) ?_
        | refine arith_in (by omega) ?_
        | refine arith_u (by omega) ?_
        | refine need_i (p := (T.row _).eq = true) (by kernel_rfl) ?_
        | refine need_i (by omega) ?_
        | refine br_not ?_
        | refine br_dec (fun hd => ?_) (fun hd => ?_)
        | refine br_lt (fun hlt => ?_) (fun hlt => ?_)
        | refine br_le (fun hle => ?_) (fun hle => ?_)
        | refine br_eq (fun heq => ?_) (fun heq => ?_)
        | refine idx_map (by omega) (fun x hx => ?_)
        | refine live_i rfl (fun h => by cases h) ?_
        | refine branch_s (fun hbb => ?_) (fun hbb => ?_)
        | refine ret_i ?_
        | refine retB_i ?_)
      conv => whnf
      refine ret_int ?_
      rw [e]
    | cons y R =>
      rw [List.length_cons] at hlen
      repeat' ((conv => whnf); first
        | (exfalso; omega)
        | refine idx_i (I y) (by show ((x :: l).map I)[((D.length : Int) + 1).toNat]? = _; rw [show ((D.length : Int) + 1).toNat = D.length + 1 by omega, show l = D ++ y :: R from hp]; simp) ?_
        | refine seq_go ?_
        | refine draw_i (by kernel_rfl) ?_
        | refine arith_half (by omega) ?_
        | refine arith_in (by omega) ?_
        | refine arith_u (by omega) ?_
        | refine need_i (p := (T.row _).eq = true) (by kernel_rfl) ?_
        | refine need_i (by omega) ?_
        | refine br_not ?_
        | refine br_dec (fun hd => ?_) (fun hd => ?_)
        | refine br_lt (fun hlt => ?_) (fun hlt => ?_)
        | refine br_le (fun hle => ?_) (fun hle => ?_)
        | refine br_eq (fun heq => ?_) (fun heq => ?_)
        | refine idx_map (by omega) (fun x hx => ?_)
        | refine live_i rfl (fun h => by cases h) ?_
        | refine branch_s (fun hbb => ?_) (fun hbb => ?_)
        | refine ret_i ?_
        | refine retB_i ?_)
      conv => whnf
      refine ⟨(D ++ [y], R), ?_, ?_, ?_⟩
      · refine le_mk ?_ ?_ ?_ ?_
        all_goals repeat' (first | exact trivial | refine And.intro ?_ ?_ | with_reducible rfl | exact Nat.le_refl _ | omega | exact rfl)
        · show minI (minL x D) y = minL x (D ++ [y])
          rw [minL_snoc]
        · show (D.length : Int) + 1 + 1 = (D ++ [y]).length + 1
          simp
      · show l = D ++ [y] ++ R
        rw [show l = D ++ y :: R from hp]; simp
      · show R.length < (y :: R).length
        simp
theorem min_spec (x : Int) (l : List Int) (hl : l.length ≤ 1000000) : Sp 47 [.sl ((x :: l).map I)] (I (minL x l)) := sp_of Tryd.func47 (by kernel_rfl) (by kernel_rfl) (min_vc x l hl)
theorem max_vc (x : Int) (l : List Int) (hl : l.length ≤ 1000000) : fnVC T Tryd.prog Tryd.f48 [.sl ((x :: l).map I)] (I (maxL x l)) := by
  have hll : ((x :: l).map I).length = l.length + 1 := by simp
  repeat' ((conv => whnf); first
    | (exfalso; omega)
    | refine idx_i (I x) rfl ?_
    | refine seq_go ?_
    | refine draw_i (by kernel_rfl) ?_
    | refine arith_half (by omega) ?_
    | refine arith_in (by omega) ?_
    | refine arith_u (by omega) ?_
    | refine need_i (p := (T.row _).eq = true) (by kernel_rfl) ?_
    | refine need_i (by omega) ?_
    | refine br_not ?_
    | refine br_dec (fun hd => ?_) (fun hd => ?_)
    | refine br_lt (fun hlt => ?_) (fun hlt => ?_)
    | refine br_le (fun hle => ?_) (fun hle => ?_)
    | refine br_eq (fun heq => ?_) (fun heq => ?_)
    | refine idx_map (by omega) (fun x hx => ?_)
    | refine live_i rfl (fun h => by cases h) ?_
    | refine branch_s (fun hbb => ?_) (fun hbb => ?_)
    | refine ret_i ?_
    | refine retB_i ?_)
  refine loop_2 (A := List Int) (B := List Int) (fun D R => mkSt [(0, .sl ((x :: l).map I)), (3, I (maxL x D)), (4, I (D.length + 1))] [] [])
    (fun D R => l = D ++ R) (fun D R => R.length) [] l ?_ rfl (fun D R hp => ?_)
  · refine le_mk ?_ ?_ ?_ ?_
    all_goals repeat' (first | exact trivial | refine And.intro ?_ ?_ | with_reducible rfl | exact Nat.le_refl _ | omega | exact rfl)
  · have hlen : l.length = D.length + R.length := by rw [show l = D ++ R from hp]; simp
    cases R with
    | nil =>
      have e : l = D := by rw [show l = D ++ [] from hp]; simp
      simp at hlen
      repeat' ((conv => whnf); first
        | (exfalso; omega)
        | refine seq_go ?_
        | refine draw_i (by kernel_rfl) ?_
        | refine arith_half (by omega) ?_
        | refine arith_in (by omega) ?_
        | refine arith_u (by omega) ?_
        | refine need_i (p := (T.row _).eq = true) (by kernel_rfl) ?_
        | refine need_i (by omega) ?_
        | refine br_not ?_
        | refine br_dec (fun hd => ?_) (fun hd => ?_)
        | refine br_lt (fun hlt => ?_) (fun hlt => ?_)
        | refine br_le (fun hle => ?_) (fun hle => ?_)
        | refine br_eq (fun heq => ?_) (fun heq => ?_)
        | refine idx_map (by omega) (fun x hx => ?_)
        | refine live_i rfl (fun h => by cases h) ?_
        | refine branch_s (fun hbb => ?_) (fun hbb => ?_)
        | refine ret_i ?_
        | refine retB_i ?_)
      conv => whnf
      refine ret_int ?_
      rw [e]
    | cons y R =>
      rw [List.length_cons] at hlen
      repeat' ((conv => whnf); first
        | (exfalso; omega)
        | refine idx_i (I y) (by show ((x :: l).map I)[((D.length : Int) + 1).toNat]? = _; rw [show ((D.length : Int) + 1).toNat = D.length + 1 by omega, show l = D ++ y :: R from hp]; simp) ?_
        | refine seq_go ?_
        | refine draw_i (by kernel_rfl) ?_
        | refine arith_half (by omega) ?_
        | refine arith_in (by omega) ?_
        | refine arith_u (by omega) ?_
        | refine need_i (p := (T.row _).eq = true) (by kernel_rfl) ?_
        | refine need_i (by omega) ?_
        | refine br_not ?_
        | refine br_dec (fun hd => ?_) (fun hd => ?_)
        | refine br_lt (fun hlt => ?_) (fun hlt => ?_)
        | refine br_le (fun hle => ?_) (fun hle => ?_)
        | refine br_eq (fun heq => ?_) (fun heq => ?_)
        | refine idx_map (by omega) (fun x hx => ?_)
        | refine live_i rfl (fun h => by cases h) ?_
        | refine branch_s (fun hbb => ?_) (fun hbb => ?_)
        | refine ret_i ?_
        | refine retB_i ?_)
      conv => whnf
      refine ⟨(D ++ [y], R), ?_, ?_, ?_⟩
      · refine le_mk ?_ ?_ ?_ ?_
        all_goals repeat' (first | exact trivial | refine And.intro ?_ ?_ | with_reducible rfl | exact Nat.le_refl _ | omega | exact rfl)
        · show maxI (maxL x D) y = maxL x (D ++ [y])
          rw [maxL_snoc]
        · show (D.length : Int) + 1 + 1 = (D ++ [y]).length + 1
          simp
      · show l = D ++ [y] ++ R
        rw [show l = D ++ y :: R from hp]; simp
      · show R.length < (y :: R).length
        simp
theorem max_spec (x : Int) (l : List Int) (hl : l.length ≤ 1000000) : Sp 48 [.sl ((x :: l).map I)] (I (maxL x l)) := sp_of Tryd.func48 (by kernel_rfl) (by kernel_rfl) (max_vc x l hl)

structure Rt where
  sheet : Int
  bar : Int
  cut : Int
  rapid : Int
  pierce : Int
  joint : Int
  setup : Int
def Rt.l (r : Rt) : List Int := [r.sheet, r.bar, r.cut, r.rapid, r.pierce, r.joint, r.setup]
def rtV (r : Rt) : V := .agg [I r.sheet, I r.bar, I r.cut, I r.rapid, I r.pierce, I r.joint, I r.setup]
def rtOk (r : Rt) : Prop := ∀ x ∈ r.l, 0 ≤ x ∧ x ≤ 1000
theorem valid_vc (r : Rt) : fnVC T Tryd.prog Tryd.f20 [rtV r] (.lit (.bool (decB (rtOk r)))) := by
  repeat' ((conv => whnf); first
    | (refine call_i (min_spec r.sheet [r.bar, r.cut, r.rapid, r.pierce, r.joint, r.setup] (by simp)) true ?_ rfl ?_; focus ((repeat' (first | exact trivial | refine And.intro ?_ ?_ | with_reducible rfl | exact (fun h => by cases h) | exact rfl)); done))
    | (refine call_i (max_spec r.sheet [r.bar, r.cut, r.rapid, r.pierce, r.joint, r.setup] (by simp)) true ?_ rfl ?_; focus ((repeat' (first | exact trivial | refine And.intro ?_ ?_ | with_reducible rfl | exact (fun h => by cases h) | exact rfl)); done))
    | refine seq_go ?_
    | refine draw_i (by kernel_rfl) ?_
    | refine arith_half (by omega) ?_
    | refine arith_in (by omega) ?_
    | refine arith_u (by omega) ?_
    | refine need_i (p := (T.row _).eq = true) (by kernel_rfl) ?_
    | refine need_i (by omega) ?_
    | refine br_not ?_
    | refine br_dec (fun hd => ?_) (fun hd => ?_)
    | refine br_lt (fun hlt => ?_) (fun hlt => ?_)
    | refine br_le (fun hle => ?_) (fun hle => ?_)
    | refine br_eq (fun heq => ?_) (fun heq => ?_)
    | refine idx_map (by omega) (fun x hx => ?_)
    | refine live_i rfl (fun h => by cases h) ?_
    | refine branch_s (fun hbb => ?_) (fun hbb => ?_)
    | refine ret_i ?_
    | refine retB_i ?_)
  all_goals (conv => whnf)
  all_goals refine ret_boolD ?_
  · rw [minL_ge] at hle
    refine le_dec ?_
    rw [maxL_le]
    unfold rtOk Rt.l
    simp at hle ⊢
    omega
  · refine dec_retf (fun h => ?_)
    have := (minL_ge [r.bar, r.cut, r.rapid, r.pierce, r.joint, r.setup] r.sheet 0).2 (by unfold rtOk Rt.l at h; simp at h ⊢; omega)
    omega
theorem valid_spec (r : Rt) : Sp 20 [rtV r] (.lit (.bool (decB (rtOk r)))) := sp_of Tryd.func20 (by kernel_rfl) (by kernel_rfl) (valid_vc r)

theorem sameInts_vc (a b : List Int) (ha : a.length ≤ 1000000) : fnVC T Tryd.prog Tryd.f13 [.sl (a.map I), .sl (b.map I)] (.lit (.bool (decB (a = b)))) := by
  have hla : (a.map I).length = a.length := by simp
  have hlb : (b.map I).length = b.length := by simp
  rcases Nat.lt_trichotomy a.length b.length with hl | hl | hl
  · repeat' ((conv => whnf); first
      | (exfalso; omega)
      | refine seq_go ?_
      | refine draw_i (by kernel_rfl) ?_
      | refine arith_half (by omega) ?_
      | refine arith_in (by omega) ?_
      | refine arith_u (by omega) ?_
      | refine need_i (p := (T.row _).eq = true) (by kernel_rfl) ?_
      | refine need_i (by omega) ?_
      | refine br_not ?_
      | refine br_dec (fun hd => ?_) (fun hd => ?_)
      | refine br_lt (fun hlt => ?_) (fun hlt => ?_)
      | refine br_le (fun hle => ?_) (fun hle => ?_)
      | refine br_eq (fun heq => ?_) (fun heq => ?_)
      | refine idx_map (by omega) (fun x hx => ?_)
      | refine live_i rfl (fun h => by cases h) ?_
      | refine branch_s (fun hbb => ?_) (fun hbb => ?_)
      | refine ret_i ?_
      | refine retB_i ?_)
    conv => whnf
    exact ret_boolD (dec_retf (fun h => by rw [h] at hl; omega))
  · repeat' ((conv => whnf); first
      | (exfalso; omega)
      | refine seq_go ?_
      | refine draw_i (by kernel_rfl) ?_
      | refine arith_half (by omega) ?_
      | refine arith_in (by omega) ?_
      | refine arith_u (by omega) ?_
      | refine need_i (p := (T.row _).eq = true) (by kernel_rfl) ?_
      | refine need_i (by omega) ?_
      | refine br_not ?_
      | refine br_dec (fun hd => ?_) (fun hd => ?_)
      | refine br_lt (fun hlt => ?_) (fun hlt => ?_)
      | refine br_le (fun hle => ?_) (fun hle => ?_)
      | refine br_eq (fun heq => ?_) (fun heq => ?_)
      | refine idx_map (by omega) (fun x hx => ?_)
      | refine live_i rfl (fun h => by cases h) ?_
      | refine branch_s (fun hbb => ?_) (fun hbb => ?_)
      | refine ret_i ?_
      | refine retB_i ?_)
    refine loop_i (A := Nat) (fun k => mkSt [(0, .sl (a.map I)), (1, .sl (b.map I)), (5, I k)] [] []) (fun k => k ≤ a.length ∧ ∀ i, i < k → a[i]? = b[i]?) (fun k => a.length - k) 0 ?_ ⟨Nat.zero_le _, fun i hi => by omega⟩ (fun k hk => ?_)
    · refine le_mk ?_ ?_ ?_ ?_
      all_goals repeat' (first | exact trivial | refine And.intro ?_ ?_ | with_reducible rfl | exact Nat.le_refl _ | omega | exact rfl)
    · obtain ⟨hk1, hk2⟩ := hk
      rcases Nat.lt_or_ge k a.length with hka | hka
      · repeat' ((conv => whnf); first
          | (exfalso; omega)
          | refine need_len (l := a) (by omega) ?_
          | refine need_len (l := b) (by omega) ?_
          | refine idx_get (f := I) (l := a) (by omega) ?_
          | refine idx_get (f := I) (l := b) (by omega) ?_
          | refine seq_go ?_
          | refine draw_i (by kernel_rfl) ?_
          | refine arith_half (by omega) ?_
          | refine arith_in (by omega) ?_
          | refine arith_u (by omega) ?_
          | refine need_i (p := (T.row _).eq = true) (by kernel_rfl) ?_
          | refine need_i (by omega) ?_
          | refine br_not ?_
          | refine br_dec (fun hd => ?_) (fun hd => ?_)
          | refine br_lt (fun hlt => ?_) (fun hlt => ?_)
          | refine br_le (fun hle => ?_) (fun hle => ?_)
          | refine br_eq (fun heq => ?_) (fun heq => ?_)
          | refine idx_map (by omega) (fun x hx => ?_)
          | refine live_i rfl (fun h => by cases h) ?_
          | refine branch_s (fun hbb => ?_) (fun hbb => ?_)
          | refine ret_i ?_
          | refine retB_i ?_)
        · conv => whnf
          refine ⟨k + 1, ?_, ⟨by omega, fun i hi => ?_⟩, by omega⟩
          · refine le_mk ?_ ?_ ?_ ?_
            all_goals repeat' (first | exact trivial | refine And.intro ?_ ?_ | with_reducible rfl | exact Nat.le_refl _ | omega | exact rfl)
          · rcases Nat.lt_or_ge i k with h | h
            · exact hk2 i h
            · obtain rfl : i = k := by omega
              rw [List.getElem?_eq_getElem hka, List.getElem?_eq_getElem (by omega)]
              exact congrArg some heq
        · conv => whnf
          refine ret_boolD (dec_retf (fun h => heq ?_))
          subst h; rfl
      · repeat' ((conv => whnf); first
          | (exfalso; omega)
          | refine seq_go ?_
          | refine draw_i (by kernel_rfl) ?_
          | refine arith_half (by omega) ?_
          | refine arith_in (by omega) ?_
          | refine arith_u (by omega) ?_
          | refine need_i (p := (T.row _).eq = true) (by kernel_rfl) ?_
          | refine need_i (by omega) ?_
          | refine br_not ?_
          | refine br_dec (fun hd => ?_) (fun hd => ?_)
          | refine br_lt (fun hlt => ?_) (fun hlt => ?_)
          | refine br_le (fun hle => ?_) (fun hle => ?_)
          | refine br_eq (fun heq => ?_) (fun heq => ?_)
          | refine idx_map (by omega) (fun x hx => ?_)
          | refine live_i rfl (fun h => by cases h) ?_
          | refine branch_s (fun hbb => ?_) (fun hbb => ?_)
          | refine ret_i ?_
          | refine retB_i ?_)
        conv => whnf
        refine ret_boolD (dec_ret ?_)
        apply List.ext_getElem?
        intro i
        rcases Nat.lt_or_ge i k with h | h
        · exact hk2 i h
        · rw [List.getElem?_eq_none (by omega), List.getElem?_eq_none (by omega)]
  · repeat' ((conv => whnf); first
      | (exfalso; omega)
      | refine seq_go ?_
      | refine draw_i (by kernel_rfl) ?_
      | refine arith_half (by omega) ?_
      | refine arith_in (by omega) ?_
      | refine arith_u (by omega) ?_
      | refine need_i (p := (T.row _).eq = true) (by kernel_rfl) ?_
      | refine need_i (by omega) ?_
      | refine br_not ?_
      | refine br_dec (fun hd => ?_) (fun hd => ?_)
      | refine br_lt (fun hlt => ?_) (fun hlt => ?_)
      | refine br_le (fun hle => ?_) (fun hle => ?_)
      | refine br_eq (fun heq => ?_) (fun heq => ?_)
      | refine idx_map (by omega) (fun x hx => ?_)
      | refine live_i rfl (fun h => by cases h) ?_
      | refine branch_s (fun hbb => ?_) (fun hbb => ?_)
      | refine ret_i ?_
      | refine retB_i ?_)
    conv => whnf
    exact ret_boolD (dec_retf (fun h => by rw [h] at hl; omega))
theorem sameInts_spec (a b : List Int) (ha : a.length ≤ 1000000) : Sp 13 [.sl (a.map I), .sl (b.map I)] (.lit (.bool (decB (a = b)))) := sp_of Tryd.func13 (by kernel_rfl) (by kernel_rfl) (sameInts_vc a b ha)
end Go.Proofs.Cost58
namespace Go.Proofs.Cost58
open Go Go.Proofs Go.Ab
set_option maxRecDepth 100000

theorem arith_w {n : Int} {K : Int → Prop} (hk : K (IntKind.i64.wrap n)) : arith .i64 n K := ⟨hk⟩
/-- what a size is worth -/
def valR (r : Rt) (n : Int) (bar : Bool) : Int := IntKind.i64.wrap (n * (match bar with | true => r.bar | false => r.sheet))
theorem value_vc (r : Rt) (n : Int) (b : Bool) : fnVC T Tryd.prog Tryd.f57 [rtV r, I n, .lit (.bool b)] (I (valR r n b)) := by
  cases b with
  | true =>
    repeat' ((conv => whnf); first
      | refine arith_w ?_
      | refine seq_go ?_
      | refine draw_i (by kernel_rfl) ?_
      | refine arith_half (by omega) ?_
      | refine arith_in (by omega) ?_
      | refine arith_u (by omega) ?_
      | refine need_i (p := (T.row _).eq = true) (by kernel_rfl) ?_
      | refine need_i (by omega) ?_
      | refine br_not ?_
      | refine br_dec (fun hd => ?_) (fun hd => ?_)
      | refine br_lt (fun hlt => ?_) (fun hlt => ?_)
      | refine br_le (fun hle => ?_) (fun hle => ?_)
      | refine br_eq (fun heq => ?_) (fun heq => ?_)
      | refine idx_map (by omega) (fun x hx => ?_)
      | refine live_i rfl (fun h => by cases h) ?_
      | refine branch_s (fun hbb => ?_) (fun hbb => ?_)
      | refine ret_i ?_
      | refine retB_i ?_)
    all_goals (conv => whnf)
    exact ret_int rfl
  | false =>
    repeat' ((conv => whnf); first
      | refine arith_w ?_
      | refine seq_go ?_
      | refine draw_i (by kernel_rfl) ?_
      | refine arith_half (by omega) ?_
      | refine arith_in (by omega) ?_
      | refine arith_u (by omega) ?_
      | refine need_i (p := (T.row _).eq = true) (by kernel_rfl) ?_
      | refine need_i (by omega) ?_
      | refine br_not ?_
      | refine br_dec (fun hd => ?_) (fun hd => ?_)
      | refine br_lt (fun hlt => ?_) (fun hlt => ?_)
      | refine br_le (fun hle => ?_) (fun hle => ?_)
      | refine br_eq (fun heq => ?_) (fun heq => ?_)
      | refine idx_map (by omega) (fun x hx => ?_)
      | refine live_i rfl (fun h => by cases h) ?_
      | refine branch_s (fun hbb => ?_) (fun hbb => ?_)
      | refine ret_i ?_
      | refine retB_i ?_)
    all_goals (conv => whnf)
    exact ret_int rfl
theorem value_spec (r : Rt) (n : Int) (b : Bool) : Sp 57 [rtV r, I n, .lit (.bool b)] (I (valR r n b)) := sp_of Tryd.func57 (by kernel_rfl) (by kernel_rfl) (value_vc r n b)
end Go.Proofs.Cost58
namespace Go.Proofs
open Go.Shelf
def Tryd.lays103_ren : Go.Shelf.Ren := ⟨fun | 103 => 66 | 210 => 98 | 206 => 128 | n => n, fun | 9 => 9 | 4 => 4 | 24 => 150 | 3 => 3 | n => n, fun | n => n⟩
theorem Tryd.lays103 : Go.Proofs.Lays.n103 Tryd.prog Tryd.lays103_ren := {
  mixed := by kernel_rfl
  f103 := Tryd.func66.trans (congrArg some (by kernel_rfl))
  f206 := Tryd.func128.trans (congrArg some (by kernel_rfl))
  f210 := Tryd.func98.trans (congrArg some (by kernel_rfl))
  t3 := Tryd.underlying3
  a3 := Tryd.isAgg3
  z3 := Tryd.sizeOf3
  v3 := Tryd.zeroValue3
  t4 := Tryd.underlying4
  a4 := Tryd.isAgg4
  z4 := Tryd.sizeOf4
  v4 := Tryd.zeroValue4
  t9 := Tryd.underlying9
  a9 := Tryd.isAgg9
  z9 := Tryd.sizeOf9
  v9 := Tryd.zeroValue9
  t24 := Tryd.underlying150
  a24 := Tryd.isAgg150
  z24 := Tryd.sizeOf150
  v24 := Tryd.zeroValue150 }
def Tryd.laysC172_ren : Go.Shelf.Ren := ⟨fun | 172 => 65 | 244 => 96 | 245 => 97 | 247 => 123 | 279 => 124 | 280 => 125 | 281 => 126 | 282 => 127 | 287 => 147 | 316 => 148 | 171 => 43 | 205 => 149 | 321 => 159 | 322 => 160 | 243 => 76 | 246 => 104 | 283 => 131 | 284 => 132 | 285 => 133 | 286 => 134 | 129 => 119 | 317 => 152 | 318 => 153 | 319 => 154 | 320 => 155 | 337 => 161 | 338 => 162 | n => n, fun | 9 => 9 | 3 => 3 | 75 => 146 | 76 => 147 | 4 => 4 | 5 => 5 | 167 => 194 | 37 => 158 | 0 => 0 | 85 => 195 | 2 => 2 | 168 => 197 | 53 => 157 | 175 => 214 | 46 => 168 | 210 => 217 | 127 => 192 | 145 => 230 | 143 => 228 | 21 => 21 | 171 => 200 | 173 => 202 | 212 => 220 | 51 => 190 | 20 => 20 | 213 => 221 | 232 => 231 | 233 => 232 | 80 => 173 | n => n, fun | 15 => 1 | 16 => 2 | 17 => 3 | 18 => 4 | 19 => 5 | n => n⟩
theorem Tryd.laysC172 : Go.Proofs.LaysC.n172 Tryd.prog Tryd.laysC172_ren := {
  mixed := by kernel_rfl
  f129 := Tryd.func119.trans (congrArg some (by kernel_rfl))
  f171 := Tryd.func43.trans (congrArg some (by kernel_rfl))
  f172 := Tryd.func65.trans (congrArg some (by kernel_rfl))
  f205 := Tryd.func149.trans (congrArg some (by kernel_rfl))
  f243 := Tryd.func76.trans (congrArg some (by kernel_rfl))
  f244 := Tryd.func96.trans (congrArg some (by kernel_rfl))
  f245 := Tryd.func97.trans (congrArg some (by kernel_rfl))
  f246 := Tryd.func104.trans (congrArg some (by kernel_rfl))
  f247 := Tryd.func123.trans (congrArg some (by kernel_rfl))
  f279 := Tryd.func124.trans (congrArg some (by kernel_rfl))
  f280 := Tryd.func125.trans (congrArg some (by kernel_rfl))
  f281 := Tryd.func126.trans (congrArg some (by kernel_rfl))
  f282 := Tryd.func127.trans (congrArg some (by kernel_rfl))
  f283 := Tryd.func131.trans (congrArg some (by kernel_rfl))
  f284 := Tryd.func132.trans (congrArg some (by kernel_rfl))
  f285 := Tryd.func133.trans (congrArg some (by kernel_rfl))
  f286 := Tryd.func134.trans (congrArg some (by kernel_rfl))
  f287 := Tryd.func147.trans (congrArg some (by kernel_rfl))
  f316 := Tryd.func148.trans (congrArg some (by kernel_rfl))
  f317 := Tryd.func152.trans (congrArg some (by kernel_rfl))
  f318 := Tryd.func153.trans (congrArg some (by kernel_rfl))
  f319 := Tryd.func154.trans (congrArg some (by kernel_rfl))
  f320 := Tryd.func155.trans (congrArg some (by kernel_rfl))
  f321 := Tryd.func159.trans (congrArg some (by kernel_rfl))
  f322 := Tryd.func160.trans (congrArg some (by kernel_rfl))
  f337 := Tryd.func161.trans (congrArg some (by kernel_rfl))
  f338 := Tryd.func162.trans (congrArg some (by kernel_rfl))
  t0 := Tryd.underlying0
  a0 := Tryd.isAgg0
  z0 := Tryd.sizeOf0
  v0 := Tryd.zeroValue0
  t2 := Tryd.underlying2
  a2 := Tryd.isAgg2
  z2 := Tryd.sizeOf2
  v2 := Tryd.zeroValue2
  t3 := Tryd.underlying3
  a3 := Tryd.isAgg3
  z3 := Tryd.sizeOf3
  v3 := Tryd.zeroValue3
  t4 := Tryd.underlying4
  a4 := Tryd.isAgg4
  z4 := Tryd.sizeOf4
  v4 := Tryd.zeroValue4
  t5 := Tryd.underlying5
  a5 := Tryd.isAgg5
  z5 := Tryd.sizeOf5
  v5 := Tryd.zeroValue5
  t9 := Tryd.underlying9
  a9 := Tryd.isAgg9
  z9 := Tryd.sizeOf9
  v9 := Tryd.zeroValue9
  t20 := Tryd.underlying20
  a20 := Tryd.isAgg20
  z20 := Tryd.sizeOf20
  v20 := Tryd.zeroValue20
  t21 := Tryd.underlying21
  a21 := Tryd.isAgg21
  z21 := Tryd.sizeOf21
  v21 := Tryd.zeroValue21
  t37 := Tryd.underlying158
  a37 := Tryd.isAgg158
  z37 := Tryd.sizeOf158
  v37 := Tryd.zeroValue158
  t46 := Tryd.underlying168
  a46 := Tryd.isAgg168
  z46 := Tryd.sizeOf168
  v46 := Tryd.zeroValue168
  t51 := Tryd.underlying190
  a51 := Tryd.isAgg190
  z51 := Tryd.sizeOf190
  v51 := Tryd.zeroValue190
  t53 := Tryd.underlying157
  a53 := Tryd.isAgg157
  z53 := Tryd.sizeOf157
  v53 := Tryd.zeroValue157
  t75 := Tryd.underlying146
  a75 := Tryd.isAgg146
  z75 := Tryd.sizeOf146
  v75 := Tryd.zeroValue146
  t76 := Tryd.underlying147
  a76 := Tryd.isAgg147
  z76 := Tryd.sizeOf147
  v76 := Tryd.zeroValue147
  t85 := Tryd.underlying195
  a85 := Tryd.isAgg195
  z85 := Tryd.sizeOf195
  v85 := Tryd.zeroValue195
  t127 := Tryd.underlying192
  a127 := Tryd.isAgg192
  z127 := Tryd.sizeOf192
  v127 := Tryd.zeroValue192
  t143 := Tryd.underlying228
  a143 := Tryd.isAgg228
  z143 := Tryd.sizeOf228
  v143 := Tryd.zeroValue228
  t145 := Tryd.underlying230
  a145 := Tryd.isAgg230
  z145 := Tryd.sizeOf230
  v145 := Tryd.zeroValue230
  t167 := Tryd.underlying194
  a167 := Tryd.isAgg194
  z167 := Tryd.sizeOf194
  v167 := Tryd.zeroValue194
  t168 := Tryd.underlying197
  a168 := Tryd.isAgg197
  z168 := Tryd.sizeOf197
  v168 := Tryd.zeroValue197
  t171 := Tryd.underlying200
  a171 := Tryd.isAgg200
  z171 := Tryd.sizeOf200
  v171 := Tryd.zeroValue200
  t173 := Tryd.underlying202
  a173 := Tryd.isAgg202
  z173 := Tryd.sizeOf202
  v173 := Tryd.zeroValue202
  t175 := Tryd.underlying214
  a175 := Tryd.isAgg214
  z175 := Tryd.sizeOf214
  v175 := Tryd.zeroValue214
  t210 := Tryd.underlying217
  a210 := Tryd.isAgg217
  z210 := Tryd.sizeOf217
  v210 := Tryd.zeroValue217
  t212 := Tryd.underlying220
  a212 := Tryd.isAgg220
  z212 := Tryd.sizeOf220
  v212 := Tryd.zeroValue220
  t213 := Tryd.underlying221
  a213 := Tryd.isAgg221
  z213 := Tryd.sizeOf221
  t232 := Tryd.underlying231
  a232 := Tryd.isAgg231
  z232 := Tryd.sizeOf231
  v232 := Tryd.zeroValue231
  t233 := Tryd.underlying232
  a233 := Tryd.isAgg232
  z233 := Tryd.sizeOf232
  v233 := Tryd.zeroValue232
  g15 := by kernel_rfl
  g16 := by kernel_rfl
  g17 := by kernel_rfl
  g18 := by kernel_rfl
  g19 := by kernel_rfl
  t80 := Tryd.underlying173
  a80 := Tryd.isAgg173
  z80 := Tryd.sizeOf173
  v80 := Tryd.zeroValue173
  i0 := by kernel_rfl
  i2 := by kernel_rfl
  i3 := by kernel_rfl
  i4 := by kernel_rfl
  i5 := by kernel_rfl
  i9 := by kernel_rfl
  i20 := by kernel_rfl
  i21 := by kernel_rfl
  i37 := by kernel_rfl
  i46 := by kernel_rfl
  i51 := by kernel_rfl
  i53 := by kernel_rfl
  i75 := by kernel_rfl
  i76 := by kernel_rfl
  i80 := by kernel_rfl
  i85 := by kernel_rfl
  i127 := by kernel_rfl
  i143 := by kernel_rfl
  i145 := by kernel_rfl
  i167 := by kernel_rfl
  i168 := by kernel_rfl
  i171 := by kernel_rfl
  i173 := by kernel_rfl
  i175 := by kernel_rfl
  i210 := by kernel_rfl
  i212 := by kernel_rfl
  i232 := by kernel_rfl
  i233 := by kernel_rfl
  m15 := by kernel_rfl
  m16 := by kernel_rfl
  m17 := by kernel_rfl
  m18 := by kernel_rfl
  m19 := by kernel_rfl
  c0 := by kernel_rfl
  c2 := by kernel_rfl
  c3 := by kernel_rfl
  c4 := by kernel_rfl
  c5 := by kernel_rfl
  c9 := by kernel_rfl
  c20 := by kernel_rfl
  c21 := by kernel_rfl
  c37 := by kernel_rfl
  c46 := by kernel_rfl
  c51 := by kernel_rfl
  c53 := by kernel_rfl
  c75 := by kernel_rfl
  c76 := by kernel_rfl
  c80 := by kernel_rfl
  c85 := by kernel_rfl
  c127 := by kernel_rfl
  c143 := by kernel_rfl
  c145 := by kernel_rfl
  c167 := by kernel_rfl
  c168 := by kernel_rfl
  c171 := by kernel_rfl
  c173 := by kernel_rfl
  c175 := by kernel_rfl
  c210 := by kernel_rfl
  c212 := by kernel_rfl
  c213 := by kernel_rfl
  c232 := by kernel_rfl
  c233 := by kernel_rfl }
def Tryd.lays145_ren : Go.Shelf.Ren := ⟨fun | 145 => 63 | 220 => 95 | 219 => 122 | 217 => 143 | 225 => 144 | 224 => 145 | 267 => 146 | 266 => 157 | 314 => 158 | n => n, fun | 9 => 9 | 4 => 4 | 59 => 142 | 3 => 3 | 5 => 5 | 46 => 168 | 146 => 225 | 51 => 190 | n => n, fun | 1 => 0 | n => n⟩
theorem Tryd.lays145 : Go.Proofs.Lays.n145 Tryd.prog Tryd.lays145_ren := {
  mixed := by kernel_rfl
  f145 := Tryd.func63.trans (congrArg some (by kernel_rfl))
  f217 := Tryd.func143.trans (congrArg some (by kernel_rfl))
  f219 := Tryd.func122.trans (congrArg some (by kernel_rfl))
  f220 := Tryd.func95.trans (congrArg some (by kernel_rfl))
  f224 := Tryd.func145.trans (congrArg some (by kernel_rfl))
  f225 := Tryd.func144.trans (congrArg some (by kernel_rfl))
  f266 := Tryd.func157.trans (congrArg some (by kernel_rfl))
  f267 := Tryd.func146.trans (congrArg some (by kernel_rfl))
  f314 := Tryd.func158.trans (congrArg some (by kernel_rfl))
  t3 := Tryd.underlying3
  a3 := Tryd.isAgg3
  z3 := Tryd.sizeOf3
  v3 := Tryd.zeroValue3
  t4 := Tryd.underlying4
  a4 := Tryd.isAgg4
  z4 := Tryd.sizeOf4
  v4 := Tryd.zeroValue4
  t5 := Tryd.underlying5
  a5 := Tryd.isAgg5
  z5 := Tryd.sizeOf5
  v5 := Tryd.zeroValue5
  t9 := Tryd.underlying9
  a9 := Tryd.isAgg9
  z9 := Tryd.sizeOf9
  v9 := Tryd.zeroValue9
  t46 := Tryd.underlying168
  a46 := Tryd.isAgg168
  z46 := Tryd.sizeOf168
  v46 := Tryd.zeroValue168
  t51 := Tryd.underlying190
  a51 := Tryd.isAgg190
  z51 := Tryd.sizeOf190
  v51 := Tryd.zeroValue190
  t59 := Tryd.underlying142
  a59 := Tryd.isAgg142
  z59 := Tryd.sizeOf142
  v59 := Tryd.zeroValue142
  t146 := Tryd.underlying225
  a146 := Tryd.isAgg225
  z146 := Tryd.sizeOf225
  v146 := Tryd.zeroValue225
  g1 := by kernel_rfl }
def Tryd.lays190_ren : Go.Shelf.Ren := ⟨fun | 190 => 58 | 125 => 89 | 258 => 88 | 128 => 118 | 129 => 119 | 302 => 109 | 303 => 110 | 304 => 111 | 305 => 112 | 306 => 113 | 307 => 114 | 308 => 115 | 309 => 116 | 310 => 117 | 333 => 135 | 329 => 136 | 330 => 137 | 334 => 138 | 335 => 139 | 336 => 140 | 344 => 156 | n => n, fun | 31 => 42 | 9 => 9 | 3 => 3 | 46 => 168 | 0 => 0 | 51 => 190 | 53 => 157 | 4 => 4 | 183 => 182 | 182 => 181 | 131 => 187 | 5 => 5 | 218 => 204 | 222 => 208 | 228 => 222 | 229 => 223 | n => n, fun | n => n⟩
theorem Tryd.lays190 : Go.Proofs.Lays.n190 Tryd.prog Tryd.lays190_ren := {
  mixed := by kernel_rfl
  f125 := Tryd.func89.trans (congrArg some (by kernel_rfl))
  f128 := Tryd.func118.trans (congrArg some (by kernel_rfl))
  f129 := Tryd.func119.trans (congrArg some (by kernel_rfl))
  f190 := Tryd.func58.trans (congrArg some (by kernel_rfl))
  f258 := Tryd.func88.trans (congrArg some (by kernel_rfl))
  f302 := Tryd.func109.trans (congrArg some (by kernel_rfl))
  f303 := Tryd.func110.trans (congrArg some (by kernel_rfl))
  f304 := Tryd.func111.trans (congrArg some (by kernel_rfl))
  f305 := Tryd.func112.trans (congrArg some (by kernel_rfl))
  f306 := Tryd.func113.trans (congrArg some (by kernel_rfl))
  f307 := Tryd.func114.trans (congrArg some (by kernel_rfl))
  f308 := Tryd.func115.trans (congrArg some (by kernel_rfl))
  f309 := Tryd.func116.trans (congrArg some (by kernel_rfl))
  f310 := Tryd.func117.trans (congrArg some (by kernel_rfl))
  f329 := Tryd.func136.trans (congrArg some (by kernel_rfl))
  f330 := Tryd.func137.trans (congrArg some (by kernel_rfl))
  f333 := Tryd.func135.trans (congrArg some (by kernel_rfl))
  f334 := Tryd.func138.trans (congrArg some (by kernel_rfl))
  f335 := Tryd.func139.trans (congrArg some (by kernel_rfl))
  f336 := Tryd.func140.trans (congrArg some (by kernel_rfl))
  f344 := Tryd.func156.trans (congrArg some (by kernel_rfl))
  t0 := Tryd.underlying0
  a0 := Tryd.isAgg0
  z0 := Tryd.sizeOf0
  v0 := Tryd.zeroValue0
  t3 := Tryd.underlying3
  a3 := Tryd.isAgg3
  z3 := Tryd.sizeOf3
  v3 := Tryd.zeroValue3
  t4 := Tryd.underlying4
  a4 := Tryd.isAgg4
  z4 := Tryd.sizeOf4
  v4 := Tryd.zeroValue4
  t5 := Tryd.underlying5
  a5 := Tryd.isAgg5
  z5 := Tryd.sizeOf5
  v5 := Tryd.zeroValue5
  t9 := Tryd.underlying9
  a9 := Tryd.isAgg9
  z9 := Tryd.sizeOf9
  v9 := Tryd.zeroValue9
  t31 := Tryd.underlying42
  a31 := Tryd.isAgg42
  z31 := Tryd.sizeOf42
  v31 := Tryd.zeroValue42
  t46 := Tryd.underlying168
  a46 := Tryd.isAgg168
  z46 := Tryd.sizeOf168
  v46 := Tryd.zeroValue168
  t51 := Tryd.underlying190
  a51 := Tryd.isAgg190
  z51 := Tryd.sizeOf190
  v51 := Tryd.zeroValue190
  t53 := Tryd.underlying157
  a53 := Tryd.isAgg157
  z53 := Tryd.sizeOf157
  v53 := Tryd.zeroValue157
  t131 := Tryd.underlying187
  a131 := Tryd.isAgg187
  z131 := Tryd.sizeOf187
  v131 := Tryd.zeroValue187
  t182 := Tryd.underlying181
  a182 := Tryd.isAgg181
  z182 := Tryd.sizeOf181
  v182 := Tryd.zeroValue181
  t183 := Tryd.underlying182
  a183 := Tryd.isAgg182
  z183 := Tryd.sizeOf182
  v183 := Tryd.zeroValue182
  t218 := Tryd.underlying204
  a218 := Tryd.isAgg204
  z218 := Tryd.sizeOf204
  v218 := Tryd.zeroValue204
  t222 := Tryd.underlying208
  a222 := Tryd.isAgg208
  z222 := Tryd.sizeOf208
  v222 := Tryd.zeroValue208
  t228 := Tryd.underlying222
  a228 := Tryd.isAgg222
  z228 := Tryd.sizeOf222
  v228 := Tryd.zeroValue222
  t229 := Tryd.underlying223
  a229 := Tryd.isAgg223
  z229 := Tryd.sizeOf223
  v229 := Tryd.zeroValue223 }
end Go.Proofs
