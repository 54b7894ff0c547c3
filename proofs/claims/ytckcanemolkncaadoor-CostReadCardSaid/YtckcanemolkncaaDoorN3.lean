/-
  Rates, lists of numbers, and the examples of the document, walked.
  The examples of the document, and the statement on shares, walked.
-/
import Derived.Test.YtckcanemolkncaaDoorN1
set_option linter.unusedVariables false
set_option linter.unusedSimpArgs false
namespace Go.Proofs.Cost58
open Go Go.Proofs Go.Ab
set_option maxRecDepth 100000

noncomputable def minL (x : Int) (l : List Int) : Int := l.foldl minI x
noncomputable def maxL (x : Int) (l : List Int) : Int := l.foldl maxI x
theorem minL_snoc (x y : Int) (l : List Int) : minL x (l ++ [y]) = minI (minL x l) y := by unfold minL; rw [List.foldl_append]; rfl
theorem maxL_snoc (x y : Int) (l : List Int) : maxL x (l ++ [y]) = maxI (maxL x l) y := by unfold maxL; rw [List.foldl_append]; rfl
theorem minL_ge (l : List Int) (x k : Int) : k ≤ minL x l ↔ k ≤ x ∧ ∀ y ∈ l, k ≤ y := by
  refine snoc_ind (p := fun l : List Int => k ≤ minL x l ↔ k ≤ x ∧ ∀ y ∈ l, k ≤ y) (by simp [minL]) ?_ l
  intro xs y ih
  rw [minL_snoc, minI_eq, Int.le_min, ih]
  simp only [List.mem_append, List.mem_singleton]
  constructor
  · rintro ⟨⟨h1, h2⟩, h3⟩
    exact ⟨h1, fun z hz => hz.elim (h2 z) (fun e => by rw [e]; exact h3)⟩
  · rintro ⟨h1, h2⟩
    exact ⟨⟨h1, fun z hz => h2 z (.inl hz)⟩, h2 y (.inr rfl)⟩
theorem maxL_le (l : List Int) (x k : Int) : maxL x l ≤ k ↔ x ≤ k ∧ ∀ y ∈ l, y ≤ k := by
  refine snoc_ind (p := fun l : List Int => maxL x l ≤ k ↔ x ≤ k ∧ ∀ y ∈ l, y ≤ k) (by simp [maxL]) ?_ l
  intro xs y ih
  rw [maxL_snoc, maxI_eq, Int.max_le, ih]
  simp only [List.mem_append, List.mem_singleton]
  constructor
  · rintro ⟨⟨h1, h2⟩, h3⟩
    exact ⟨h1, fun z hz => hz.elim (h2 z) (fun e => by rw [e]; exact h3)⟩
  · rintro ⟨h1, h2⟩
    exact ⟨⟨h1, fun z hz => h2 z (.inl hz)⟩, h2 y (.inr rfl)⟩

theorem min_vc (x : Int) (l : List Int) (hl : l.length ≤ 1000000) : fnVC T Tryd.prog Tryd.f47 [.sl ((x :: l).map I)] (I (minL x l)) := by
  have hll : ((x :: l).map I).length = l.length + 1 := by simp
  repeat' ((conv => whnf); first
    | (exfalso; omega)
    | refine idx_i (I x) rfl ?_
    | refine seq_go ?_
    | refine draw_i (by kernel_rfl) ?_
    | refine arith_half (by omega) ?_
    | refine arith_in (by omega) ?_
    | refine arith_u (by omega) ?_
    | refine need_i (p := (T.row _).eq = true) (by kernel_rfl) ?_
    | refine need_i (by omega) ?_
    | refine br_not ?_
    | refine br_dec (fun hd => ?_) (fun hd => ?_)
    | refine br_lt (fun hlt => ?_) (fun hlt => ?_)
    | refine br_le (fun hle => ?_) (fun hle => ?_)
    | refine br_eq (fun heq => ?_) (fun heq => ?_)
    | refine idx_map (by omega) (fun x hx => ?_)
    | refine live_i rfl (fun h => by cases h) ?_
    | refine branch_s (fun hbb => ?_) (fun hbb => ?_)
    | refine ret_i ?_)
  refine loop_2 (A := List Int) (B := List Int) (fun D R => mkSt [(0, .sl ((x :: l).map I)), (3, I (minL x D)), (4, I (D.length + 1))] [] [])
    (fun D R => l = D ++ R) (fun D R => R.length) [] l ?_ rfl (fun D R hp => ?_)
  · refine le_mk ?_ ?_ ?_ ?_
    all_goals repeat' (first | exact trivial | refine And.intro ?_ ?_ | with_reducible rfl | exact Nat.le_refl _ | omega | exact rfl)
  · have hlen : l.length = D.length + R.length := by rw [show l = D ++ R from hp]; simp
    cases R with
    | nil =>
      have e : l = D := by rw [show l = D ++ [] from hp]; simp
      simp at hlen
      repeat' ((conv => whnf); first
        | (exfalso; omega)
        | refine seq_go ?_
        | refine draw_i (by kernel_rfl) ?_
        | refine arith_half (by omega) ?_
        | refine arith_in (by omega) ?_
        | refine arith_u (by omega) ?_
        | refine need_i (p := (T.row _).eq = true) (by kernel_rfl) ?_
        | refine need_i (by omega) ?_
        | refine br_not ?_
        | refine br_dec (fun hd => ?_) (fun hd => ?_)
        | refine br_lt (fun hlt => ?_) (fun hlt => ?_)
        | refine br_le (fun hle => ?_) (fun hle => ?_)
        | refine br_eq (fun heq => ?_) (fun heq => ?_)
        | refine idx_map (by omega) (fun x hx => ?_)
        | refine live_i rfl (fun h => by cases h) ?_
        | refine branch_s (fun hbb => ?_) (fun hbb => ?_)
        | refine ret_i ?_)
      conv => whnf
      refine ret_int ?_
      rw [e]
    | cons y R =>
      rw [List.length_cons] at hlen
      repeat' ((conv => whnf); first
        | (exfalso; omega)
        | refine idx_i (I y) (by show ((x :: l).map I)[((D.length : Int) + 1).toNat]? = _; rw [show ((D.length : Int) + 1).toNat = D.length + 1 by omega, show l = D ++ y :: R from hp]; simp) ?_
        | refine seq_go ?_
        | refine draw_i (by kernel_rfl) ?_
        | refine arith_half (by omega) ?_
        | refine arith_in (by omega) ?_
        | refine arith_u (by omega) ?_
        | refine need_i (p := (T.row _).eq = true) (by kernel_rfl) ?_
        | refine need_i (by omega) ?_
        | refine br_not ?_
        | refine br_dec (fun hd => ?_) (fun hd => ?_)
        | refine br_lt (fun hlt => ?_) (fun hlt => ?_)
        | refine br_le (fun hle => ?_) (fun hle => ?_)
        | refine br_eq (fun heq => ?_) (fun heq => ?_)
        | refine idx_map (by omega) (fun x hx => ?_)
        | refine live_i rfl (fun h => by cases h) ?_
        | refine branch_s (fun hbb => ?_) (fun hbb => ?_)
        | refine ret_i ?_)
      conv => whnf
      refine ⟨(D ++ [y], R), ?_, ?_, ?_⟩
      · refine le_mk ?_ ?_ ?_ ?_
        all_goals repeat' (first | exact trivial | refine And.intro ?_ ?_ | with_reducible rfl | exact Nat.le_refl _ | omega | exact rfl)
        · show minI (minL x D) y = minL x (D ++ [y])
          rw [minL_snoc]
        · show (D.length : Int) + 1 + 1 = (D ++ [y]).length + 1
          simp
      · show l = D ++ [y] ++ R
        rw [show l = D ++ y :: R from hp]; simp
      · show R.length < (y :: R).length
        simp
theorem min_spec (x : Int) (l : List Int) (hl : l.length ≤ 1000000) : Sp 47 [.sl ((x :: l).map I)] (I (minL x l)) := sp_of Tryd.func47 (by kernel_rfl) (by kernel_rfl) (min_vc x l hl)
theorem max_vc (x : Int) (l : List Int) (hl : l.length ≤ 1000000) : fnVC T Tryd.prog Tryd.f48 [.sl ((x :: l).map I)] (I (maxL x l)) := by
  have hll : ((x :: l).map I).length = l.length + 1 := by simp
  repeat' ((conv => whnf); first
    | (exfalso; omega)
    | refine idx_i (I x) rfl ?_
    | refine seq_go ?_
    | refine draw_i (by kernel_rfl) ?_
    | refine arith_half (by omega) ?_
    | refine arith_in (by omega) ?_
    | refine arith_u (by omega) ?_
    | refine need_i (p := (T.row _).eq = true) (by kernel_rfl) ?_
    | refine need_i (by omega) ?_
    | refine br_not ?_
    | refine br_dec (fun hd => ?_) (fun hd => ?_)
    | refine br_lt (fun hlt => ?_) (fun hlt => ?_)
    | refine br_le (fun hle => ?_) (fun hle => ?_)
    | refine br_eq (fun heq => ?_) (fun heq => ?_)
    | refine idx_map (by omega) (fun x hx => ?_)
    | refine live_i rfl (fun h => by cases h) ?_
    | refine branch_s (fun hbb => ?_) (fun hbb => ?_)
    | refine ret_i ?_)
  refine loop_2 (A := List Int) (B := List Int) (fun D R => mkSt [(0, .sl ((x :: l).map I)), (3, I (maxL x D)), (4, I (D.length + 1))] [] [])
    (fun D R => l = D ++ R) (fun D R => R.length) [] l ?_ rfl (fun D R hp => ?_)
  · refine le_mk ?_ ?_ ?_ ?_
    all_goals repeat' (first | exact trivial | refine And.intro ?_ ?_ | with_reducible rfl | exact Nat.le_refl _ | omega | exact rfl)
  · have hlen : l.length = D.length + R.length := by rw [show l = D ++ R from hp]; simp
    cases R with
    | nil =>
      have e : l = D := by rw [show l = D ++ [] from hp]; simp
      simp at hlen
      repeat' ((conv => whnf); first
        | (exfalso; omega)
        | refine seq_go ?_
        | refine draw_i (by kernel_rfl) ?_
        | refine arith_half (by omega) ?_
        | refine arith_in (by omega) ?_
        | refine arith_u (by omega) ?_
        | refine need_i (p := (T.row _).eq = true) (by kernel_rfl) ?_
        | refine need_i (by omega) ?_
        | refine br_not ?_
        | refine br_dec (fun hd => ?_) (fun hd => ?_)
        | refine br_lt (fun hlt => ?_) (fun hlt => ?_)
        | refine br_le (fun hle => ?_) (fun hle => ?_)
        | refine br_eq (fun heq => ?_) (fun heq => ?_)
        | refine idx_map (by omega) (fun x hx => ?_)
        | refine live_i rfl (fun h => by cases h) ?_
        | refine branch_s (fun hbb => ?_) (fun hbb => ?_)
        | refine ret_i ?_)
      conv => whnf
      refine ret_int ?_
      rw [e]
    | cons y R =>
      rw [List.length_cons] at hlen
      repeat' ((conv => whnf); first
        | (exfalso; omega)
        | refine idx_i (I y) (by show ((x :: l).map I)[((D.length : Int) + 1).toNat]? = _; rw [show ((D.length : Int) + 1).toNat = D.length + 1 by omega, show l = D ++ y :: R from hp]; simp) ?_
        | refine seq_go ?_
        | refine draw_i (by kernel_rfl) ?_
        | refine arith_half (by omega) ?_
        | refine arith_in (by omega) ?_
        | refine arith_u (by omega) ?_
        | refine need_i (p := (T.row _).eq = true) (by kernel_rfl) ?_
        | refine need_i (by omega) ?_
        | refine br_not ?_
        | refine br_dec (fun hd => ?_) (fun hd => ?_)
        | refine br_lt (fun hlt => ?_) (fun hlt => ?_)
        | refine br_le (fun hle => ?_) (fun hle => ?_)
        | refine br_eq (fun heq => ?_) (fun heq => ?_)
        | refine idx_map (by omega) (fun x hx => ?_)
        | refine live_i rfl (fun h => by cases h) ?_
        | refine branch_s (fun hbb => ?_) (fun hbb => ?_)
        | refine ret_i ?_)
      conv => whnf
      refine ⟨(D ++ [y], R), ?_, ?_, ?_⟩
      · refine le_mk ?_ ?_ ?_ ?_
        all_goals repeat' (first | exact trivial | refine And.intro ?_ ?_ | with_reducible rfl | exact Nat.le_refl _ | omega | exact rfl)
        · show maxI (maxL x D) y = maxL x (D ++ [y])
          rw [maxL_snoc]
        · show (D.length : Int) + 1 + 1 = (D ++ [y]).length + 1
          simp
      · show l = D ++ [y] ++ R
        rw [show l = D ++ y :: R from hp]; simp
      · show R.length < (y :: R).length
        simp
theorem max_spec (x : Int) (l : List Int) (hl : l.length ≤ 1000000) : Sp 48 [.sl ((x :: l).map I)] (I (maxL x l)) := sp_of Tryd.func48 (by kernel_rfl) (by kernel_rfl) (max_vc x l hl)

structure Rt where
  sheet : Int
  bar : Int
  cut : Int
  rapid : Int
  pierce : Int
  joint : Int
  setup : Int
def Rt.l (r : Rt) : List Int := [r.sheet, r.bar, r.cut, r.rapid, r.pierce, r.joint, r.setup]
def rtV (r : Rt) : V := .agg [I r.sheet, I r.bar, I r.cut, I r.rapid, I r.pierce, I r.joint, I r.setup]
def rtOk (r : Rt) : Prop := ∀ x ∈ r.l, 0 ≤ x ∧ x ≤ 1000
theorem valid_vc (r : Rt) : fnVC T Tryd.prog Tryd.f20 [rtV r] (.lit (.bool (decB (rtOk r)))) := by
  repeat' ((conv => whnf); first
    | (refine call_i (min_spec r.sheet [r.bar, r.cut, r.rapid, r.pierce, r.joint, r.setup] (by simp)) true ?_ rfl ?_; focus ((repeat' (first | exact trivial | refine And.intro ?_ ?_ | with_reducible rfl | exact (fun h => by cases h) | exact rfl)); done))
    | (refine call_i (max_spec r.sheet [r.bar, r.cut, r.rapid, r.pierce, r.joint, r.setup] (by simp)) true ?_ rfl ?_; focus ((repeat' (first | exact trivial | refine And.intro ?_ ?_ | with_reducible rfl | exact (fun h => by cases h) | exact rfl)); done))
    | refine seq_go ?_
    | refine draw_i (by kernel_rfl) ?_
    | refine arith_half (by omega) ?_
    | refine arith_in (by omega) ?_
    | refine arith_u (by omega) ?_
    | refine need_i (p := (T.row _).eq = true) (by kernel_rfl) ?_
    | refine need_i (by omega) ?_
    | refine br_not ?_
    | refine br_dec (fun hd => ?_) (fun hd => ?_)
    | refine br_lt (fun hlt => ?_) (fun hlt => ?_)
    | refine br_le (fun hle => ?_) (fun hle => ?_)
    | refine br_eq (fun heq => ?_) (fun heq => ?_)
    | refine idx_map (by omega) (fun x hx => ?_)
    | refine live_i rfl (fun h => by cases h) ?_
    | refine branch_s (fun hbb => ?_) (fun hbb => ?_)
    | refine ret_i ?_)
  all_goals (conv => whnf)
  all_goals refine ret_boolD ?_
  · rw [minL_ge] at hle
    refine le_dec ?_
    rw [maxL_le]
    unfold rtOk Rt.l
    simp at hle ⊢
    omega
  · refine dec_retf (fun h => ?_)
    have := (minL_ge [r.bar, r.cut, r.rapid, r.pierce, r.joint, r.setup] r.sheet 0).2 (by unfold rtOk Rt.l at h; simp at h ⊢; omega)
    omega
theorem valid_spec (r : Rt) : Sp 20 [rtV r] (.lit (.bool (decB (rtOk r)))) := sp_of Tryd.func20 (by kernel_rfl) (by kernel_rfl) (valid_vc r)

theorem sameInts_vc (a b : List Int) (ha : a.length ≤ 1000000) : fnVC T Tryd.prog Tryd.f13 [.sl (a.map I), .sl (b.map I)] (.lit (.bool (decB (a = b)))) := by
  have hla : (a.map I).length = a.length := by simp
  have hlb : (b.map I).length = b.length := by simp
  rcases Nat.lt_trichotomy a.length b.length with hl | hl | hl
  · repeat' ((conv => whnf); first
      | (exfalso; omega)
      | refine seq_go ?_
      | refine draw_i (by kernel_rfl) ?_
      | refine arith_half (by omega) ?_
      | refine arith_in (by omega) ?_
      | refine arith_u (by omega) ?_
      | refine need_i (p := (T.row _).eq = true) (by kernel_rfl) ?_
      | refine need_i (by omega) ?_
      | refine br_not ?_
      | refine br_dec (fun hd => ?_) (fun hd => ?_)
      | refine br_lt (fun hlt => ?_) (fun hlt => ?_)
      | refine br_le (fun hle => ?_) (fun hle => ?_)
      | refine br_eq (fun heq => ?_) (fun heq => ?_)
      | refine idx_map (by omega) (fun x hx => ?_)
      | refine live_i rfl (fun h => by cases h) ?_
      | refine branch_s (fun hbb => ?_) (fun hbb => ?_)
      | refine ret_i ?_)
    conv => whnf
    exact ret_boolD (dec_retf (fun h => by rw [h] at hl; omega))
  · repeat' ((conv => whnf); first
      | (exfalso; omega)
      | refine seq_go ?_
      | refine draw_i (by kernel_rfl) ?_
      | refine arith_half (by omega) ?_
      | refine arith_in (by omega) ?_
      | refine arith_u (by omega) ?_
      | refine need_i (p := (T.row _).eq = true) (by kernel_rfl) ?_
      | refine need_i (by omega) ?_
      | refine br_not ?_
      | refine br_dec (fun hd => ?_) (fun hd => ?_)
      | refine br_lt (fun hlt => ?_) (fun hlt => ?_)
      | refine br_le (fun hle => ?_) (fun hle => ?_)
      | refine br_eq (fun heq => ?_) (fun heq => ?_)
      | refine idx_map (by omega) (fun x hx => ?_)
      | refine live_i rfl (fun h => by cases h) ?_
      | refine branch_s (fun hbb => ?_) (fun hbb => ?_)
      | refine ret_i ?_)
    refine loop_i (A := Nat) (fun k => mkSt [(0, .sl (a.map I)), (1, .sl (b.map I)), (5, I k)] [] []) (fun k => k ≤ a.length ∧ ∀ i, i < k → a[i]? = b[i]?) (fun k => a.length - k) 0 ?_ ⟨Nat.zero_le _, fun i hi => by omega⟩ (fun k hk => ?_)
    · refine le_mk ?_ ?_ ?_ ?_
      all_goals repeat' (first | exact trivial | refine And.intro ?_ ?_ | with_reducible rfl | exact Nat.le_refl _ | omega | exact rfl)
    · obtain ⟨hk1, hk2⟩ := hk
      rcases Nat.lt_or_ge k a.length with hka | hka
      · repeat' ((conv => whnf); first
          | (exfalso; omega)
          | refine need_len (l := a) (by omega) ?_
          | refine need_len (l := b) (by omega) ?_
          | refine idx_get (f := I) (l := a) (by omega) ?_
          | refine idx_get (f := I) (l := b) (by omega) ?_
          | refine seq_go ?_
          | refine draw_i (by kernel_rfl) ?_
          | refine arith_half (by omega) ?_
          | refine arith_in (by omega) ?_
          | refine arith_u (by omega) ?_
          | refine need_i (p := (T.row _).eq = true) (by kernel_rfl) ?_
          | refine need_i (by omega) ?_
          | refine br_not ?_
          | refine br_dec (fun hd => ?_) (fun hd => ?_)
          | refine br_lt (fun hlt => ?_) (fun hlt => ?_)
          | refine br_le (fun hle => ?_) (fun hle => ?_)
          | refine br_eq (fun heq => ?_) (fun heq => ?_)
          | refine idx_map (by omega) (fun x hx => ?_)
          | refine live_i rfl (fun h => by cases h) ?_
          | refine branch_s (fun hbb => ?_) (fun hbb => ?_)
          | refine ret_i ?_)
        · conv => whnf
          refine ⟨k + 1, ?_, ⟨by omega, fun i hi => ?_⟩, by omega⟩
          · refine le_mk ?_ ?_ ?_ ?_
            all_goals repeat' (first | exact trivial | refine And.intro ?_ ?_ | with_reducible rfl | exact Nat.le_refl _ | omega | exact rfl)
          · rcases Nat.lt_or_ge i k with h | h
            · exact hk2 i h
            · obtain rfl : i = k := by omega
              rw [List.getElem?_eq_getElem hka, List.getElem?_eq_getElem (by omega)]
              exact congrArg some heq
        · conv => whnf
          refine ret_boolD (dec_retf (fun h => heq ?_))
          subst h; rfl
      · repeat' ((conv => whnf); first
          | (exfalso; omega)
          | refine seq_go ?_
          | refine draw_i (by kernel_rfl) ?_
          | refine arith_half (by omega) ?_
          | refine arith_in (by omega) ?_
          | refine arith_u (by omega) ?_
          | refine need_i (p := (T.row _).eq = true) (by kernel_rfl) ?_
          | refine need_i (by omega) ?_
          | refine br_not ?_
          | refine br_dec (fun hd => ?_) (fun hd => ?_)
          | refine br_lt (fun hlt => ?_) (fun hlt => ?_)
          | refine br_le (fun hle => ?_) (fun hle => ?_)
          | refine br_eq (fun heq => ?_) (fun heq => ?_)
          | refine idx_map (by omega) (fun x hx => ?_)
          | refine live_i rfl (fun h => by cases h) ?_
          | refine branch_s (fun hbb => ?_) (fun hbb => ?_)
          | refine ret_i ?_)
        conv => whnf
        refine ret_boolD (dec_ret ?_)
        apply List.ext_getElem?
        intro i
        rcases Nat.lt_or_ge i k with h | h
        · exact hk2 i h
        · rw [List.getElem?_eq_none (by omega), List.getElem?_eq_none (by omega)]
  · repeat' ((conv => whnf); first
      | (exfalso; omega)
      | refine seq_go ?_
      | refine draw_i (by kernel_rfl) ?_
      | refine arith_half (by omega) ?_
      | refine arith_in (by omega) ?_
      | refine arith_u (by omega) ?_
      | refine need_i (p := (T.row _).eq = true) (by kernel_rfl) ?_
      | refine need_i (by omega) ?_
      | refine br_not ?_
      | refine br_dec (fun hd => ?_) (fun hd => ?_)
      | refine br_lt (fun hlt => ?_) (fun hlt => ?_)
      | refine br_le (fun hle => ?_) (fun hle => ?_)
      | refine br_eq (fun heq => ?_) (fun heq => ?_)
      | refine idx_map (by omega) (fun x hx => ?_)
      | refine live_i rfl (fun h => by cases h) ?_
      | refine branch_s (fun hbb => ?_) (fun hbb => ?_)
      | refine ret_i ?_)
    conv => whnf
    exact ret_boolD (dec_retf (fun h => by rw [h] at hl; omega))
theorem sameInts_spec (a b : List Int) (ha : a.length ≤ 1000000) : Sp 13 [.sl (a.map I), .sl (b.map I)] (.lit (.bool (decB (a = b)))) := sp_of Tryd.func13 (by kernel_rfl) (by kernel_rfl) (sameInts_vc a b ha)
end Go.Proofs.Cost58
namespace Go.Proofs.Cost58
open Go Go.Proofs Go.Ab
set_option maxRecDepth 100000

theorem share_example : shareR 10 [1, 1, 1] = ([4, 3, 3], 0) := by
  rw [shareR_ok ⟨by simp [WOk], by decide, by decide, by decide, by decide⟩]
  have : shareP 10 ([1, 1, 1] : List Int).sum [1, 1, 1] = [4, 3, 3] := by decide +kernel
  rw [this]
def p0 : Pc := { id := 2, par := 1, part := { data := #[97] }, grade := { data := #[83, 50, 51, 53] }, heat := { data := #[72, 55] }, size := 40, bar := false, status := 1, order := { data := #[] } }
def l0 : ByteArray := { data := #[50, 32, 102, 114, 111, 109, 32, 49, 58, 32, 97, 32, 83, 50, 51, 53, 32, 72, 55, 32, 97, 114, 101, 97, 32, 52, 48, 32, 103, 111, 111, 100] }
theorem name_of {s : ByteArray} (h : (decide (1 ≤ s.size) && decide (s.size ≤ 16) && (decide (97 ≤ ((s.data.toList.getD 0 0).toNat)) && decide (((s.data.toList.getD 0 0).toNat) ≤ 122) || decide (65 ≤ ((s.data.toList.getD 0 0).toNat)) && decide (((s.data.toList.getD 0 0).toNat) ≤ 90)) &&
    s.data.toList.all fun c => decide (97 ≤ c.toNat) && decide (c.toNat ≤ 122) || decide (65 ≤ c.toNat) && decide (c.toNat ≤ 90) || decide (48 ≤ c.toNat) && decide (c.toNat ≤ 57) || decide (c.toNat = 95)) = true) : isName s := by
  simp only [Bool.and_eq_true, Bool.or_eq_true, decide_eq_true_eq, List.all_eq_true] at h
  obtain ⟨⟨⟨h1, h2⟩, h3⟩, h4⟩ := h
  have hb : ∀ i, i < s.size → ∃ c ∈ s.data.toList, byteAt s i = (c.toNat : Int) ∧ s.data.toList.getD i 0 = c := by
    intro i hi
    have hi' : i < s.data.toList.length := by rw [data_len]; exact hi
    refine ⟨s.data.toList[i], List.getElem_mem hi', ?_, ?_⟩
    · unfold byteAt
      rw [show s[i]? = some (s[i]'hi) from getElem?_pos s i hi]
      rfl
    · rw [List.getD_eq_getElem?_getD, List.getElem?_eq_getElem hi']; rfl
  refine ⟨h1, h2, ?_, fun i hi => ?_⟩
  · obtain ⟨c, hc, e1, e2⟩ := hb 0 (by omega)
    rw [e2] at h3
    rw [e1]; unfold isLetter; omega
  · obtain ⟨c, hc, e1, e2⟩ := hb i hi
    have := h4 c hc
    rw [e1]; unfold isInner isLetter isDigit; omega
theorem label_example : labelR p0 = (l0, 0) := by
  have hl : labelled p0 := ⟨⟨by decide, by decide⟩, ⟨by decide, by decide⟩, name_of (by decide), name_of (by decide), name_of (by decide), ⟨by decide, by decide⟩, .inl ⟨.inl rfl, rfl⟩⟩
  rw [labelR_ok hl]
  have e1 : itoaB 2 = { data := #[50] } := by unfold itoaB Lib.itoa; simp [Lib.decDigits]
  have e2 : itoaB 1 = { data := #[49] } := by unfold itoaB Lib.itoa; simp [Lib.decDigits]
  have e3 : itoaB 40 = { data := #[52, 48] } := by unfold itoaB Lib.itoa; simp [Lib.decDigits]
  have : labelB p0 = l0 := by
    show joinB [itoaB 2, fromB, itoaB 1 ++ colonB, _, _, _, whatB p0, itoaB 40, statB p0] spaceB = l0
    rw [e1, e2, e3]
    rfl
  rw [this]

theorem awake_vc : fnVC T Tryd.prog Tryd.f10 [] (.lit (.bool true)) := by
  have hs := share_spec 10 [1, 1, 1] (by decide)
  rw [share_example] at hs
  have hl := label_spec p0
  rw [label_example] at hl
  have hr : rtOk ⟨0, 0, 0, 0, 0, 0, 0⟩ := by unfold rtOk Rt.l; simp
  repeat' ((conv => whnf); first
    | (refine call_i (hs) false ?_ rfl ?_; focus ((repeat' (first | exact trivial | refine And.intro ?_ ?_ | with_reducible rfl | exact (fun h => by cases h) | exact rfl)); done))
    | (refine call_i (hl) false ?_ rfl ?_; focus ((repeat' (first | exact trivial | refine And.intro ?_ ?_ | with_reducible rfl | exact (fun h => by cases h) | exact rfl)); done))
    | (refine call_i (sameInts_spec [4, 3, 3] [4, 3, 3] (by decide)) true ?_ rfl ?_; focus ((repeat' (first | exact trivial | refine And.intro ?_ ?_ | with_reducible rfl | exact (fun h => by cases h) | exact rfl)); done))
    | (exfalso; exact hd rfl)
    | (exfalso; exact heq rfl)
    | refine br_eqS (fun heq => ?_) (fun heq => ?_)
    | (refine call_i (valid_spec ⟨0, 0, 0, 0, 0, 0, 0⟩) false ?_ rfl ?_; focus ((repeat' (first | exact trivial | refine And.intro ?_ ?_ | with_reducible rfl | exact (fun h => by cases h) | exact rfl)); done))
    | refine seq_go ?_
    | refine draw_i (by kernel_rfl) ?_
    | refine arith_half (by omega) ?_
    | refine arith_in (by omega) ?_
    | refine arith_u (by omega) ?_
    | refine need_i (p := (T.row _).eq = true) (by kernel_rfl) ?_
    | refine need_i (by omega) ?_
    | refine br_not ?_
    | refine br_dec (fun hd => ?_) (fun hd => ?_)
    | refine br_lt (fun hlt => ?_) (fun hlt => ?_)
    | refine br_le (fun hle => ?_) (fun hle => ?_)
    | refine br_eq (fun heq => ?_) (fun heq => ?_)
    | refine idx_map (by omega) (fun x hx => ?_)
    | refine live_i rfl (fun h => by cases h) ?_
    | refine branch_s (fun hbb => ?_) (fun hbb => ?_)
    | refine ret_i ?_)
  conv => whnf
  exact ret_bool (decB_t.2 hr)
theorem awake_spec : Sp 10 [] (.lit (.bool true)) := sp_of Tryd.func10 (by kernel_rfl) (by kernel_rfl) awake_vc
end Go.Proofs.Cost58
