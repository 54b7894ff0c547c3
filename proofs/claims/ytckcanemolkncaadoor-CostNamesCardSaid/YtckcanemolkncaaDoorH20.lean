/-
  Stable sorting, walked: the merge in place, in general.
  Stable sorting, in plain Lean: blocks that are merged are sorted as a whole.
-/
import Derived.Test.YtckcanemolkncaaDoorH19
import Derived.Test.YtckcanemolkncaaDoorH18
set_option linter.unusedVariables false
set_option linter.unusedSimpArgs false
namespace Go.Proofs.Cost58
open Go Go.Proofs Go.Ab
set_option maxRecDepth 100000
variable {g : FuncId} {cs : List V} {c : Int → Int → Int} {Q : Int → Prop} {key : Int → Int}

def SymN (g : FuncId) (cs : List V) (c : Int → Int → Int) (Q : Int → Prop) (key : Int → Int) (N : Nat) : Prop := ∀ {l l' : List Int} {a m b : Int} (A X Y C : List Int), X.length + Y.length ≤ N → 0 < X.length → 0 < Y.length → Srt key X → Srt key Y → (∀ z ∈ X, Q z) → (∀ z ∈ Y, Q z) →
    l = A ++ X ++ Y ++ C → l' = A ++ mergeP c X Y ++ C → a = A.length → m = A.length + X.length → b = A.length + X.length + Y.length → A.length + X.length + Y.length + C.length ≤ 100000 →
    SpIO 100 [.own 3 (l.map I), I a, I m, I b, .fn g [.fp cs]] (.tup []) 3 (l'.map I)

def CutL (c : Int → Int → Int) (X Y : List Int) (h lo u : Nat) : Prop := u = lo ∨ ∃ x y, X[u - 1]? = some x ∧ Y[h - u]? = some y ∧ ¬ c y x < 0
def CutR (c : Int → Int → Int) (X Y : List Int) (h hi v : Nat) : Prop := v = hi ∨ ∃ x y, X[v]? = some x ∧ Y[h - v - 1]? = some y ∧ c y x < 0
set_option maxHeartbeats 2000000 in
theorem sym3_vc (hc : CmpOk g cs c Q) (hk : ∀ a b, c a b < 0 ↔ key a < key b) {N : Nat} (ih : SymN g cs c Q key N) (A X Y C : List Int) (hX2 : 2 ≤ X.length) (hY2 : 2 ≤ Y.length) (hN : X.length + Y.length ≤ N + 1) (hXs : Srt key X) (hYs : Srt key Y) (hqX : ∀ z ∈ X, Q z) (hqY : ∀ z ∈ Y, Q z) (hl : A.length + X.length + Y.length + C.length ≤ 100000) :
    fnIO T Tryd.prog Tryd.f100 [.own 3 ((A ++ X ++ Y ++ C).map I), I A.length, I (A.length + X.length), I (A.length + X.length + Y.length), .fn g [.fp cs]] (.tup []) 0 3 ((A ++ mergeP c X Y ++ C).map I) := by
  have hsz : (A ++ X ++ Y ++ C).length = A.length + X.length + Y.length + C.length := by simp; omega
  obtain ⟨h, hh⟩ : ∃ h, h = (X.length + Y.length) / 2 := ⟨_, rfl⟩
  obtain ⟨lo, hi, hlh⟩ : ∃ lo hi, (X.length > h ∧ lo + Y.length = h ∧ hi = h) ∨ (X.length ≤ h ∧ lo = 0 ∧ hi = X.length) := by
    rcases Nat.lt_or_ge h X.length with q | q
    · exact ⟨h - Y.length, h, .inl ⟨q, by omega, rfl⟩⟩
    · exact ⟨0, X.length, .inr ⟨q, rfl, rfl⟩⟩
  iterate 7 (
    repeat' ((conv => whnf); first
      | (exfalso; omega)
      | refine draw_i (by kernel_rfl) ?_
      | refine arith_half (by omega) ?_
      | refine arith_in (by omega) ?_
      | refine arith_u (by omega) ?_
      | refine need_i (p := (T.row _).eq = true) (by kernel_rfl) ?_
      | refine need_i (by omega) ?_
      | refine br_not ?_
      | refine br_dec (fun hd => ?_) (fun hd => ?_)
      | refine br_lt (fun hlt => ?_) (fun hlt => ?_)
      | refine br_le (fun hle => ?_) (fun hle => ?_)
      | refine br_eq (fun heq => ?_) (fun heq => ?_)
      | refine idx_map (by omega) (fun x hx => ?_)
      | refine live_i rfl (fun h => by cases h) ?_
      | refine branch_s (fun hbb => ?_) (fun hbb => ?_)
      | refine ret_i ?_
      | refine retB_i ?_)
    conv => whnf
    refine seq_go ?_)
  repeat' ((conv => whnf); first
    | (exfalso; omega)
    | refine draw_i (by kernel_rfl) ?_
    | refine arith_half (by omega) ?_
    | refine arith_in (by omega) ?_
    | refine arith_u (by omega) ?_
    | refine need_i (p := (T.row _).eq = true) (by kernel_rfl) ?_
    | refine need_i (by omega) ?_
    | refine br_not ?_
    | refine br_dec (fun hd => ?_) (fun hd => ?_)
    | refine br_lt (fun hlt => ?_) (fun hlt => ?_)
    | refine br_le (fun hle => ?_) (fun hle => ?_)
    | refine br_eq (fun heq => ?_) (fun heq => ?_)
    | refine idx_map (by omega) (fun x hx => ?_)
    | refine live_i rfl (fun h => by cases h) ?_
    | refine branch_s (fun hbb => ?_) (fun hbb => ?_)
    | refine ret_i ?_
    | refine retB_i ?_)
  conv => whnf
  refine seq_cut Unit (fun _ => mkSt [(0, .arr 0 0), (1, I A.length), (2, I (A.length + X.length)), (3, I (A.length + X.length + Y.length)), (4, .fn g [.fp cs]), (18, I (A.length + h)), (19, I (2 * A.length + h + X.length)), (20, I (A.length + lo)), (21, I (A.length + hi))] [] [(0, ⟨0, .own, 3, (A ++ X ++ Y ++ C).map I⟩)]) (fun _ => True) ?_ (fun _ _ => ?_)
  · repeat' ((conv => whnf); first
      | refine seq_go ?_
      | refine draw_i (by kernel_rfl) ?_
      | refine arith_half (by omega) ?_
      | refine arith_in (by omega) ?_
      | refine arith_u (by omega) ?_
      | refine need_i (p := (T.row _).eq = true) (by kernel_rfl) ?_
      | refine need_i (by omega) ?_
      | refine br_not ?_
      | refine br_dec (fun hd => ?_) (fun hd => ?_)
      | refine br_lt (fun hlt => ?_) (fun hlt => ?_)
      | refine br_le (fun hle => ?_) (fun hle => ?_)
      | refine br_eq (fun heq => ?_) (fun heq => ?_)
      | refine idx_map (by omega) (fun x hx => ?_)
      | refine live_i rfl (fun h => by cases h) ?_
      | refine branch_s (fun hbb => ?_) (fun hbb => ?_)
      | refine ret_i ?_
      | refine retB_i ?_)
    all_goals
      refine ⟨(), ?_, trivial⟩
      refine le_mk ?_ ?_ ?_ ?_
      all_goals repeat' (first | exact trivial | refine And.intro ?_ ?_ | with_reducible rfl | exact Nat.le_refl _ | omega | exact rfl)
  conv => whnf
  refine seq_go ?_
  repeat' ((conv => whnf); first
    | (exfalso; omega)
    | refine draw_i (by kernel_rfl) ?_
    | refine arith_half (by omega) ?_
    | refine arith_in (by omega) ?_
    | refine arith_u (by omega) ?_
    | refine need_i (p := (T.row _).eq = true) (by kernel_rfl) ?_
    | refine need_i (by omega) ?_
    | refine br_not ?_
    | refine br_dec (fun hd => ?_) (fun hd => ?_)
    | refine br_lt (fun hlt => ?_) (fun hlt => ?_)
    | refine br_le (fun hle => ?_) (fun hle => ?_)
    | refine br_eq (fun heq => ?_) (fun heq => ?_)
    | refine idx_map (by omega) (fun x hx => ?_)
    | refine live_i rfl (fun h => by cases h) ?_
    | refine branch_s (fun hbb => ?_) (fun hbb => ?_)
    | refine ret_i ?_
    | refine retB_i ?_)
  conv => whnf
  refine seq_cut Nat (fun v => mkSt [(0, .arr 0 0), (1, I A.length), (2, I (A.length + X.length)), (3, I (A.length + X.length + Y.length)), (4, .fn g [.fp cs]), (18, I (A.length + h)), (19, I (2 * A.length + h + X.length)), (20, I (A.length + v))] [] [(0, ⟨0, .own, 3, (A ++ X ++ Y ++ C).map I⟩)])
    (fun v => lo ≤ v ∧ v ≤ hi ∧ CutL c X Y h lo v ∧ CutR c X Y h hi v) ?_ (fun v hv => ?_)
  · repeat' ((conv => whnf); first
      | refine seq_go ?_
      | refine draw_i (by kernel_rfl) ?_
      | refine arith_half (by omega) ?_
      | refine arith_in (by omega) ?_
      | refine arith_u (by omega) ?_
      | refine need_i (p := (T.row _).eq = true) (by kernel_rfl) ?_
      | refine need_i (by omega) ?_
      | refine br_not ?_
      | refine br_dec (fun hd => ?_) (fun hd => ?_)
      | refine br_lt (fun hlt => ?_) (fun hlt => ?_)
      | refine br_le (fun hle => ?_) (fun hle => ?_)
      | refine br_eq (fun heq => ?_) (fun heq => ?_)
      | refine idx_map (by omega) (fun x hx => ?_)
      | refine live_i rfl (fun h => by cases h) ?_
      | refine branch_s (fun hbb => ?_) (fun hbb => ?_)
      | refine ret_i ?_
      | refine retB_i ?_)
    refine loop_2 (A := Nat) (B := Nat) (fun u v => mkSt [(0, .arr 0 0), (1, I A.length), (2, I (A.length + X.length)), (3, I (A.length + X.length + Y.length)), (4, .fn g [.fp cs]), (18, I (A.length + h)), (19, I (2 * A.length + h + X.length)), (20, I (A.length + u)), (21, I (A.length + v)), (22, I (2 * A.length + h + X.length - 1))] [] [(0, ⟨0, .own, 3, (A ++ X ++ Y ++ C).map I⟩)])
      (fun u v => lo ≤ u ∧ u ≤ v ∧ v ≤ hi ∧ CutL c X Y h lo u ∧ CutR c X Y h hi v) (fun u v => v - u) lo hi ?_
      ⟨by omega, by omega, by omega, .inl rfl, .inl rfl⟩ (fun u v hp => ?_)
    · refine le_mk ?_ ?_ ?_ ?_
      all_goals repeat' (first | exact trivial | refine And.intro ?_ ?_ | with_reducible rfl | exact Nat.le_refl _ | omega | exact rfl)
    · obtain ⟨hp1, hp2, hp3, hp4, hp5⟩ := hp
      rcases Nat.lt_or_ge u v with huv | huv
      · obtain ⟨w, hw⟩ : ∃ w, w = (u + v) / 2 := ⟨_, rfl⟩
        have hwl : w < X.length := by omega
        obtain ⟨x, hx⟩ : ∃ x, X[w]? = some x := ⟨_, List.getElem?_eq_getElem hwl⟩
        have hqx : Q x := hqX x (List.mem_of_getElem? hx)
        have hXw : X = X.take w ++ x :: X.drop (w + 1) := by
          have e := (List.getElem?_eq_some_iff.1 hx).2
          rw [← e, ← List.drop_eq_getElem_cons hwl, List.take_append_drop]
        have hLx : A ++ X ++ Y ++ C = (A ++ X.take w) ++ x :: (X.drop (w + 1) ++ Y ++ C) := by
          conv => lhs; rw [hXw]
          simp
        have hi1 : (A ++ X.take w).length = A.length + w := by simp; omega
        have hzl : h - w - 1 < Y.length := by omega
        obtain ⟨y, hy⟩ : ∃ x, Y[h - w - 1]? = some x := ⟨_, List.getElem?_eq_getElem hzl⟩
        have hqy : Q y := hqY y (List.mem_of_getElem? hy)
        have hYw : Y = Y.take (h - w - 1) ++ y :: Y.drop (h - w - 1 + 1) := by
          have e := (List.getElem?_eq_some_iff.1 hy).2
          rw [← e, ← List.drop_eq_getElem_cons hzl, List.take_append_drop]
        have hLy : A ++ X ++ Y ++ C = (A ++ X ++ Y.take (h - w - 1)) ++ y :: (Y.drop (h - w - 1 + 1) ++ C) := by
          conv => lhs; rw [hYw]
          simp
        have hi2 : (A ++ X ++ Y.take (h - w - 1)).length = A.length + X.length + (h - w - 1) := by simp; omega
        repeat' ((conv => whnf); first
          | (exfalso; omega)
          | (refine need_mid (l := A ++ X ++ Y ++ C) rfl (fun h => by cases h) rfl ?_ ?_; focus (constructor <;> omega))
          | refine idx_mid (l := A ++ X ++ Y ++ C) (A := A ++ X.take w) (x := x) (B := X.drop (w + 1) ++ Y ++ C) hLx (by rw [hi1]; omega) ?_
          | refine idx_mid (l := A ++ X ++ Y ++ C) (A := A ++ X ++ Y.take (h - w - 1)) (x := y) (B := Y.drop (h - w - 1 + 1) ++ C) hLy (by rw [hi2]; omega) ?_
          | (refine call_i (hc y x hqy hqx) false ?_ rfl ?_; focus ((repeat' (first | exact trivial | refine And.intro ?_ ?_ | with_reducible rfl | exact (fun h => by cases h) | exact rfl)); done))
          | refine seq_go ?_
          | refine draw_i (by kernel_rfl) ?_
          | refine arith_half (by omega) ?_
          | refine arith_in (by omega) ?_
          | refine arith_u (by omega) ?_
          | refine need_i (p := (T.row _).eq = true) (by kernel_rfl) ?_
          | refine need_i (by omega) ?_
          | refine br_not ?_
          | refine br_dec (fun hd => ?_) (fun hd => ?_)
          | refine br_lt (fun hlt => ?_) (fun hlt => ?_)
          | refine br_le (fun hle => ?_) (fun hle => ?_)
          | refine br_eq (fun heq => ?_) (fun heq => ?_)
          | refine idx_map (by omega) (fun x hx => ?_)
          | refine live_i rfl (fun h => by cases h) ?_
          | refine branch_s (fun hbb => ?_) (fun hbb => ?_)
          | refine ret_i ?_
          | refine retB_i ?_)
        · refine ⟨(u, w), ?_, ⟨hp1, by show u ≤ w; omega, by show w ≤ hi; omega, hp4, .inr ⟨x, y, hx, hy, by assumption⟩⟩, by show w - u < v - u; omega⟩
          refine le_mk ?_ ?_ ?_ ?_
          all_goals repeat' (first | exact trivial | refine And.intro ?_ ?_ | with_reducible rfl | exact Nat.le_refl _ | omega | exact rfl)
        · refine ⟨(w + 1, v), ?_, ⟨by show lo ≤ w + 1; omega, by show w + 1 ≤ v; omega, hp3, .inr ⟨x, y, hx, by rw [← hy]; show Y[h - (w + 1)]? = _; congr 1, by omega⟩, hp5⟩, by show v - (w + 1) < v - u; omega⟩
          refine le_mk ?_ ?_ ?_ ?_
          all_goals repeat' (first | exact trivial | refine And.intro ?_ ?_ | with_reducible rfl | exact Nat.le_refl _ | omega | exact rfl)
      · have huv' : v = u := by omega
        subst huv'
        repeat' ((conv => whnf); first
          | (exfalso; omega)
          | refine seq_go ?_
          | refine draw_i (by kernel_rfl) ?_
          | refine arith_half (by omega) ?_
          | refine arith_in (by omega) ?_
          | refine arith_u (by omega) ?_
          | refine need_i (p := (T.row _).eq = true) (by kernel_rfl) ?_
          | refine need_i (by omega) ?_
          | refine br_not ?_
          | refine br_dec (fun hd => ?_) (fun hd => ?_)
          | refine br_lt (fun hlt => ?_) (fun hlt => ?_)
          | refine br_le (fun hle => ?_) (fun hle => ?_)
          | refine br_eq (fun heq => ?_) (fun heq => ?_)
          | refine idx_map (by omega) (fun x hx => ?_)
          | refine live_i rfl (fun h => by cases h) ?_
          | refine branch_s (fun hbb => ?_) (fun hbb => ?_)
          | refine ret_i ?_
          | refine retB_i ?_)
        refine ⟨v, ?_, ⟨hp1, hp3, hp4, hp5⟩⟩
        refine le_mk ?_ ?_ ?_ ?_
        all_goals repeat' (first | exact trivial | refine And.intro ?_ ?_ | with_reducible rfl | exact Nat.le_refl _ | omega | exact rfl)
  · obtain ⟨hp1, hp3, hp4, hp5⟩ := hv
    have hm := cut_sound hk hXs hYs (s := v) (e := h - v) (by omega) (by omega)
      (by rcases hp4 with q | q
          · rcases hlh with r | r
            · exact .inr (.inl (by omega))
            · exact .inl (by omega)
          · exact .inr (.inr q))
      (by rcases hp5 with q | q
          · rcases hlh with r | r
            · exact .inr (.inl (by omega))
            · exact .inl (by omega)
          · exact .inr (.inr q))
    have hX' := (List.take_append_drop v X).symm
    have hY' := (List.take_append_drop (h - v) Y).symm
    have e1 : (X.take v).length = v := by rw [List.length_take]; omega
    have e2 : (X.drop v).length = X.length - v := by rw [List.length_drop]
    have e3 : (Y.take (h - v)).length = h - v := by rw [List.length_take]; omega
    have e4 : (Y.drop (h - v)).length = Y.length - (h - v) := by rw [List.length_drop]
    obtain ⟨X1, hX1⟩ : ∃ z, X.take v = z := ⟨_, rfl⟩
    obtain ⟨X2, hX2'⟩ : ∃ z, X.drop v = z := ⟨_, rfl⟩
    obtain ⟨Y1, hY1⟩ : ∃ z, Y.take (h - v) = z := ⟨_, rfl⟩
    obtain ⟨Y2, hY2'⟩ : ∃ z, Y.drop (h - v) = z := ⟨_, rfl⟩
    rw [hX1] at hX' e1 hm
    rw [hX2'] at hX' e2 hm
    rw [hY1] at hY' e3 hm
    rw [hY2'] at hY' e4 hm
    have sX1 : Srt key X1 := by rw [hX'] at hXs; exact hXs.left
    have sX2 : Srt key X2 := by rw [hX'] at hXs; exact hXs.right
    have sY1 : Srt key Y1 := by rw [hY'] at hYs; exact hYs.left
    have sY2 : Srt key Y2 := by rw [hY'] at hYs; exact hYs.right
    have qX1 : ∀ z ∈ X1, Q z := fun z hz => hqX z (by rw [hX']; simp [hz])
    have qX2 : ∀ z ∈ X2, Q z := fun z hz => hqX z (by rw [hX']; simp [hz])
    have qY1 : ∀ z ∈ Y1, Q z := fun z hz => hqY z (by rw [hY']; simp [hz])
    have qY2 : ∀ z ∈ Y2, Q z := fun z hz => hqY z (by rw [hY']; simp [hz])
    have hM : (mergeP c X1 Y1).length = X1.length + Y1.length := mergeP_len _ _ _ (Nat.le_refl _)
    have hLA : A ++ X ++ Y ++ C = A ++ X1 ++ X2 ++ Y1 ++ (Y2 ++ C) := by rw [hX', hY']; simp
    have hA1 : (A ++ X1).length = A.length + v := by rw [List.length_append]; omega
    have hA2 : (A ++ X1 ++ Y1).length = A.length + h := by rw [List.length_append, List.length_append]; omega
    have hA3 : (A ++ mergeP c X1 Y1).length = A.length + h := by rw [List.length_append]; omega
    have hA4 : (Y2 ++ C).length = Y2.length + C.length := List.length_append
    have hA5 : (X2 ++ Y2 ++ C).length = X2.length + Y2.length + C.length := by rw [List.length_append, List.length_append]
    have hM1 : ¬ (0 < v ∧ v < h) → mergeP c X1 Y1 = X1 ++ Y1 := fun q => by
      rcases Nat.lt_or_ge 0 v with q' | q'
      · have : Y1 = [] := List.length_eq_zero_iff.1 (by omega)
        rw [this, mergeP_nil']; simp
      · have : X1 = [] := List.length_eq_zero_iff.1 (by omega)
        rw [this, mergeP_nil]; simp
    have hM2 : ¬ (v < X.length ∧ h - v < Y.length) → mergeP c X2 Y2 = X2 ++ Y2 := fun q => by
      rcases Nat.lt_or_ge v X.length with q' | q'
      · have : Y2 = [] := List.length_eq_zero_iff.1 (by omega)
        rw [this, mergeP_nil']; simp
      · have : X2 = [] := List.length_eq_zero_iff.1 (by omega)
        rw [this, mergeP_nil]; simp
    clear hXs hYs hqX hqY hX' hY' hX1 hX2' hY1 hY2' hp4 hp5
    conv => whnf
    refine seq_go ?_
    repeat' ((conv => whnf); first
      | (exfalso; omega)
      | refine draw_i (by kernel_rfl) ?_
      | refine arith_half (by omega) ?_
      | refine arith_in (by omega) ?_
      | refine arith_u (by omega) ?_
      | refine need_i (p := (T.row _).eq = true) (by kernel_rfl) ?_
      | refine need_i (by omega) ?_
      | refine br_not ?_
      | refine br_dec (fun hd => ?_) (fun hd => ?_)
      | refine br_lt (fun hlt => ?_) (fun hlt => ?_)
      | refine br_le (fun hle => ?_) (fun hle => ?_)
      | refine br_eq (fun heq => ?_) (fun heq => ?_)
      | refine idx_map (by omega) (fun x hx => ?_)
      | refine live_i rfl (fun h => by cases h) ?_
      | refine branch_s (fun hbb => ?_) (fun hbb => ?_)
      | refine ret_i ?_
      | refine retB_i ?_)
    conv => whnf
    refine seq_cut Unit (fun _ => mkSt [(0, .arr 0 0), (1, I A.length), (3, I (A.length + X.length + Y.length)), (4, .fn g [.fp cs]), (18, I (A.length + h)), (20, I (A.length + v)), (24, I (A.length + X.length + (h - v : Nat)))] [] [(0, ⟨0, .own, 3, (A ++ X1 ++ Y1 ++ X2 ++ Y2 ++ C).map I⟩)]) (fun _ => True) ?_ (fun _ _ => ?_)
    · repeat' ((conv => whnf); first
        | (exfalso; omega)
        | (refine call_io_i (rot_spec (g := g) (cs := cs) (l := A ++ X ++ Y ++ C) (l' := A ++ X1 ++ Y1 ++ X2 ++ Y2 ++ C) (a := A.length + v) (m := A.length + X.length) (b := 2 * A.length + h + X.length - (A.length + v)) (A ++ X1) X2 Y1 (Y2 ++ C) (by omega) (by omega) hLA (by simp) (by omega) (by omega) (by omega) (by omega)) rfl rfl ?_ rfl rfl ?_; focus ((repeat' (first | exact trivial | refine And.intro ?_ ?_ | with_reducible rfl | exact (fun h => by cases h) | exact rfl)); done))
        | refine seq_go ?_
        | refine draw_i (by kernel_rfl) ?_
        | refine arith_half (by omega) ?_
        | refine arith_in (by omega) ?_
        | refine arith_u (by omega) ?_
        | refine need_i (p := (T.row _).eq = true) (by kernel_rfl) ?_
        | refine need_i (by omega) ?_
        | refine br_not ?_
        | refine br_dec (fun hd => ?_) (fun hd => ?_)
        | refine br_lt (fun hlt => ?_) (fun hlt => ?_)
        | refine br_le (fun hle => ?_) (fun hle => ?_)
        | refine br_eq (fun heq => ?_) (fun heq => ?_)
        | refine idx_map (by omega) (fun x hx => ?_)
        | refine live_i rfl (fun h => by cases h) ?_
        | refine branch_s (fun hbb => ?_) (fun hbb => ?_)
        | refine ret_i ?_
        | refine retB_i ?_)
      all_goals
        refine ⟨(), ?_, trivial⟩
        refine le_mk ?_ ?_ ?_ ?_
        all_goals repeat' (first | exact trivial | refine And.intro ?_ ?_ | with_reducible rfl | exact Nat.le_refl _ | omega | exact rfl)
      all_goals
        have hXY : X2 = [] ∨ Y1 = [] := by
          rcases Nat.lt_or_ge v X.length with q | q
          · exact .inr (List.length_eq_zero_iff.1 (by omega))
          · exact .inl (List.length_eq_zero_iff.1 (by omega))
        show List.map I (A ++ X ++ Y ++ C) = List.map I (A ++ X1 ++ Y1 ++ X2 ++ Y2 ++ C)
        rw [hLA]
        rcases hXY with rfl | rfl <;> simp
    conv => whnf
    refine seq_cut Unit (fun _ => mkSt [(0, .arr 0 0), (3, I (A.length + X.length + Y.length)), (4, .fn g [.fp cs]), (18, I (A.length + h)), (24, I (A.length + X.length + (h - v : Nat)))] [] [(0, ⟨0, .own, 3, (A ++ mergeP c X1 Y1 ++ X2 ++ Y2 ++ C).map I⟩)]) (fun _ => True) ?_ (fun _ _ => ?_)
    · repeat' ((conv => whnf); first
        | (exfalso; omega)
        | (refine call_io_i (ih (l := A ++ X1 ++ Y1 ++ X2 ++ Y2 ++ C) (l' := A ++ mergeP c X1 Y1 ++ X2 ++ Y2 ++ C) (a := A.length) (m := A.length + v) (b := A.length + h) A X1 Y1 (X2 ++ Y2 ++ C) (by omega) (by omega) (by omega) sX1 sY1 qX1 qY1 (by simp) (by simp) (by omega) (by omega) (by omega) (by omega)) rfl rfl ?_ rfl rfl ?_; focus ((repeat' (first | exact trivial | refine And.intro ?_ ?_ | with_reducible rfl | exact (fun h => by cases h) | exact rfl)); done))
        | refine seq_go ?_
        | refine draw_i (by kernel_rfl) ?_
        | refine arith_half (by omega) ?_
        | refine arith_in (by omega) ?_
        | refine arith_u (by omega) ?_
        | refine need_i (p := (T.row _).eq = true) (by kernel_rfl) ?_
        | refine need_i (by omega) ?_
        | refine br_not ?_
        | refine br_dec (fun hd => ?_) (fun hd => ?_)
        | refine br_lt (fun hlt => ?_) (fun hlt => ?_)
        | refine br_le (fun hle => ?_) (fun hle => ?_)
        | refine br_eq (fun heq => ?_) (fun heq => ?_)
        | refine idx_map (by omega) (fun x hx => ?_)
        | refine live_i rfl (fun h => by cases h) ?_
        | refine branch_s (fun hbb => ?_) (fun hbb => ?_)
        | refine ret_i ?_
        | refine retB_i ?_)
      all_goals
        refine ⟨(), ?_, trivial⟩
        refine le_mk ?_ ?_ ?_ ?_
        all_goals repeat' (first | exact trivial | refine And.intro ?_ ?_ | with_reducible rfl | exact Nat.le_refl _ | omega | exact rfl)
      all_goals
        show List.map I (A ++ X1 ++ Y1 ++ X2 ++ Y2 ++ C) = List.map I (A ++ mergeP c X1 Y1 ++ X2 ++ Y2 ++ C)
        rw [hM1 (by omega)]; simp
    · repeat' ((conv => whnf); first
        | (exfalso; omega)
        | (refine call_io_i (ih (l := A ++ mergeP c X1 Y1 ++ X2 ++ Y2 ++ C) (l' := A ++ mergeP c X1 Y1 ++ mergeP c X2 Y2 ++ C) (a := A.length + h) (m := A.length + X.length + (h - v : Nat)) (b := A.length + X.length + Y.length) (A ++ mergeP c X1 Y1) X2 Y2 C (by omega) (by omega) (by omega) sX2 sY2 qX2 qY2 (by simp) (by simp) (by omega) (by omega) (by omega) (by omega)) rfl rfl ?_ rfl rfl ?_; focus ((repeat' (first | exact trivial | refine And.intro ?_ ?_ | with_reducible rfl | exact (fun h => by cases h) | exact rfl)); done))
        | refine retIO_i ?_
        | refine seq_go ?_
        | refine draw_i (by kernel_rfl) ?_
        | refine arith_half (by omega) ?_
        | refine arith_in (by omega) ?_
        | refine arith_u (by omega) ?_
        | refine need_i (p := (T.row _).eq = true) (by kernel_rfl) ?_
        | refine need_i (by omega) ?_
        | refine br_not ?_
        | refine br_dec (fun hd => ?_) (fun hd => ?_)
        | refine br_lt (fun hlt => ?_) (fun hlt => ?_)
        | refine br_le (fun hle => ?_) (fun hle => ?_)
        | refine br_eq (fun heq => ?_) (fun heq => ?_)
        | refine idx_map (by omega) (fun x hx => ?_)
        | refine live_i rfl (fun h => by cases h) ?_
        | refine branch_s (fun hbb => ?_) (fun hbb => ?_)
        | refine ret_i ?_
        | refine retB_i ?_)
      all_goals
        conv => whnf
        refine ⟨[], rfl, ⟨⟨rfl, rfl, rfl, ?_⟩, trivial⟩, rfl⟩
        rw [hm]
        first
          | (show List.map I (A ++ mergeP c X1 Y1 ++ mergeP c X2 Y2 ++ C) = _; simp; done)
          | (show List.map I (A ++ mergeP c X1 Y1 ++ X2 ++ Y2 ++ C) = _; rw [hM2 (by omega)]; simp; done)
theorem sym_spec (hc : CmpOk g cs c Q) (hk : ∀ a b, c a b < 0 ↔ key a < key b) : ∀ N, SymN g cs c Q key N := by
  intro N
  induction N with
  | zero => intro l l' a m b A X Y C h h1; omega
  | succ N ih =>
    intro l l' a m b A X Y C hN hX hY hXs hYs hqX hqY e1 e2 e3 e4 e5 hl
    subst e1 e2 e3 e4 e5
    by_cases h1 : X.length = 1
    · obtain ⟨x, rfl⟩ := List.length_eq_one_iff.1 h1
      exact io_of rfl Tryd.func100 (by kernel_rfl) (by kernel_rfl) (sym1_vc hc hk A Y C x hYs (hqX x (by simp)) hqY hl)
    · by_cases h2 : Y.length = 1
      · obtain ⟨y, rfl⟩ := List.length_eq_one_iff.1 h2
        exact io_of rfl Tryd.func100 (by kernel_rfl) (by kernel_rfl) (sym2_vc hc hk A X C y hXs (hqY y (by simp)) hqX (by omega) (by simp at hl; omega))
      · exact io_of rfl Tryd.func100 (by kernel_rfl) (by kernel_rfl) (sym3_vc hc hk ih A X Y C (by omega) (by omega) (by omega) hXs hYs hqX hqY hl)
end Go.Proofs.Cost58
namespace Go.Proofs.Cost58
section
variable {α : Type} {c : α → α → Int} {key : α → Int}
def PW (key : α → Int) (l : List α) : Prop := l.Pairwise (fun a b => key a ≤ key b)
theorem PW.srt {l : List α} (h : PW key l) : Srt key l := fun i j x y hij hx hy => by
  obtain ⟨h1, rfl⟩ := List.getElem?_eq_some_iff.1 hx
  obtain ⟨h2, rfl⟩ := List.getElem?_eq_some_iff.1 hy
  rcases Nat.lt_or_eq_of_le hij with q | q
  · exact List.pairwise_iff_getElem.1 h i j h1 h2 q
  · subst q; exact Int.le_refl _
/-- a sorted list is cut at a key -/
theorem PW.cut (z : α) : ∀ {l : List α}, PW key l → ∃ A B, l = A ++ B ∧ (∀ x ∈ A, key x ≤ key z) ∧ (∀ x ∈ B, key z < key x)
  | [], _ => ⟨[], [], rfl, by simp, by simp⟩
  | x :: l, h => by
    have h' := List.pairwise_cons.1 h
    by_cases hx : key x ≤ key z
    · obtain ⟨A, B, e, h1, h2⟩ := PW.cut z (l := l) h'.2
      refine ⟨x :: A, B, by rw [e]; rfl, fun y hy => ?_, h2⟩
      rcases List.mem_cons.1 hy with rfl | hy
      · exact hx
      · exact h1 y hy
    · refine ⟨[], x :: l, rfl, by simp, fun y hy => ?_⟩
      rcases List.mem_cons.1 hy with rfl | hy
      · omega
      · have := h'.1 y hy; omega
theorem PW.ins {A B : List α} {z : α} (h : PW key (A ++ B)) (h1 : ∀ x ∈ A, key x ≤ key z) (h2 : ∀ x ∈ B, key z < key x) : PW key (A ++ z :: B) := by
  obtain ⟨q1, q2, q3⟩ := List.pairwise_append.1 h
  refine List.pairwise_append.2 ⟨q1, List.pairwise_cons.2 ⟨fun y hy => by have := h2 y hy; omega, q2⟩, fun x hx y hy => ?_⟩
  rcases List.mem_cons.1 hy with rfl | hy
  · exact h1 x hx
  · exact q3 x hx y hy
theorem insR_cut (hk : ∀ a b, c a b < 0 ↔ key a < key b) {z : α} {S : List α} (h1 : ∀ x ∈ S, key x ≤ key z) : ∀ R : List α, (∀ x ∈ R, key z < key x) → insR c z (R ++ S) = R ++ z :: S
  | [], _ => by
    cases S with
    | nil => rfl
    | cons y r =>
      show (if c z y < 0 then y :: insR c z r else z :: y :: r) = z :: y :: r
      rw [if_neg (by rw [hk]; have := h1 y (by simp); omega)]
  | y :: R, h => by
    show (if c z y < 0 then y :: insR c z (R ++ S) else z :: y :: (R ++ S)) = y :: (R ++ z :: S)
    rw [if_pos (by rw [hk]; exact h y (by simp)), insR_cut hk h1 R (fun x hx => h x (by simp [hx]))]
theorem isortP_snoc (xs : List α) (z : α) : isortP c (xs ++ [z]) = (insR c z (isortP c xs).reverse).reverse := by
  unfold isortP; rw [isR_snoc, List.reverse_reverse]
theorem ins_cut (hk : ∀ a b, c a b < 0 ↔ key a < key b) {z : α} {A B xs : List α} (h : isortP c xs = A ++ B) (h1 : ∀ x ∈ A, key x ≤ key z) (h2 : ∀ x ∈ B, key z < key x) : isortP c (xs ++ [z]) = A ++ z :: B := by
  rw [isortP_snoc, h, List.reverse_append, insR_cut hk (by simpa using h1) _ (by simpa using h2)]; simp
/-- induction from the right -/
theorem snoc_ind {p : List α → Prop} (h0 : p []) (h1 : ∀ xs x, p xs → p (xs ++ [x])) (l : List α) : p l := by
  have : ∀ r : List α, p r.reverse := fun r => by
    induction r with
    | nil => exact h0
    | cons x r ih => rw [List.reverse_cons]; exact h1 _ _ ih
  have h := this l.reverse
  rwa [List.reverse_reverse] at h
theorem isortP_nil : isortP c ([] : List α) = [] := rfl
theorem isortP_pw (hk : ∀ a b, c a b < 0 ↔ key a < key b) (l : List α) : PW key (isortP c l) := by
  induction l using snoc_ind with
  | h0 => exact List.Pairwise.nil
  | h1 xs x ih =>
    obtain ⟨A, B, e, h1, h2⟩ := PW.cut x ih
    rw [ins_cut hk e h1 h2]
    rw [e] at ih
    exact PW.ins ih h1 h2
theorem isortP_len (l : List α) : (isortP c l).length = l.length := by unfold isortP; rw [List.length_reverse, isR_len]
theorem isortP_mem {l : List α} {z : α} : z ∈ isortP c l ↔ z ∈ l := by unfold isortP; rw [List.mem_reverse, isR_mem]
theorem merge_sorted (hk : ∀ a b, c a b < 0 ↔ key a < key b) (X Y : List α) : mergeP c (isortP c X) (isortP c Y) = isortP c (X ++ Y) := by
  induction Y using snoc_ind with
  | h0 => rw [isortP_nil, mergeP_nil', List.append_nil]
  | h1 Y z ih =>
    obtain ⟨A1, A2, eA, hA1, hA2⟩ := PW.cut z (isortP_pw hk X)
    obtain ⟨B1, B2, eB, hB1, hB2⟩ := PW.cut z (isortP_pw hk Y)
    have e1 : mergeP c (A1 ++ A2) (B1 ++ B2) = mergeP c A1 B1 ++ mergeP c A2 B2 := mergeP_split _ A1 B1 (Nat.le_refl _)
      (fun x hx y hy => by rw [hk]; have := hA1 x hx; have := hB2 y hy; omega) (fun y hy x hx => by rw [hk]; have := hA2 x hx; have := hB1 y hy; omega)
    have e2 : mergeP c (A1 ++ A2) ((B1 ++ [z]) ++ B2) = mergeP c A1 (B1 ++ [z]) ++ mergeP c A2 B2 := mergeP_split _ A1 (B1 ++ [z]) (Nat.le_refl _)
      (fun x hx y hy => by rw [hk]; have := hA1 x hx; have := hB2 y hy; omega) (fun y hy x hx => by
        rw [hk]; have := hA2 x hx
        rcases List.mem_append.1 hy with hy | hy
        · have := hB1 y hy; omega
        · rw [List.mem_singleton.1 hy]; exact this)
    have e3 : mergeP c (A1 ++ []) (B1 ++ [z]) = mergeP c A1 B1 ++ mergeP c [] [z] := mergeP_split _ A1 B1 (Nat.le_refl _)
      (fun x hx y hy => by rw [hk, List.mem_singleton.1 hy]; have := hA1 x hx; omega) (by simp)
    rw [List.append_nil, mergeP_nil] at e3
    rw [ins_cut hk eB hB1 hB2, eA, show B1 ++ z :: B2 = (B1 ++ [z]) ++ B2 by simp, e2, e3, ← List.append_assoc X Y [z]]
    rw [ins_cut hk (A := mergeP c A1 B1) (B := mergeP c A2 B2) (by rw [← ih, eA, eB, e1])]
    · simp
    · intro x hx
      rcases (mergeP_mem _ _ _ (Nat.le_refl _) x).1 hx with hx | hx
      · exact hA1 x hx
      · exact hB1 x hx
    · intro x hx
      rcases (mergeP_mem _ _ _ (Nat.le_refl _) x).1 hx with hx | hx
      · exact hA2 x hx
      · exact hB2 x hx
/-- sorted by blocks -/
def blk (c : α → α → Int) (k : Nat) (l : List α) : List α := if l.length ≤ k ∨ k = 0 then isortP c l else isortP c (l.take k) ++ blk c k (l.drop k)
termination_by l.length
decreasing_by simp; omega
theorem blk_small {k : Nat} {l : List α} (h : l.length ≤ k) : blk c k l = isortP c l := by rw [blk, if_pos (.inl h)]
theorem blk_step {k : Nat} {l : List α} (h0 : 0 < k) (h : k ≤ l.length) : blk c k l = isortP c (l.take k) ++ blk c k (l.drop k) := by
  rcases Nat.lt_or_eq_of_le h with q | q
  · rw [blk, if_neg (by omega)]
  · have e1 : l.take k = l := List.take_of_length_le (by omega)
    have e2 : l.drop k = [] := List.drop_eq_nil_of_le (by omega)
    rw [blk_small (by omega), e1, e2, blk_small (by simp), isortP_nil, List.append_nil]
theorem blk_len {k : Nat} : ∀ (n : Nat) (l : List α), l.length ≤ n → (blk c k l).length = l.length := by
  intro n
  induction n with
  | zero => intro l h; rw [blk_small (by omega), isortP_len]
  | succ n ih =>
    intro l h
    rw [blk]
    split
    · exact isortP_len l
    · rw [List.length_append, isortP_len, ih _ (by simp; omega)]; simp; omega
theorem blk_mem {k : Nat} : ∀ (n : Nat) (l : List α), l.length ≤ n → ∀ z, z ∈ blk c k l ↔ z ∈ l := by
  intro n
  induction n with
  | zero => intro l h z; rw [blk_small (by omega), isortP_mem]
  | succ n ih =>
    intro l h z
    rw [blk]
    split
    · exact isortP_mem
    · rw [List.mem_append, isortP_mem, ih _ (by simp; omega), ← List.mem_append, List.take_append_drop]
end
end Go.Proofs.Cost58
