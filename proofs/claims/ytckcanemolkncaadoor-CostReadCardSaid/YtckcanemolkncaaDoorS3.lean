/-
  Stable sorting, walked: the merge in place, in general.
  Stable sorting, walked: blocks, and the whole.
-/
import Derived.Test.YtckcanemolkncaaDoorS2
set_option linter.unusedVariables false
set_option linter.unusedSimpArgs false
namespace Go.Proofs.Cost58
open Go Go.Proofs Go.Ab
set_option maxRecDepth 100000
variable {g : FuncId} {cs : List V} {c : Int → Int → Int} {Q : Int → Prop} {key : Int → Int}

def SymN (g : FuncId) (cs : List V) (c : Int → Int → Int) (Q : Int → Prop) (key : Int → Int) (N : Nat) : Prop := ∀ {l l' : List Int} {a m b : Int} (A X Y C : List Int), X.length + Y.length ≤ N → 0 < X.length → 0 < Y.length → Srt key X → Srt key Y → (∀ z ∈ X, Q z) → (∀ z ∈ Y, Q z) →
    l = A ++ X ++ Y ++ C → l' = A ++ mergeP c X Y ++ C → a = A.length → m = A.length + X.length → b = A.length + X.length + Y.length → A.length + X.length + Y.length + C.length ≤ 100000 →
    SpIO 100 [.own 3 (l.map I), I a, I m, I b, .fn g [.fp cs]] (.tup []) 3 (l'.map I)

def CutL (c : Int → Int → Int) (X Y : List Int) (h lo u : Nat) : Prop := u = lo ∨ ∃ x y, X[u - 1]? = some x ∧ Y[h - u]? = some y ∧ ¬ c y x < 0
def CutR (c : Int → Int → Int) (X Y : List Int) (h hi v : Nat) : Prop := v = hi ∨ ∃ x y, X[v]? = some x ∧ Y[h - v - 1]? = some y ∧ c y x < 0
set_option maxHeartbeats 2000000 in
theorem sym3_vc (hc : CmpOk g cs c Q) (hk : ∀ a b, c a b < 0 ↔ key a < key b) {N : Nat} (ih : SymN g cs c Q key N) (A X Y C : List Int) (hX2 : 2 ≤ X.length) (hY2 : 2 ≤ Y.length) (hN : X.length + Y.length ≤ N + 1) (hXs : Srt key X) (hYs : Srt key Y) (hqX : ∀ z ∈ X, Q z) (hqY : ∀ z ∈ Y, Q z) (hl : A.length + X.length + Y.length + C.length ≤ 100000) :
    fnIO T Tryd.prog Tryd.f100 [.own 3 ((A ++ X ++ Y ++ C).map I), I A.length, I (A.length + X.length), I (A.length + X.length + Y.length), .fn g [.fp cs]] (.tup []) 0 3 ((A ++ mergeP c X Y ++ C).map I) := by
  have hsz : (A ++ X ++ Y ++ C).length = A.length + X.length + Y.length + C.length := by simp; omega
  obtain ⟨h, hh⟩ : ∃ h, h = (X.length + Y.length) / 2 := ⟨_, rfl⟩
  obtain ⟨lo, hi, hlh⟩ : ∃ lo hi, (X.length > h ∧ lo + Y.length = h ∧ hi = h) ∨ (X.length ≤ h ∧ lo = 0 ∧ hi = X.length) := by
    rcases Nat.lt_or_ge h X.length with q | q
    · exact ⟨h - Y.length, h, .inl ⟨q, by omega, rfl⟩⟩
    · exact ⟨0, X.length, .inr ⟨q, rfl, rfl⟩⟩
  iterate 7 (
    repeat' ((conv => whnf); first
      | (exfalso; omega)
      | refine draw_i (by kernel_rfl) ?_
      | refine arith_half (by omega) ?_
      | refine arith_in (by omega) ?_
      | refine arith_u (by omega) ?_
      | refine need_i (p := (T.row _).eq = true) (by kernel_rfl) ?_
      | refine need_i (by omega) ?_
      | refine br_not ?_
      | refine br_dec (fun hd => ?_) (fun hd => ?_)
      | refine br_lt (fun hlt => ?_) (fun hlt => ?_)
      | refine br_le (fun hle => ?_) (fun hle => ?_)
      | refine br_eq (fun heq => ?_) (fun heq => ?_)
      | refine idx_map (by omega) (fun x hx => ?_)
      | refine live_i rfl (fun h => by cases h) ?_
      | refine branch_s (fun hbb => ?_) (fun hbb => ?_)
      | refine ret_i ?_)
    conv => whnf
    refine seq_go ?_)
  repeat' ((conv => whnf); first
    | (exfalso; omega)
    | refine draw_i (by kernel_rfl) ?_
    | refine arith_half (by omega) ?_
    | refine arith_in (by omega) ?_
    | refine arith_u (by omega) ?_
    | refine need_i (p := (T.row _).eq = true) (by kernel_rfl) ?_
    | refine need_i (by omega) ?_
    | refine br_not ?_
    | refine br_dec (fun hd => ?_) (fun hd => ?_)
    | refine br_lt (fun hlt => ?_) (fun hlt => ?_)
    | refine br_le (fun hle => ?_) (fun hle => ?_)
    | refine br_eq (fun heq => ?_) (fun heq => ?_)
    | refine idx_map (by omega) (fun x hx => ?_)
    | refine live_i rfl (fun h => by cases h) ?_
    | refine branch_s (fun hbb => ?_) (fun hbb => ?_)
    | refine ret_i ?_)
  conv => whnf
  refine seq_cut Unit (fun _ => mkSt [(0, .arr 0 0), (1, I A.length), (2, I (A.length + X.length)), (3, I (A.length + X.length + Y.length)), (4, .fn g [.fp cs]), (18, I (A.length + h)), (19, I (2 * A.length + h + X.length)), (20, I (A.length + lo)), (21, I (A.length + hi))] [] [(0, ⟨0, .own, 3, (A ++ X ++ Y ++ C).map I⟩)]) (fun _ => True) ?_ (fun _ _ => ?_)
  · repeat' ((conv => whnf); first
      | refine seq_go ?_
      | refine draw_i (by kernel_rfl) ?_
      | refine arith_half (by omega) ?_
      | refine arith_in (by omega) ?_
      | refine arith_u (by omega) ?_
      | refine need_i (p := (T.row _).eq = true) (by kernel_rfl) ?_
      | refine need_i (by omega) ?_
      | refine br_not ?_
      | refine br_dec (fun hd => ?_) (fun hd => ?_)
      | refine br_lt (fun hlt => ?_) (fun hlt => ?_)
      | refine br_le (fun hle => ?_) (fun hle => ?_)
      | refine br_eq (fun heq => ?_) (fun heq => ?_)
      | refine idx_map (by omega) (fun x hx => ?_)
      | refine live_i rfl (fun h => by cases h) ?_
      | refine branch_s (fun hbb => ?_) (fun hbb => ?_)
      | refine ret_i ?_)
    all_goals
      refine ⟨(), ?_, trivial⟩
      refine le_mk ?_ ?_ ?_ ?_
      all_goals repeat' (first | exact trivial | refine And.intro ?_ ?_ | with_reducible rfl | exact Nat.le_refl _ | omega | exact rfl)
  conv => whnf
  refine seq_go ?_
  repeat' ((conv => whnf); first
    | (exfalso; omega)
    | refine draw_i (by kernel_rfl) ?_
    | refine arith_half (by omega) ?_
    | refine arith_in (by omega) ?_
    | refine arith_u (by omega) ?_
    | refine need_i (p := (T.row _).eq = true) (by kernel_rfl) ?_
    | refine need_i (by omega) ?_
    | refine br_not ?_
    | refine br_dec (fun hd => ?_) (fun hd => ?_)
    | refine br_lt (fun hlt => ?_) (fun hlt => ?_)
    | refine br_le (fun hle => ?_) (fun hle => ?_)
    | refine br_eq (fun heq => ?_) (fun heq => ?_)
    | refine idx_map (by omega) (fun x hx => ?_)
    | refine live_i rfl (fun h => by cases h) ?_
    | refine branch_s (fun hbb => ?_) (fun hbb => ?_)
    | refine ret_i ?_)
  conv => whnf
  refine seq_cut Nat (fun v => mkSt [(0, .arr 0 0), (1, I A.length), (2, I (A.length + X.length)), (3, I (A.length + X.length + Y.length)), (4, .fn g [.fp cs]), (18, I (A.length + h)), (19, I (2 * A.length + h + X.length)), (20, I (A.length + v))] [] [(0, ⟨0, .own, 3, (A ++ X ++ Y ++ C).map I⟩)])
    (fun v => lo ≤ v ∧ v ≤ hi ∧ CutL c X Y h lo v ∧ CutR c X Y h hi v) ?_ (fun v hv => ?_)
  · repeat' ((conv => whnf); first
      | refine seq_go ?_
      | refine draw_i (by kernel_rfl) ?_
      | refine arith_half (by omega) ?_
      | refine arith_in (by omega) ?_
      | refine arith_u (by omega) ?_
      | refine need_i (p := (T.row _).eq = true) (by kernel_rfl) ?_
      | refine need_i (by omega) ?_
      | refine br_not ?_
      | refine br_dec (fun hd => ?_) (fun hd => ?_)
      | refine br_lt (fun hlt => ?_) (fun hlt => ?_)
      | refine br_le (fun hle => ?_) (fun hle => ?_)
      | refine br_eq (fun heq => ?_) (fun heq => ?_)
      | refine idx_map (by omega) (fun x hx => ?_)
      | refine live_i rfl (fun h => by cases h) ?_
      | refine branch_s (fun hbb => ?_) (fun hbb => ?_)
      | refine ret_i ?_)
    refine loop_2 (A := Nat) (B := Nat) (fun u v => mkSt [(0, .arr 0 0), (1, I A.length), (2, I (A.length + X.length)), (3, I (A.length + X.length + Y.length)), (4, .fn g [.fp cs]), (18, I (A.length + h)), (19, I (2 * A.length + h + X.length)), (20, I (A.length + u)), (21, I (A.length + v)), (22, I (2 * A.length + h + X.length - 1))] [] [(0, ⟨0, .own, 3, (A ++ X ++ Y ++ C).map I⟩)])
      (fun u v => lo ≤ u ∧ u ≤ v ∧ v ≤ hi ∧ CutL c X Y h lo u ∧ CutR c X Y h hi v) (fun u v => v - u) lo hi ?_
      ⟨by omega, by omega, by omega, .inl rfl, .inl rfl⟩ (fun u v hp => ?_)
    · refine le_mk ?_ ?_ ?_ ?_
      all_goals repeat' (first | exact trivial | refine And.intro ?_ ?_ | with_reducible rfl | exact Nat.le_refl _ | omega | exact rfl)
    · obtain ⟨hp1, hp2, hp3, hp4, hp5⟩ := hp
      rcases Nat.lt_or_ge u v with huv | huv
      · obtain ⟨w, hw⟩ : ∃ w, w = (u + v) / 2 := ⟨_, rfl⟩
        have hwl : w < X.length := by omega
        obtain ⟨x, hx⟩ : ∃ x, X[w]? = some x := ⟨_, List.getElem?_eq_getElem hwl⟩
        have hqx : Q x := hqX x (List.mem_of_getElem? hx)
        have hXw : X = X.take w ++ x :: X.drop (w + 1) := by
          have e := (List.getElem?_eq_some_iff.1 hx).2
          rw [← e, ← List.drop_eq_getElem_cons hwl, List.take_append_drop]
        have hLx : A ++ X ++ Y ++ C = (A ++ X.take w) ++ x :: (X.drop (w + 1) ++ Y ++ C) := by
          conv => lhs; rw [hXw]
          simp
        have hi1 : (A ++ X.take w).length = A.length + w := by simp; omega
        have hzl : h - w - 1 < Y.length := by omega
        obtain ⟨y, hy⟩ : ∃ x, Y[h - w - 1]? = some x := ⟨_, List.getElem?_eq_getElem hzl⟩
        have hqy : Q y := hqY y (List.mem_of_getElem? hy)
        have hYw : Y = Y.take (h - w - 1) ++ y :: Y.drop (h - w - 1 + 1) := by
          have e := (List.getElem?_eq_some_iff.1 hy).2
          rw [← e, ← List.drop_eq_getElem_cons hzl, List.take_append_drop]
        have hLy : A ++ X ++ Y ++ C = (A ++ X ++ Y.take (h - w - 1)) ++ y :: (Y.drop (h - w - 1 + 1) ++ C) := by
          conv => lhs; rw [hYw]
          simp
        have hi2 : (A ++ X ++ Y.take (h - w - 1)).length = A.length + X.length + (h - w - 1) := by simp; omega
        repeat' ((conv => whnf); first
          | (exfalso; omega)
          | (refine need_mid (l := A ++ X ++ Y ++ C) rfl (fun h => by cases h) rfl ?_ ?_; focus (constructor <;> omega))
          | refine idx_mid (l := A ++ X ++ Y ++ C) (A := A ++ X.take w) (x := x) (B := X.drop (w + 1) ++ Y ++ C) hLx (by rw [hi1]; omega) ?_
          | refine idx_mid (l := A ++ X ++ Y ++ C) (A := A ++ X ++ Y.take (h - w - 1)) (x := y) (B := Y.drop (h - w - 1 + 1) ++ C) hLy (by rw [hi2]; omega) ?_
          | (refine call_i (hc y x hqy hqx) false ?_ rfl ?_; focus ((repeat' (first | exact trivial | refine And.intro ?_ ?_ | with_reducible rfl | exact (fun h => by cases h) | exact rfl)); done))
          | refine seq_go ?_
          | refine draw_i (by kernel_rfl) ?_
          | refine arith_half (by omega) ?_
          | refine arith_in (by omega) ?_
          | refine arith_u (by omega) ?_
          | refine need_i (p := (T.row _).eq = true) (by kernel_rfl) ?_
          | refine need_i (by omega) ?_
          | refine br_not ?_
          | refine br_dec (fun hd => ?_) (fun hd => ?_)
          | refine br_lt (fun hlt => ?_) (fun hlt => ?_)
          | refine br_le (fun hle => ?_) (fun hle => ?_)
          | refine br_eq (fun heq => ?_) (fun heq => ?_)
          | refine idx_map (by omega) (fun x hx => ?_)
          | refine live_i rfl (fun h => by cases h) ?_
          | refine branch_s (fun hbb => ?_) (fun hbb => ?_)
          | refine ret_i ?_)
        · refine ⟨(u, w), ?_, ⟨hp1, by show u ≤ w; omega, by show w ≤ hi; omega, hp4, .inr ⟨x, y, hx, hy, by assumption⟩⟩, by show w - u < v - u; omega⟩
          refine le_mk ?_ ?_ ?_ ?_
          all_goals repeat' (first | exact trivial | refine And.intro ?_ ?_ | with_reducible rfl | exact Nat.le_refl _ | omega | exact rfl)
        · refine ⟨(w + 1, v), ?_, ⟨by show lo ≤ w + 1; omega, by show w + 1 ≤ v; omega, hp3, .inr ⟨x, y, hx, by rw [← hy]; show Y[h - (w + 1)]? = _; congr 1, by omega⟩, hp5⟩, by show v - (w + 1) < v - u; omega⟩
          refine le_mk ?_ ?_ ?_ ?_
          all_goals repeat' (first | exact trivial | refine And.intro ?_ ?_ | with_reducible rfl | exact Nat.le_refl _ | omega | exact rfl)
      · have huv' : v = u := by omega
        subst huv'
        repeat' ((conv => whnf); first
          | (exfalso; omega)
          | refine seq_go ?_
          | refine draw_i (by kernel_rfl) ?_
          | refine arith_half (by omega) ?_
          | refine arith_in (by omega) ?_
          | refine arith_u (by omega) ?_
          | refine need_i (p := (T.row _).eq = true) (by kernel_rfl) ?_
          | refine need_i (by omega) ?_
          | refine br_not ?_
          | refine br_dec (fun hd => ?_) (fun hd => ?_)
          | refine br_lt (fun hlt => ?_) (fun hlt => ?_)
          | refine br_le (fun hle => ?_) (fun hle => ?_)
          | refine br_eq (fun heq => ?_) (fun heq => ?_)
          | refine idx_map (by omega) (fun x hx => ?_)
          | refine live_i rfl (fun h => by cases h) ?_
          | refine branch_s (fun hbb => ?_) (fun hbb => ?_)
          | refine ret_i ?_)
        refine ⟨v, ?_, ⟨hp1, hp3, hp4, hp5⟩⟩
        refine le_mk ?_ ?_ ?_ ?_
        all_goals repeat' (first | exact trivial | refine And.intro ?_ ?_ | with_reducible rfl | exact Nat.le_refl _ | omega | exact rfl)
  · obtain ⟨hp1, hp3, hp4, hp5⟩ := hv
    have hm := cut_sound hk hXs hYs (s := v) (e := h - v) (by omega) (by omega)
      (by rcases hp4 with q | q
          · rcases hlh with r | r
            · exact .inr (.inl (by omega))
            · exact .inl (by omega)
          · exact .inr (.inr q))
      (by rcases hp5 with q | q
          · rcases hlh with r | r
            · exact .inr (.inl (by omega))
            · exact .inl (by omega)
          · exact .inr (.inr q))
    have hX' := (List.take_append_drop v X).symm
    have hY' := (List.take_append_drop (h - v) Y).symm
    have e1 : (X.take v).length = v := by rw [List.length_take]; omega
    have e2 : (X.drop v).length = X.length - v := by rw [List.length_drop]
    have e3 : (Y.take (h - v)).length = h - v := by rw [List.length_take]; omega
    have e4 : (Y.drop (h - v)).length = Y.length - (h - v) := by rw [List.length_drop]
    obtain ⟨X1, hX1⟩ : ∃ z, X.take v = z := ⟨_, rfl⟩
    obtain ⟨X2, hX2'⟩ : ∃ z, X.drop v = z := ⟨_, rfl⟩
    obtain ⟨Y1, hY1⟩ : ∃ z, Y.take (h - v) = z := ⟨_, rfl⟩
    obtain ⟨Y2, hY2'⟩ : ∃ z, Y.drop (h - v) = z := ⟨_, rfl⟩
    rw [hX1] at hX' e1 hm
    rw [hX2'] at hX' e2 hm
    rw [hY1] at hY' e3 hm
    rw [hY2'] at hY' e4 hm
    have sX1 : Srt key X1 := by rw [hX'] at hXs; exact hXs.left
    have sX2 : Srt key X2 := by rw [hX'] at hXs; exact hXs.right
    have sY1 : Srt key Y1 := by rw [hY'] at hYs; exact hYs.left
    have sY2 : Srt key Y2 := by rw [hY'] at hYs; exact hYs.right
    have qX1 : ∀ z ∈ X1, Q z := fun z hz => hqX z (by rw [hX']; simp [hz])
    have qX2 : ∀ z ∈ X2, Q z := fun z hz => hqX z (by rw [hX']; simp [hz])
    have qY1 : ∀ z ∈ Y1, Q z := fun z hz => hqY z (by rw [hY']; simp [hz])
    have qY2 : ∀ z ∈ Y2, Q z := fun z hz => hqY z (by rw [hY']; simp [hz])
    have hM : (mergeP c X1 Y1).length = X1.length + Y1.length := mergeP_len _ _ _ (Nat.le_refl _)
    have hLA : A ++ X ++ Y ++ C = A ++ X1 ++ X2 ++ Y1 ++ (Y2 ++ C) := by rw [hX', hY']; simp
    have hA1 : (A ++ X1).length = A.length + v := by rw [List.length_append]; omega
    have hA2 : (A ++ X1 ++ Y1).length = A.length + h := by rw [List.length_append, List.length_append]; omega
    have hA3 : (A ++ mergeP c X1 Y1).length = A.length + h := by rw [List.length_append]; omega
    have hA4 : (Y2 ++ C).length = Y2.length + C.length := List.length_append
    have hA5 : (X2 ++ Y2 ++ C).length = X2.length + Y2.length + C.length := by rw [List.length_append, List.length_append]
    have hM1 : ¬ (0 < v ∧ v < h) → mergeP c X1 Y1 = X1 ++ Y1 := fun q => by
      rcases Nat.lt_or_ge 0 v with q' | q'
      · have : Y1 = [] := List.length_eq_zero_iff.1 (by omega)
        rw [this, mergeP_nil']; simp
      · have : X1 = [] := List.length_eq_zero_iff.1 (by omega)
        rw [this, mergeP_nil]; simp
    have hM2 : ¬ (v < X.length ∧ h - v < Y.length) → mergeP c X2 Y2 = X2 ++ Y2 := fun q => by
      rcases Nat.lt_or_ge v X.length with q' | q'
      · have : Y2 = [] := List.length_eq_zero_iff.1 (by omega)
        rw [this, mergeP_nil']; simp
      · have : X2 = [] := List.length_eq_zero_iff.1 (by omega)
        rw [this, mergeP_nil]; simp
    clear hXs hYs hqX hqY hX' hY' hX1 hX2' hY1 hY2' hp4 hp5
    conv => whnf
    refine seq_go ?_
    repeat' ((conv => whnf); first
      | (exfalso; omega)
      | refine draw_i (by kernel_rfl) ?_
      | refine arith_half (by omega) ?_
      | refine arith_in (by omega) ?_
      | refine arith_u (by omega) ?_
      | refine need_i (p := (T.row _).eq = true) (by kernel_rfl) ?_
      | refine need_i (by omega) ?_
      | refine br_not ?_
      | refine br_dec (fun hd => ?_) (fun hd => ?_)
      | refine br_lt (fun hlt => ?_) (fun hlt => ?_)
      | refine br_le (fun hle => ?_) (fun hle => ?_)
      | refine br_eq (fun heq => ?_) (fun heq => ?_)
      | refine idx_map (by omega) (fun x hx => ?_)
      | refine live_i rfl (fun h => by cases h) ?_
      | refine branch_s (fun hbb => ?_) (fun hbb => ?_)
      | refine ret_i ?_)
    conv => whnf
    refine seq_cut Unit (fun _ => mkSt [(0, .arr 0 0), (1, I A.length), (3, I (A.length + X.length + Y.length)), (4, .fn g [.fp cs]), (18, I (A.length + h)), (20, I (A.length + v)), (24, I (A.length + X.length + (h - v : Nat)))] [] [(0, ⟨0, .own, 3, (A ++ X1 ++ Y1 ++ X2 ++ Y2 ++ C).map I⟩)]) (fun _ => True) ?_ (fun _ _ => ?_)
    · repeat' ((conv => whnf); first
        | (exfalso; omega)
        | (refine call_io_i (rot_spec (g := g) (cs := cs) (l := A ++ X ++ Y ++ C) (l' := A ++ X1 ++ Y1 ++ X2 ++ Y2 ++ C) (a := A.length + v) (m := A.length + X.length) (b := 2 * A.length + h + X.length - (A.length + v)) (A ++ X1) X2 Y1 (Y2 ++ C) (by omega) (by omega) hLA (by simp) (by omega) (by omega) (by omega) (by omega)) rfl rfl ?_ rfl rfl ?_; focus ((repeat' (first | exact trivial | refine And.intro ?_ ?_ | with_reducible rfl | exact (fun h => by cases h) | exact rfl)); done))
        | refine seq_go ?_
        | refine draw_i (by kernel_rfl) ?_
        | refine arith_half (by omega) ?_
        | refine arith_in (by omega) ?_
        | refine arith_u (by omega) ?_
        | refine need_i (p := (T.row _).eq = true) (by kernel_rfl) ?_
        | refine need_i (by omega) ?_
        | refine br_not ?_
        | refine br_dec (fun hd => ?_) (fun hd => ?_)
        | refine br_lt (fun hlt => ?_) (fun hlt => ?_)
        | refine br_le (fun hle => ?_) (fun hle => ?_)
        | refine br_eq (fun heq => ?_) (fun heq => ?_)
        | refine idx_map (by omega) (fun x hx => ?_)
        | refine live_i rfl (fun h => by cases h) ?_
        | refine branch_s (fun hbb => ?_) (fun hbb => ?_)
        | refine ret_i ?_)
      all_goals
        refine ⟨(), ?_, trivial⟩
        refine le_mk ?_ ?_ ?_ ?_
        all_goals repeat' (first | exact trivial | refine And.intro ?_ ?_ | with_reducible rfl | exact Nat.le_refl _ | omega | exact rfl)
      all_goals
        have hXY : X2 = [] ∨ Y1 = [] := by
          rcases Nat.lt_or_ge v X.length with q | q
          · exact .inr (List.length_eq_zero_iff.1 (by omega))
          · exact .inl (List.length_eq_zero_iff.1 (by omega))
        show List.map I (A ++ X ++ Y ++ C) = List.map I (A ++ X1 ++ Y1 ++ X2 ++ Y2 ++ C)
        rw [hLA]
        rcases hXY with rfl | rfl <;> simp
    conv => whnf
    refine seq_cut Unit (fun _ => mkSt [(0, .arr 0 0), (3, I (A.length + X.length + Y.length)), (4, .fn g [.fp cs]), (18, I (A.length + h)), (24, I (A.length + X.length + (h - v : Nat)))] [] [(0, ⟨0, .own, 3, (A ++ mergeP c X1 Y1 ++ X2 ++ Y2 ++ C).map I⟩)]) (fun _ => True) ?_ (fun _ _ => ?_)
    · repeat' ((conv => whnf); first
        | (exfalso; omega)
        | (refine call_io_i (ih (l := A ++ X1 ++ Y1 ++ X2 ++ Y2 ++ C) (l' := A ++ mergeP c X1 Y1 ++ X2 ++ Y2 ++ C) (a := A.length) (m := A.length + v) (b := A.length + h) A X1 Y1 (X2 ++ Y2 ++ C) (by omega) (by omega) (by omega) sX1 sY1 qX1 qY1 (by simp) (by simp) (by omega) (by omega) (by omega) (by omega)) rfl rfl ?_ rfl rfl ?_; focus ((repeat' (first | exact trivial | refine And.intro ?_ ?_ | with_reducible rfl | exact (fun h => by cases h) | exact rfl)); done))
        | refine seq_go ?_
        | refine draw_i (by kernel_rfl) ?_
        | refine arith_half (by omega) ?_
        | refine arith_in (by omega) ?_
        | refine arith_u (by omega) ?_
        | refine need_i (p := (T.row _).eq = true) (by kernel_rfl) ?_
        | refine need_i (by omega) ?_
        | refine br_not ?_
        | refine br_dec (fun hd => ?_) (fun hd => ?_)
        | refine br_lt (fun hlt => ?_) (fun hlt => ?_)
        | refine br_le (fun hle => ?_) (fun hle => ?_)
        | refine br_eq (fun heq => ?_) (fun heq => ?_)
        | refine idx_map (by omega) (fun x hx => ?_)
        | refine live_i rfl (fun h => by cases h) ?_
        | refine branch_s (fun hbb => ?_) (fun hbb => ?_)
        | refine ret_i ?_)
      all_goals
        refine ⟨(), ?_, trivial⟩
        refine le_mk ?_ ?_ ?_ ?_
        all_goals repeat' (first | exact trivial | refine And.intro ?_ ?_ | with_reducible rfl | exact Nat.le_refl _ | omega | exact rfl)
      all_goals
        show List.map I (A ++ X1 ++ Y1 ++ X2 ++ Y2 ++ C) = List.map I (A ++ mergeP c X1 Y1 ++ X2 ++ Y2 ++ C)
        rw [hM1 (by omega)]; simp
    · repeat' ((conv => whnf); first
        | (exfalso; omega)
        | (refine call_io_i (ih (l := A ++ mergeP c X1 Y1 ++ X2 ++ Y2 ++ C) (l' := A ++ mergeP c X1 Y1 ++ mergeP c X2 Y2 ++ C) (a := A.length + h) (m := A.length + X.length + (h - v : Nat)) (b := A.length + X.length + Y.length) (A ++ mergeP c X1 Y1) X2 Y2 C (by omega) (by omega) (by omega) sX2 sY2 qX2 qY2 (by simp) (by simp) (by omega) (by omega) (by omega) (by omega)) rfl rfl ?_ rfl rfl ?_; focus ((repeat' (first | exact trivial | refine And.intro ?_ ?_ | with_reducible rfl | exact (fun h => by cases h) | exact rfl)); done))
        | refine retIO_i ?_
        | refine seq_go ?_
        | refine draw_i (by kernel_rfl) ?_
        | refine arith_half (by omega) ?_
        | refine arith_in (by omega) ?_
        | refine arith_u (by omega) ?_
        | refine need_i (p := (T.row _).eq = true) (by kernel_rfl) ?_
        | refine need_i (by omega) ?_
        | refine br_not ?_
        | refine br_dec (fun hd => ?_) (fun hd => ?_)
        | refine br_lt (fun hlt => ?_) (fun hlt => ?_)
        | refine br_le (fun hle => ?_) (fun hle => ?_)
        | refine br_eq (fun heq => ?_) (fun heq => ?_)
        | refine idx_map (by omega) (fun x hx => ?_)
        | refine live_i rfl (fun h => by cases h) ?_
        | refine branch_s (fun hbb => ?_) (fun hbb => ?_)
        | refine ret_i ?_)
      all_goals
        conv => whnf
        refine ⟨[], rfl, ⟨⟨rfl, rfl, rfl, ?_⟩, trivial⟩, rfl⟩
        rw [hm]
        first
          | (show List.map I (A ++ mergeP c X1 Y1 ++ mergeP c X2 Y2 ++ C) = _; simp; done)
          | (show List.map I (A ++ mergeP c X1 Y1 ++ X2 ++ Y2 ++ C) = _; rw [hM2 (by omega)]; simp; done)
theorem sym_spec (hc : CmpOk g cs c Q) (hk : ∀ a b, c a b < 0 ↔ key a < key b) : ∀ N, SymN g cs c Q key N := by
  intro N
  induction N with
  | zero => intro l l' a m b A X Y C h h1; omega
  | succ N ih =>
    intro l l' a m b A X Y C hN hX hY hXs hYs hqX hqY e1 e2 e3 e4 e5 hl
    subst e1 e2 e3 e4 e5
    by_cases h1 : X.length = 1
    · obtain ⟨x, rfl⟩ := List.length_eq_one_iff.1 h1
      exact io_of rfl Tryd.func100 (by kernel_rfl) (by kernel_rfl) (sym1_vc hc hk A Y C x hYs (hqX x (by simp)) hqY hl)
    · by_cases h2 : Y.length = 1
      · obtain ⟨y, rfl⟩ := List.length_eq_one_iff.1 h2
        exact io_of rfl Tryd.func100 (by kernel_rfl) (by kernel_rfl) (sym2_vc hc hk A X C y hXs (hqY y (by simp)) hqX (by omega) (by simp at hl; omega))
      · exact io_of rfl Tryd.func100 (by kernel_rfl) (by kernel_rfl) (sym3_vc hc hk ih A X Y C (by omega) (by omega) (by omega) hXs hYs hqX hqY hl)
end Go.Proofs.Cost58
namespace Go.Proofs.Cost58
open Go Go.Proofs Go.Ab
set_option maxRecDepth 100000
variable {g : FuncId} {cs : List V} {c : Int → Int → Int} {Q : Int → Prop} {key : Int → Int}

theorem ins_at (hc : CmpOk g cs c Q) {l l' : List Int} {a b : Int} (pre xs post : List Int) (hq : ∀ x ∈ xs, Q x) (h : l = pre ++ xs ++ post) (h' : l' = pre ++ isortP c xs ++ post) (ha : a = pre.length) (hb : b = pre.length + xs.length) (hl : pre.length + xs.length + post.length ≤ 100000) :
    SpIO 99 [.own 3 (l.map I), I a, I b, .fn g [.fp cs]] (.tup []) 3 (l'.map I) := by
  subst h h' ha hb
  exact ins_spec hc pre xs post hq hl

theorem stable_vc (hc : CmpOk g cs c Q) (hk : ∀ a b, c a b < 0 ↔ key a < key b) (L : List Int) (hq : ∀ x ∈ L, Q x) (hl : L.length ≤ 10000) :
    fnIO T Tryd.prog Tryd.f69 [.own 3 (L.map I), I L.length, .fn g [.fp cs]] (.tup []) 0 3 ((isortP c L).map I) := by
  repeat' ((conv => whnf); first
    | refine seq_go ?_
    | refine draw_i (by kernel_rfl) ?_
    | refine arith_half (by omega) ?_
    | refine arith_in (by omega) ?_
    | refine arith_u (by omega) ?_
    | refine need_i (p := (T.row _).eq = true) (by kernel_rfl) ?_
    | refine need_i (by omega) ?_
    | refine br_not ?_
    | refine br_dec (fun hd => ?_) (fun hd => ?_)
    | refine br_lt (fun hlt => ?_) (fun hlt => ?_)
    | refine br_le (fun hle => ?_) (fun hle => ?_)
    | refine br_eq (fun heq => ?_) (fun heq => ?_)
    | refine idx_map (by omega) (fun x hx => ?_)
    | refine live_i rfl (fun h => by cases h) ?_
    | refine branch_s (fun hbb => ?_) (fun hbb => ?_)
    | refine ret_i ?_)
  refine loop_2 (A := List Int) (B := List Int) (fun D R => mkSt [(0, .arr 0 0), (1, I L.length), (2, .fn g [.fp cs]), (6, I 20), (7, I D.length), (8, I (D.length + 20))] [] [(0, ⟨0, .own, 3, (D ++ R).map I⟩)])
    (fun D R => D ++ blk c 20 R = blk c 20 L ∧ D.length + R.length = L.length ∧ (∀ z ∈ R, Q z)) (fun D R => R.length) [] L ?_ ⟨rfl, by simp, hq⟩ (fun D R hp => ?_)
  · refine le_mk ?_ ?_ ?_ ?_
    all_goals repeat' (first | exact trivial | refine And.intro ?_ ?_ | with_reducible rfl | exact Nat.le_refl _ | omega | exact rfl)
  · obtain ⟨h1, h2, h3⟩ := hp
    have hql : ∀ z ∈ blk c 20 L, Q z := fun z hz => hq z ((blk_mem _ L (Nat.le_refl _) z).1 hz)
    have hbl : (blk c 20 L).length = L.length := blk_len _ L (Nat.le_refl _)
    rcases Nat.lt_or_ge R.length 20 with hR | hR
    · have hb : blk c 20 R = isortP c R := blk_small (by omega)
      repeat' ((conv => whnf); first
        | (exfalso; omega)
        | (refine call_io_i (ins_at hc (l := D ++ R) (l' := blk c 20 L) (a := D.length) (b := L.length) D R [] h3 (by simp) (by rw [← h1, hb]; simp) rfl (by omega) (by simp; omega)) rfl rfl ?_ rfl rfl ?_; focus ((repeat' (first | exact trivial | refine And.intro ?_ ?_ | with_reducible rfl | exact (fun h => by cases h) | exact rfl)); done))
        | refine seq_go ?_
        | refine draw_i (by kernel_rfl) ?_
        | refine arith_half (by omega) ?_
        | refine arith_in (by omega) ?_
        | refine arith_u (by omega) ?_
        | refine need_i (p := (T.row _).eq = true) (by kernel_rfl) ?_
        | refine need_i (by omega) ?_
        | refine br_not ?_
        | refine br_dec (fun hd => ?_) (fun hd => ?_)
        | refine br_lt (fun hlt => ?_) (fun hlt => ?_)
        | refine br_le (fun hle => ?_) (fun hle => ?_)
        | refine br_eq (fun heq => ?_) (fun heq => ?_)
        | refine idx_map (by omega) (fun x hx => ?_)
        | refine live_i rfl (fun h => by cases h) ?_
        | refine branch_s (fun hbb => ?_) (fun hbb => ?_)
        | refine ret_i ?_)
      refine loop_i (A := Nat) (fun k => mkSt [(0, .arr 0 0), (1, I L.length), (2, .fn g [.fp cs]), (6, I k)] [] [(0, ⟨0, .own, 3, (blk c k L).map I⟩)])
        (fun k => 20 ≤ k ∧ k ≤ 20000) (fun k => 20000 - k) 20 ?_ ⟨by omega, by omega⟩ (fun k hk' => ?_)
      · refine le_mk ?_ ?_ ?_ ?_
        all_goals repeat' (first | exact trivial | refine And.intro ?_ ?_ | with_reducible rfl | exact Nat.le_refl _ | omega | exact rfl)
      · change 20 ≤ k ∧ k ≤ 20000 at hk'
        rcases Nat.lt_or_ge k L.length with hkL | hkL
        · repeat' ((conv => whnf); first
            | (exfalso; omega)
            | refine seq_go ?_
            | refine draw_i (by kernel_rfl) ?_
            | refine arith_half (by omega) ?_
            | refine arith_in (by omega) ?_
            | refine arith_u (by omega) ?_
            | refine need_i (p := (T.row _).eq = true) (by kernel_rfl) ?_
            | refine need_i (by omega) ?_
            | refine br_not ?_
            | refine br_dec (fun hd => ?_) (fun hd => ?_)
            | refine br_lt (fun hlt => ?_) (fun hlt => ?_)
            | refine br_le (fun hle => ?_) (fun hle => ?_)
            | refine br_eq (fun heq => ?_) (fun heq => ?_)
            | refine idx_map (by omega) (fun x hx => ?_)
            | refine live_i rfl (fun h => by cases h) ?_
            | refine branch_s (fun hbb => ?_) (fun hbb => ?_)
            | refine ret_i ?_)
          refine loop_2 (A := List Int) (B := List Int) (fun D R => mkSt [(0, .arr 0 0), (1, I L.length), (2, .fn g [.fp cs]), (6, I k), (7, I D.length), (8, I (D.length + 2 * k))] [] [(0, ⟨0, .own, 3, (D ++ blk c k R).map I⟩)])
            (fun D R => D ++ blk c (2 * k) R = blk c (2 * k) L ∧ D.length + R.length = L.length ∧ (∀ z ∈ R, Q z)) (fun D R => R.length) [] L ?_ ⟨rfl, by simp, hq⟩ ?_
          · refine le_mk ?_ ?_ ?_ ?_
            all_goals repeat' (first | exact trivial | refine And.intro ?_ ?_ | with_reducible rfl | exact Nat.le_refl _ | omega | exact rfl)
            · show 2 * (k : Int) = ((0 : Nat) : Int) + 2 * k
              omega
          · clear hle h1 h2 h3 hR hb D R
            intro D R hp
            obtain ⟨h1, h2, h3⟩ := hp
            have hkk : 2 * k = k + k := by omega
            rcases Nat.lt_or_ge R.length (2 * k) with hR | hR
            · have hb : blk c (2 * k) R = isortP c R := blk_small (by omega)
              rcases Nat.lt_or_ge k R.length with hRk | hRk
              · have e1 : blk c k R = isortP c (R.take k) ++ isortP c (R.drop k) := by
                  rw [blk_step (by omega) (by omega), blk_small (l := R.drop k) (by rw [List.length_drop]; omega)]
                have e2 : (isortP c (R.take k)).length = k := by rw [isortP_len, List.length_take]; omega
                have e3 : (isortP c (R.drop k)).length = R.length - k := by rw [isortP_len, List.length_drop]
                have e4 : mergeP c (isortP c (R.take k)) (isortP c (R.drop k)) = isortP c R := by rw [merge_sorted hk, List.take_append_drop]
                repeat' ((conv => whnf); first
                  | (exfalso; omega)
                  | (refine call_io_i (sym_spec hc hk _ (l := D ++ blk c k R) (l' := blk c (2 * k) L) (a := D.length) (m := D.length + k) (b := L.length) D (isortP c (R.take k)) (isortP c (R.drop k)) [] (Nat.le_refl _) (by omega) (by omega) (isortP_pw hk _).srt (isortP_pw hk _).srt (fun z hz => h3 z (List.mem_of_mem_take (isortP_mem.1 hz))) (fun z hz => h3 z (List.mem_of_mem_drop (isortP_mem.1 hz))) (by rw [e1]; simp) (by rw [← h1, hb, e4]; simp) rfl (by omega) (by omega) (by simp; omega)) rfl rfl ?_ rfl rfl ?_; focus ((repeat' (first | exact trivial | refine And.intro ?_ ?_ | with_reducible rfl | exact (fun h => by cases h) | exact rfl)); done))
                  | refine seq_go ?_
                  | refine draw_i (by kernel_rfl) ?_
                  | refine arith_half (by omega) ?_
                  | refine arith_in (by omega) ?_
                  | refine arith_u (by omega) ?_
                  | refine need_i (p := (T.row _).eq = true) (by kernel_rfl) ?_
                  | refine need_i (by omega) ?_
                  | refine br_not ?_
                  | refine br_dec (fun hd => ?_) (fun hd => ?_)
                  | refine br_lt (fun hlt => ?_) (fun hlt => ?_)
                  | refine br_le (fun hle => ?_) (fun hle => ?_)
                  | refine br_eq (fun heq => ?_) (fun heq => ?_)
                  | refine idx_map (by omega) (fun x hx => ?_)
                  | refine live_i rfl (fun h => by cases h) ?_
                  | refine branch_s (fun hbb => ?_) (fun hbb => ?_)
                  | refine ret_i ?_)
                refine ⟨2 * k, ?_, ⟨by omega, by omega⟩, by omega⟩
                refine le_mk ?_ ?_ ?_ ?_
                all_goals repeat' (first | exact trivial | refine And.intro ?_ ?_ | with_reducible rfl | exact Nat.le_refl _ | omega | exact rfl)
              · have e1 : D ++ blk c k R = blk c (2 * k) L := by rw [← h1, hb, blk_small hRk]
                rw [e1]
                repeat' ((conv => whnf); first
                  | (exfalso; omega)
                  | refine seq_go ?_
                  | refine draw_i (by kernel_rfl) ?_
                  | refine arith_half (by omega) ?_
                  | refine arith_in (by omega) ?_
                  | refine arith_u (by omega) ?_
                  | refine need_i (p := (T.row _).eq = true) (by kernel_rfl) ?_
                  | refine need_i (by omega) ?_
                  | refine br_not ?_
                  | refine br_dec (fun hd => ?_) (fun hd => ?_)
                  | refine br_lt (fun hlt => ?_) (fun hlt => ?_)
                  | refine br_le (fun hle => ?_) (fun hle => ?_)
                  | refine br_eq (fun heq => ?_) (fun heq => ?_)
                  | refine idx_map (by omega) (fun x hx => ?_)
                  | refine live_i rfl (fun h => by cases h) ?_
                  | refine branch_s (fun hbb => ?_) (fun hbb => ?_)
                  | refine ret_i ?_)
                refine ⟨2 * k, ?_, ⟨by omega, by omega⟩, by omega⟩
                refine le_mk ?_ ?_ ?_ ?_
                all_goals repeat' (first | exact trivial | refine And.intro ?_ ?_ | with_reducible rfl | exact Nat.le_refl _ | omega | exact rfl)
            · have e0 : (R.drop k).length = R.length - k := List.length_drop
              have e1 : blk c k R = isortP c (R.take k) ++ (isortP c ((R.drop k).take k) ++ blk c k (R.drop (2 * k))) := by
                rw [blk_step (by omega) (by omega), blk_step (l := R.drop k) (by omega) (by omega), List.drop_drop, hkk]
              have e2 : (isortP c (R.take k)).length = k := by rw [isortP_len, List.length_take]; omega
              have e3 : (isortP c ((R.drop k).take k)).length = k := by rw [isortP_len, List.length_take]; omega
              have e4 : mergeP c (isortP c (R.take k)) (isortP c ((R.drop k).take k)) = isortP c (R.take (2 * k)) := by rw [merge_sorted hk, hkk, List.take_add]
              have e5 : (blk c k (R.drop (2 * k))).length = R.length - 2 * k := by rw [blk_len _ _ (Nat.le_refl _), List.length_drop]
              have e6 : (isortP c (R.take (2 * k))).length = 2 * k := by rw [isortP_len, List.length_take]; omega
              have e7 : (R.drop (2 * k)).length = R.length - 2 * k := List.length_drop
              repeat' ((conv => whnf); first
                | (exfalso; omega)
                | (refine call_io_i (sym_spec hc hk _ (l := D ++ blk c k R) (l' := D ++ isortP c (R.take (2 * k)) ++ blk c k (R.drop (2 * k))) (a := D.length) (m := D.length + k) (b := D.length + 2 * k) D (isortP c (R.take k)) (isortP c ((R.drop k).take k)) (blk c k (R.drop (2 * k))) (Nat.le_refl _) (by omega) (by omega) (isortP_pw hk _).srt (isortP_pw hk _).srt (fun z hz => h3 z (List.mem_of_mem_take (isortP_mem.1 hz))) (fun z hz => h3 z (List.mem_of_mem_drop (List.mem_of_mem_take (isortP_mem.1 hz)))) (by rw [e1]; simp) (by rw [e4]) rfl (by omega) (by omega) (by omega)) rfl rfl ?_ rfl rfl ?_; focus ((repeat' (first | exact trivial | refine And.intro ?_ ?_ | with_reducible rfl | exact (fun h => by cases h) | exact rfl)); done))
                | refine seq_go ?_
                | refine draw_i (by kernel_rfl) ?_
                | refine arith_half (by omega) ?_
                | refine arith_in (by omega) ?_
                | refine arith_u (by omega) ?_
                | refine need_i (p := (T.row _).eq = true) (by kernel_rfl) ?_
                | refine need_i (by omega) ?_
                | refine br_not ?_
                | refine br_dec (fun hd => ?_) (fun hd => ?_)
                | refine br_lt (fun hlt => ?_) (fun hlt => ?_)
                | refine br_le (fun hle => ?_) (fun hle => ?_)
                | refine br_eq (fun heq => ?_) (fun heq => ?_)
                | refine idx_map (by omega) (fun x hx => ?_)
                | refine live_i rfl (fun h => by cases h) ?_
                | refine branch_s (fun hbb => ?_) (fun hbb => ?_)
                | refine ret_i ?_)
              refine ⟨(D ++ isortP c (R.take (2 * k)), R.drop (2 * k)), ?_, ⟨?_, ?_, fun z hz => h3 z (List.mem_of_mem_drop hz)⟩, by show (R.drop (2 * k)).length < R.length; omega⟩
              · refine le_mk ?_ ?_ ?_ ?_
                all_goals repeat' (first | exact trivial | refine And.intro ?_ ?_ | with_reducible rfl | exact Nat.le_refl _ | omega | exact rfl)
                · show (D.length : Int) + 2 * k = (D ++ isortP c (R.take (2 * k))).length
                  rw [List.length_append]; omega
                · show (D.length : Int) + 2 * k + 2 * k = (D ++ isortP c (R.take (2 * k))).length + 2 * k
                  rw [List.length_append]; omega
              · show D ++ isortP c (R.take (2 * k)) ++ blk c (2 * k) (R.drop (2 * k)) = _
                rw [← h1, blk_step (l := R) (by omega) hR, List.append_assoc]
              · show (D ++ isortP c (R.take (2 * k))).length + (R.drop (2 * k)).length = _
                rw [List.length_append]; omega
        · rw [blk_small hkL]
          repeat' ((conv => whnf); first
            | (exfalso; omega)
            | refine seq_go ?_
            | refine draw_i (by kernel_rfl) ?_
            | refine arith_half (by omega) ?_
            | refine arith_in (by omega) ?_
            | refine arith_u (by omega) ?_
            | refine need_i (p := (T.row _).eq = true) (by kernel_rfl) ?_
            | refine need_i (by omega) ?_
            | refine br_not ?_
            | refine br_dec (fun hd => ?_) (fun hd => ?_)
            | refine br_lt (fun hlt => ?_) (fun hlt => ?_)
            | refine br_le (fun hle => ?_) (fun hle => ?_)
            | refine br_eq (fun heq => ?_) (fun heq => ?_)
            | refine idx_map (by omega) (fun x hx => ?_)
            | refine live_i rfl (fun h => by cases h) ?_
            | refine branch_s (fun hbb => ?_) (fun hbb => ?_)
            | refine ret_i ?_)
          refine retIO_i ?_
          conv => whnf
          exact ⟨[], rfl, ⟨⟨rfl, rfl, rfl, rfl⟩, trivial⟩, rfl⟩
    · have ht : (R.take 20).length = 20 := by rw [List.length_take]; omega
      have hd : (R.drop 20).length = R.length - 20 := by rw [List.length_drop]
      have hi : (isortP c (R.take 20)).length = 20 := by rw [isortP_len, ht]
      repeat' ((conv => whnf); first
        | (exfalso; omega)
        | (refine call_io_i (ins_at hc (l := D ++ R) (l' := D ++ isortP c (R.take 20) ++ R.drop 20) (a := D.length) (b := D.length + 20) D (R.take 20) (R.drop 20) (fun z hz => h3 z (List.mem_of_mem_take hz)) (by simp) rfl rfl (by omega) (by omega)) rfl rfl ?_ rfl rfl ?_; focus ((repeat' (first | exact trivial | refine And.intro ?_ ?_ | with_reducible rfl | exact (fun h => by cases h) | exact rfl)); done))
        | refine seq_go ?_
        | refine draw_i (by kernel_rfl) ?_
        | refine arith_half (by omega) ?_
        | refine arith_in (by omega) ?_
        | refine arith_u (by omega) ?_
        | refine need_i (p := (T.row _).eq = true) (by kernel_rfl) ?_
        | refine need_i (by omega) ?_
        | refine br_not ?_
        | refine br_dec (fun hd => ?_) (fun hd => ?_)
        | refine br_lt (fun hlt => ?_) (fun hlt => ?_)
        | refine br_le (fun hle => ?_) (fun hle => ?_)
        | refine br_eq (fun heq => ?_) (fun heq => ?_)
        | refine idx_map (by omega) (fun x hx => ?_)
        | refine live_i rfl (fun h => by cases h) ?_
        | refine branch_s (fun hbb => ?_) (fun hbb => ?_)
        | refine ret_i ?_)
      refine ⟨(D ++ isortP c (R.take 20), R.drop 20), ?_, ⟨?_, ?_, fun z hz => h3 z (List.mem_of_mem_drop hz)⟩, by show (R.drop 20).length < R.length; omega⟩
      · refine le_mk ?_ ?_ ?_ ?_
        all_goals repeat' (first | exact trivial | refine And.intro ?_ ?_ | with_reducible rfl | exact Nat.le_refl _ | omega | exact rfl)
        · show (D.length : Int) + 20 = (D ++ isortP c (R.take 20)).length
          rw [List.length_append]; omega
        · show (D.length : Int) + 20 + 20 = (D ++ isortP c (R.take 20)).length + 20
          rw [List.length_append]; omega
      · show D ++ isortP c (R.take 20) ++ blk c 20 (R.drop 20) = _
        rw [← h1, blk_step (by omega) hR, List.append_assoc]
      · show (D ++ isortP c (R.take 20)).length + (R.drop 20).length = _
        rw [List.length_append]; omega
theorem stable_spec (hc : CmpOk g cs c Q) (hk : ∀ a b, c a b < 0 ↔ key a < key b) (L : List Int) (hq : ∀ x ∈ L, Q x) (hl : L.length ≤ 10000) :
    SpIO 69 [.own 3 (L.map I), I L.length, .fn g [.fp cs]] (.tup []) 3 ((isortP c L).map I) := io_of rfl Tryd.func69 (by kernel_rfl) (by kernel_rfl) (stable_vc hc hk L hq hl)
theorem sorts_vc (hc : CmpOk g cs c Q) (hk : ∀ a b, c a b < 0 ↔ key a < key b) (L : List Int) (hq : ∀ x ∈ L, Q x) (hl : L.length ≤ 10000) :
    fnIO T Tryd.prog Tryd.f33 [.own 3 (L.map I), .fn g [.fp cs]] (.tup []) 0 3 ((isortP c L).map I) := by
  have hs : ((List.map I L).length : Int) = L.length := by simp
  have hn := stable_spec hc hk L hq hl
  rw [← hs] at hn
  repeat' ((conv => whnf); first
    | (refine call_io_i (hn) rfl rfl ?_ rfl rfl ?_; focus ((repeat' (first | exact trivial | refine And.intro ?_ ?_ | with_reducible rfl | exact (fun h => by cases h) | exact rfl)); done))
    | refine retIO_i ?_
    | refine seq_go ?_
    | refine draw_i (by kernel_rfl) ?_
    | refine arith_half (by omega) ?_
    | refine arith_in (by omega) ?_
    | refine arith_u (by omega) ?_
    | refine need_i (p := (T.row _).eq = true) (by kernel_rfl) ?_
    | refine need_i (by omega) ?_
    | refine br_not ?_
    | refine br_dec (fun hd => ?_) (fun hd => ?_)
    | refine br_lt (fun hlt => ?_) (fun hlt => ?_)
    | refine br_le (fun hle => ?_) (fun hle => ?_)
    | refine br_eq (fun heq => ?_) (fun heq => ?_)
    | refine idx_map (by omega) (fun x hx => ?_)
    | refine live_i rfl (fun h => by cases h) ?_
    | refine branch_s (fun hbb => ?_) (fun hbb => ?_)
    | refine ret_i ?_)
  conv => whnf
  exact ⟨[], rfl, ⟨⟨rfl, rfl, rfl, rfl⟩, trivial⟩, rfl⟩
theorem sorts_spec (hc : CmpOk g cs c Q) (hk : ∀ a b, c a b < 0 ↔ key a < key b) (L : List Int) (hq : ∀ x ∈ L, Q x) (hl : L.length ≤ 10000) :
    SpIO 33 [.own 3 (L.map I), .fn g [.fp cs]] (.tup []) 3 ((isortP c L).map I) := io_of rfl Tryd.func33 (by kernel_rfl) (by kernel_rfl) (sorts_vc hc hk L hq hl)
end Go.Proofs.Cost58
