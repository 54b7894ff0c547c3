/-
  Stable sorting, walked: blocks, and the whole.
  Sharing an amount, in plain Lean: the greatest remainders.
-/
import Derived.Test.YtckcanemolkncaaDoorH20
set_option linter.unusedVariables false
set_option linter.unusedSimpArgs false
namespace Go.Proofs.Cost58
open Go Go.Proofs Go.Ab
set_option maxRecDepth 100000
variable {g : FuncId} {cs : List V} {c : Int → Int → Int} {Q : Int → Prop} {key : Int → Int}

theorem ins_at (hc : CmpOk g cs c Q) {l l' : List Int} {a b : Int} (pre xs post : List Int) (hq : ∀ x ∈ xs, Q x) (h : l = pre ++ xs ++ post) (h' : l' = pre ++ isortP c xs ++ post) (ha : a = pre.length) (hb : b = pre.length + xs.length) (hl : pre.length + xs.length + post.length ≤ 100000) :
    SpIO 99 [.own 3 (l.map I), I a, I b, .fn g [.fp cs]] (.tup []) 3 (l'.map I) := by
  subst h h' ha hb
  exact ins_spec hc pre xs post hq hl

theorem stable_vc (hc : CmpOk g cs c Q) (hk : ∀ a b, c a b < 0 ↔ key a < key b) (L : List Int) (hq : ∀ x ∈ L, Q x) (hl : L.length ≤ 10000) :
    fnIO T Tryd.prog Tryd.f69 [.own 3 (L.map I), I L.length, .fn g [.fp cs]] (.tup []) 0 3 ((isortP c L).map I) := by
  repeat' ((conv => whnf); first
    | refine seq_go ?_
    | refine draw_i (by kernel_rfl) ?_
    | refine arith_half (by omega) ?_
    | refine arith_in (by omega) ?_
    | refine arith_u (by omega) ?_
    | refine need_i (p := (T.row _).eq = true) (by kernel_rfl) ?_
    | refine need_i (by omega) ?_
    | refine br_not ?_
    | refine br_dec (fun hd => ?_) (fun hd => ?_)
    | refine br_lt (fun hlt => ?_) (fun hlt => ?_)
    | refine br_le (fun hle => ?_) (fun hle => ?_)
    | refine br_eq (fun heq => ?_) (fun heq => ?_)
    | refine idx_map (by omega) (fun x hx => ?_)
    | refine live_i rfl (fun h => by cases h) ?_
    | refine branch_s (fun hbb => ?_) (fun hbb => ?_)
    | refine ret_i ?_
    | refine retB_i ?_)
  refine loop_2 (A := List Int) (B := List Int) (fun D R => mkSt [(0, .arr 0 0), (1, I L.length), (2, .fn g [.fp cs]), (6, I 20), (7, I D.length), (8, I (D.length + 20))] [] [(0, ⟨0, .own, 3, (D ++ R).map I⟩)])
    (fun D R => D ++ blk c 20 R = blk c 20 L ∧ D.length + R.length = L.length ∧ (∀ z ∈ R, Q z)) (fun D R => R.length) [] L ?_ ⟨rfl, by simp, hq⟩ (fun D R hp => ?_)
  · refine le_mk ?_ ?_ ?_ ?_
    all_goals repeat' (first | exact trivial | refine And.intro ?_ ?_ | with_reducible rfl | exact Nat.le_refl _ | omega | exact rfl)
  · obtain ⟨h1, h2, h3⟩ := hp
    have hql : ∀ z ∈ blk c 20 L, Q z := fun z hz => hq z ((blk_mem _ L (Nat.le_refl _) z).1 hz)
    have hbl : (blk c 20 L).length = L.length := blk_len _ L (Nat.le_refl _)
    rcases Nat.lt_or_ge R.length 20 with hR | hR
    · have hb : blk c 20 R = isortP c R := blk_small (by omega)
      repeat' ((conv => whnf); first
        | (exfalso; omega)
        | (refine call_io_i (ins_at hc (l := D ++ R) (l' := blk c 20 L) (a := D.length) (b := L.length) D R [] h3 (by simp) (by rw [← h1, hb]; simp) rfl (by omega) (by simp; omega)) rfl rfl ?_ rfl rfl ?_; focus ((repeat' (first | exact trivial | refine And.intro ?_ ?_ | with_reducible rfl | exact (fun h => by cases h) | exact rfl)); done))
        | refine seq_go ?_
        | refine draw_i (by kernel_rfl) ?_
        | refine arith_half (by omega) ?_
        | refine arith_in (by omega) ?_
        | refine arith_u (by omega) ?_
        | refine need_i (p := (T.row _).eq = true) (by kernel_rfl) ?_
        | refine need_i (by omega) ?_
        | refine br_not ?_
        | refine br_dec (fun hd => ?_) (fun hd => ?_)
        | refine br_lt (fun hlt => ?_) (fun hlt => ?_)
        | refine br_le (fun hle => ?_) (fun hle => ?_)
        | refine br_eq (fun heq => ?_) (fun heq => ?_)
        | refine idx_map (by omega) (fun x hx => ?_)
        | refine live_i rfl (fun h => by cases h) ?_
        | refine branch_s (fun hbb => ?_) (fun hbb => ?_)
        | refine ret_i ?_
        | refine retB_i ?_)
      refine loop_i (A := Nat) (fun k => mkSt [(0, .arr 0 0), (1, I L.length), (2, .fn g [.fp cs]), (6, I k)] [] [(0, ⟨0, .own, 3, (blk c k L).map I⟩)])
        (fun k => 20 ≤ k ∧ k ≤ 20000) (fun k => 20000 - k) 20 ?_ ⟨by omega, by omega⟩ (fun k hk' => ?_)
      · refine le_mk ?_ ?_ ?_ ?_
        all_goals repeat' (first | exact trivial | refine And.intro ?_ ?_ | with_reducible rfl | exact Nat.le_refl _ | omega | exact rfl)
      · change 20 ≤ k ∧ k ≤ 20000 at hk'
        rcases Nat.lt_or_ge k L.length with hkL | hkL
        · repeat' ((conv => whnf); first
            | (exfalso; omega)
            | refine seq_go ?_
            | refine draw_i (by kernel_rfl) ?_
            | refine arith_half (by omega) ?_
            | refine arith_in (by omega) ?_
            | refine arith_u (by omega) ?_
            | refine need_i (p := (T.row _).eq = true) (by kernel_rfl) ?_
            | refine need_i (by omega) ?_
            | refine br_not ?_
            | refine br_dec (fun hd => ?_) (fun hd => ?_)
            | refine br_lt (fun hlt => ?_) (fun hlt => ?_)
            | refine br_le (fun hle => ?_) (fun hle => ?_)
            | refine br_eq (fun heq => ?_) (fun heq => ?_)
            | refine idx_map (by omega) (fun x hx => ?_)
            | refine live_i rfl (fun h => by cases h) ?_
            | refine branch_s (fun hbb => ?_) (fun hbb => ?_)
            | refine ret_i ?_
            | refine retB_i ?_)
          refine loop_2 (A := List Int) (B := List Int) (fun D R => mkSt [(0, .arr 0 0), (1, I L.length), (2, .fn g [.fp cs]), (6, I k), (7, I D.length), (8, I (D.length + 2 * k))] [] [(0, ⟨0, .own, 3, (D ++ blk c k R).map I⟩)])
            (fun D R => D ++ blk c (2 * k) R = blk c (2 * k) L ∧ D.length + R.length = L.length ∧ (∀ z ∈ R, Q z)) (fun D R => R.length) [] L ?_ ⟨rfl, by simp, hq⟩ ?_
          · refine le_mk ?_ ?_ ?_ ?_
            all_goals repeat' (first | exact trivial | refine And.intro ?_ ?_ | with_reducible rfl | exact Nat.le_refl _ | omega | exact rfl)
            · show 2 * (k : Int) = ((0 : Nat) : Int) + 2 * k
              omega
          · clear hle h1 h2 h3 hR hb D R
            intro D R hp
            obtain ⟨h1, h2, h3⟩ := hp
            have hkk : 2 * k = k + k := by omega
            rcases Nat.lt_or_ge R.length (2 * k) with hR | hR
            · have hb : blk c (2 * k) R = isortP c R := blk_small (by omega)
              rcases Nat.lt_or_ge k R.length with hRk | hRk
              · have e1 : blk c k R = isortP c (R.take k) ++ isortP c (R.drop k) := by
                  rw [blk_step (by omega) (by omega), blk_small (l := R.drop k) (by rw [List.length_drop]; omega)]
                have e2 : (isortP c (R.take k)).length = k := by rw [isortP_len, List.length_take]; omega
                have e3 : (isortP c (R.drop k)).length = R.length - k := by rw [isortP_len, List.length_drop]
                have e4 : mergeP c (isortP c (R.take k)) (isortP c (R.drop k)) = isortP c R := by rw [merge_sorted hk, List.take_append_drop]
                repeat' ((conv => whnf); first
                  | (exfalso; omega)
                  | (refine call_io_i (sym_spec hc hk _ (l := D ++ blk c k R) (l' := blk c (2 * k) L) (a := D.length) (m := D.length + k) (b := L.length) D (isortP c (R.take k)) (isortP c (R.drop k)) [] (Nat.le_refl _) (by omega) (by omega) (isortP_pw hk _).srt (isortP_pw hk _).srt (fun z hz => h3 z (List.mem_of_mem_take (isortP_mem.1 hz))) (fun z hz => h3 z (List.mem_of_mem_drop (isortP_mem.1 hz))) (by rw [e1]; simp) (by rw [← h1, hb, e4]; simp) rfl (by omega) (by omega) (by simp; omega)) rfl rfl ?_ rfl rfl ?_; focus ((repeat' (first | exact trivial | refine And.intro ?_ ?_ | with_reducible rfl | exact (fun h => by cases h) | exact rfl)); done))
                  | refine seq_go ?_
                  | refine draw_i (by kernel_rfl) ?_
                  | refine arith_half (by omega) ?_
                  | refine arith_in (by omega) ?_
                  | refine arith_u (by omega) ?_
                  | refine need_i (p := (T.row _).eq = true) (by kernel_rfl) ?_
                  | refine need_i (by omega) ?_
                  | refine br_not ?_
                  | refine br_dec (fun hd => ?_) (fun hd => ?_)
                  | refine br_lt (fun hlt => ?_) (fun hlt => ?_)
                  | refine br_le (fun hle => ?_) (fun hle => ?_)
                  | refine br_eq (fun heq => ?_) (fun heq => ?_)
                  | refine idx_map (by omega) (fun x hx => ?_)
                  | refine live_i rfl (fun h => by cases h) ?_
                  | refine branch_s (fun hbb => ?_) (fun hbb => ?_)
                  | refine ret_i ?_
                  | refine retB_i ?_)
                refine ⟨2 * k, ?_, ⟨by omega, by omega⟩, by omega⟩
                refine le_mk ?_ ?_ ?_ ?_
                all_goals repeat' (first | exact trivial | refine And.intro ?_ ?_ | with_reducible rfl | exact Nat.le_refl _ | omega | exact rfl)
              · have e1 : D ++ blk c k R = blk c (2 * k) L := by rw [← h1, hb, blk_small hRk]
                rw [e1]
                repeat' ((conv => whnf); first
                  | (exfalso; omega)
                  | refine seq_go ?_
                  | refine draw_i (by kernel_rfl) ?_
                  | refine arith_half (by omega) ?_
                  | refine arith_in (by omega) ?_
                  | refine arith_u (by omega) ?_
                  | refine need_i (p := (T.row _).eq = true) (by kernel_rfl) ?_
                  | refine need_i (by omega) ?_
                  | refine br_not ?_
                  | refine br_dec (fun hd => ?_) (fun hd => ?_)
                  | refine br_lt (fun hlt => ?_) (fun hlt => ?_)
                  | refine br_le (fun hle => ?_) (fun hle => ?_)
                  | refine br_eq (fun heq => ?_) (fun heq => ?_)
                  | refine idx_map (by omega) (fun x hx => ?_)
                  | refine live_i rfl (fun h => by cases h) ?_
                  | refine branch_s (fun hbb => ?_) (fun hbb => ?_)
                  | refine ret_i ?_
                  | refine retB_i ?_)
                refine ⟨2 * k, ?_, ⟨by omega, by omega⟩, by omega⟩
                refine le_mk ?_ ?_ ?_ ?_
                all_goals repeat' (first | exact trivial | refine And.intro ?_ ?_ | with_reducible rfl | exact Nat.le_refl _ | omega | exact rfl)
            · have e0 : (R.drop k).length = R.length - k := List.length_drop
              have e1 : blk c k R = isortP c (R.take k) ++ (isortP c ((R.drop k).take k) ++ blk c k (R.drop (2 * k))) := by
                rw [blk_step (by omega) (by omega), blk_step (l := R.drop k) (by omega) (by omega), List.drop_drop, hkk]
              have e2 : (isortP c (R.take k)).length = k := by rw [isortP_len, List.length_take]; omega
              have e3 : (isortP c ((R.drop k).take k)).length = k := by rw [isortP_len, List.length_take]; omega
              have e4 : mergeP c (isortP c (R.take k)) (isortP c ((R.drop k).take k)) = isortP c (R.take (2 * k)) := by rw [merge_sorted hk, hkk, List.take_add]
              have e5 : (blk c k (R.drop (2 * k))).length = R.length - 2 * k := by rw [blk_len _ _ (Nat.le_refl _), List.length_drop]
              have e6 : (isortP c (R.take (2 * k))).length = 2 * k := by rw [isortP_len, List.length_take]; omega
              have e7 : (R.drop (2 * k)).length = R.length - 2 * k := List.length_drop
              repeat' ((conv => whnf); first
                | (exfalso; omega)
                | (refine call_io_i (sym_spec hc hk _ (l := D ++ blk c k R) (l' := D ++ isortP c (R.take (2 * k)) ++ blk c k (R.drop (2 * k))) (a := D.length) (m := D.length + k) (b := D.length + 2 * k) D (isortP c (R.take k)) (isortP c ((R.drop k).take k)) (blk c k (R.drop (2 * k))) (Nat.le_refl _) (by omega) (by omega) (isortP_pw hk _).srt (isortP_pw hk _).srt (fun z hz => h3 z (List.mem_of_mem_take (isortP_mem.1 hz))) (fun z hz => h3 z (List.mem_of_mem_drop (List.mem_of_mem_take (isortP_mem.1 hz)))) (by rw [e1]; simp) (by rw [e4]) rfl (by omega) (by omega) (by omega)) rfl rfl ?_ rfl rfl ?_; focus ((repeat' (first | exact trivial | refine And.intro ?_ ?_ | with_reducible rfl | exact (fun h => by cases h) | exact rfl)); done))
                | refine seq_go ?_
                | refine draw_i (by kernel_rfl) ?_
                | refine arith_half (by omega) ?_
                | refine arith_in (by omega) ?_
                | refine arith_u (by omega) ?_
                | refine need_i (p := (T.row _).eq = true) (by kernel_rfl) ?_
                | refine need_i (by omega) ?_
                | refine br_not ?_
                | refine br_dec (fun hd => ?_) (fun hd => ?_)
                | refine br_lt (fun hlt => ?_) (fun hlt => ?_)
                | refine br_le (fun hle => ?_) (fun hle => ?_)
                | refine br_eq (fun heq => ?_) (fun heq => ?_)
                | refine idx_map (by omega) (fun x hx => ?_)
                | refine live_i rfl (fun h => by cases h) ?_
                | refine branch_s (fun hbb => ?_) (fun hbb => ?_)
                | refine ret_i ?_
                | refine retB_i ?_)
              refine ⟨(D ++ isortP c (R.take (2 * k)), R.drop (2 * k)), ?_, ⟨?_, ?_, fun z hz => h3 z (List.mem_of_mem_drop hz)⟩, by show (R.drop (2 * k)).length < R.length; omega⟩
              · refine le_mk ?_ ?_ ?_ ?_
                all_goals repeat' (first | exact trivial | refine And.intro ?_ ?_ | with_reducible rfl | exact Nat.le_refl _ | omega | exact rfl)
                · show (D.length : Int) + 2 * k = (D ++ isortP c (R.take (2 * k))).length
                  rw [List.length_append]; omega
                · show (D.length : Int) + 2 * k + 2 * k = (D ++ isortP c (R.take (2 * k))).length + 2 * k
                  rw [List.length_append]; omega
              · show D ++ isortP c (R.take (2 * k)) ++ blk c (2 * k) (R.drop (2 * k)) = _
                rw [← h1, blk_step (l := R) (by omega) hR, List.append_assoc]
              · show (D ++ isortP c (R.take (2 * k))).length + (R.drop (2 * k)).length = _
                rw [List.length_append]; omega
        · rw [blk_small hkL]
          repeat' ((conv => whnf); first
            | (exfalso; omega)
            | refine seq_go ?_
            | refine draw_i (by kernel_rfl) ?_
            | refine arith_half (by omega) ?_
            | refine arith_in (by omega) ?_
            | refine arith_u (by omega) ?_
            | refine need_i (p := (T.row _).eq = true) (by kernel_rfl) ?_
            | refine need_i (by omega) ?_
            | refine br_not ?_
            | refine br_dec (fun hd => ?_) (fun hd => ?_)
            | refine br_lt (fun hlt => ?_) (fun hlt => ?_)
            | refine br_le (fun hle => ?_) (fun hle => ?_)
            | refine br_eq (fun heq => ?_) (fun heq => ?_)
            | refine idx_map (by omega) (fun x hx => ?_)
            | refine live_i rfl (fun h => by cases h) ?_
            | refine branch_s (fun hbb => ?_) (fun hbb => ?_)
            | refine ret_i ?_
            | refine retB_i ?_)
          refine retIO_i ?_
          conv => whnf
          exact ⟨[], rfl, ⟨⟨rfl, rfl, rfl, rfl⟩, trivial⟩, rfl⟩
    · have ht : (R.take 20).length = 20 := by rw [List.length_take]; omega
      have hd : (R.drop 20).length = R.length - 20 := by rw [List.length_drop]
      have hi : (isortP c (R.take 20)).length = 20 := by rw [isortP_len, ht]
      repeat' ((conv => whnf); first
        | (exfalso; omega)
        | (refine call_io_i (ins_at hc (l := D ++ R) (l' := D ++ isortP c (R.take 20) ++ R.drop 20) (a := D.length) (b := D.length + 20) D (R.take 20) (R.drop 20) (fun z hz => h3 z (List.mem_of_mem_take hz)) (by simp) rfl rfl (by omega) (by omega)) rfl rfl ?_ rfl rfl ?_; focus ((repeat' (first | exact trivial | refine And.intro ?_ ?_ | with_reducible rfl | exact (fun h => by cases h) | exact rfl)); done))
        | refine seq_go ?_
        | refine draw_i (by kernel_rfl) ?_
        | refine arith_half (by omega) ?_
        | refine arith_in (by omega) ?_
        | refine arith_u (by omega) ?_
        | refine need_i (p := (T.row _).eq = true) (by kernel_rfl) ?_
        | refine need_i (by omega) ?_
        | refine br_not ?_
        | refine br_dec (fun hd => ?_) (fun hd => ?_)
        | refine br_lt (fun hlt => ?_) (fun hlt => ?_)
        | refine br_le (fun hle => ?_) (fun hle => ?_)
        | refine br_eq (fun heq => ?_) (fun heq => ?_)
        | refine idx_map (by omega) (fun x hx => ?_)
        | refine live_i rfl (fun h => by cases h) ?_
        | refine branch_s (fun hbb => ?_) (fun hbb => ?_)
        | refine ret_i ?_
        | refine retB_i ?_)
      refine ⟨(D ++ isortP c (R.take 20), R.drop 20), ?_, ⟨?_, ?_, fun z hz => h3 z (List.mem_of_mem_drop hz)⟩, by show (R.drop 20).length < R.length; omega⟩
      · refine le_mk ?_ ?_ ?_ ?_
        all_goals repeat' (first | exact trivial | refine And.intro ?_ ?_ | with_reducible rfl | exact Nat.le_refl _ | omega | exact rfl)
        · show (D.length : Int) + 20 = (D ++ isortP c (R.take 20)).length
          rw [List.length_append]; omega
        · show (D.length : Int) + 20 + 20 = (D ++ isortP c (R.take 20)).length + 20
          rw [List.length_append]; omega
      · show D ++ isortP c (R.take 20) ++ blk c 20 (R.drop 20) = _
        rw [← h1, blk_step (by omega) hR, List.append_assoc]
      · show (D ++ isortP c (R.take 20)).length + (R.drop 20).length = _
        rw [List.length_append]; omega
theorem stable_spec (hc : CmpOk g cs c Q) (hk : ∀ a b, c a b < 0 ↔ key a < key b) (L : List Int) (hq : ∀ x ∈ L, Q x) (hl : L.length ≤ 10000) :
    SpIO 69 [.own 3 (L.map I), I L.length, .fn g [.fp cs]] (.tup []) 3 ((isortP c L).map I) := io_of rfl Tryd.func69 (by kernel_rfl) (by kernel_rfl) (stable_vc hc hk L hq hl)
theorem sorts_vc (hc : CmpOk g cs c Q) (hk : ∀ a b, c a b < 0 ↔ key a < key b) (L : List Int) (hq : ∀ x ∈ L, Q x) (hl : L.length ≤ 10000) :
    fnIO T Tryd.prog Tryd.f33 [.own 3 (L.map I), .fn g [.fp cs]] (.tup []) 0 3 ((isortP c L).map I) := by
  have hs : ((List.map I L).length : Int) = L.length := by simp
  have hn := stable_spec hc hk L hq hl
  rw [← hs] at hn
  repeat' ((conv => whnf); first
    | (refine call_io_i (hn) rfl rfl ?_ rfl rfl ?_; focus ((repeat' (first | exact trivial | refine And.intro ?_ ?_ | with_reducible rfl | exact (fun h => by cases h) | exact rfl)); done))
    | refine retIO_i ?_
    | refine seq_go ?_
    | refine draw_i (by kernel_rfl) ?_
    | refine arith_half (by omega) ?_
    | refine arith_in (by omega) ?_
    | refine arith_u (by omega) ?_
    | refine need_i (p := (T.row _).eq = true) (by kernel_rfl) ?_
    | refine need_i (by omega) ?_
    | refine br_not ?_
    | refine br_dec (fun hd => ?_) (fun hd => ?_)
    | refine br_lt (fun hlt => ?_) (fun hlt => ?_)
    | refine br_le (fun hle => ?_) (fun hle => ?_)
    | refine br_eq (fun heq => ?_) (fun heq => ?_)
    | refine idx_map (by omega) (fun x hx => ?_)
    | refine live_i rfl (fun h => by cases h) ?_
    | refine branch_s (fun hbb => ?_) (fun hbb => ?_)
    | refine ret_i ?_
    | refine retB_i ?_)
  conv => whnf
  exact ⟨[], rfl, ⟨⟨rfl, rfl, rfl, rfl⟩, trivial⟩, rfl⟩
theorem sorts_spec (hc : CmpOk g cs c Q) (hk : ∀ a b, c a b < 0 ↔ key a < key b) (L : List Int) (hq : ∀ x ∈ L, Q x) (hl : L.length ≤ 10000) :
    SpIO 33 [.own 3 (L.map I), .fn g [.fp cs]] (.tup []) 3 ((isortP c L).map I) := io_of rfl Tryd.func33 (by kernel_rfl) (by kernel_rfl) (sorts_vc hc hk L hq hl)
end Go.Proofs.Cost58
namespace Go.Proofs.Cost58

section
variable {α : Type} {c : α → α → Int}
theorem insR_perm (x : α) : ∀ R, (insR c x R).Perm (x :: R)
  | [] => .refl _
  | y :: r => by
    unfold insR; split
    · exact ((insR_perm x r).cons y).trans (.swap x y r)
    · exact .refl _
theorem isF_perm : ∀ (xs R : List α), (xs.foldl (fun R x => insR c x R) R).Perm (xs ++ R)
  | [], R => .refl _
  | x :: xs, R => by
    rw [List.foldl_cons]
    exact (isF_perm xs _).trans (((insR_perm x R).append_left xs).trans List.perm_middle)
theorem isortP_perm (xs : List α) : (isortP c xs).Perm xs := by
  unfold isortP isR
  exact (List.reverse_perm _).trans (by have := isF_perm (c := c) xs []; rwa [List.append_nil] at this)
/-- stable: what comes first stays first -/
theorem insR_stable {key : α → Int} (hk : ∀ a b, c a b < 0 ↔ key a < key b) {lt : α → α → Prop} {x : α} : ∀ {R : List α}, R.Pairwise (fun b a => key a < key b ∨ (key a = key b ∧ lt a b)) → (∀ y ∈ R, lt y x) → (insR c x R).Pairwise (fun b a => key a < key b ∨ (key a = key b ∧ lt a b))
  | [], _, _ => by simp [insR]
  | y :: r, h, hx => by
    obtain ⟨h1, h2⟩ := List.pairwise_cons.1 h
    unfold insR
    split
    · rename_i hc
      rw [hk] at hc
      refine List.pairwise_cons.2 ⟨fun a ha => ?_, insR_stable hk h2 (fun z hz => hx z (by simp [hz]))⟩
      rcases insR_mem.1 ha with rfl | ha
      · exact .inl hc
      · exact h1 a ha
    · rename_i hc
      rw [hk] at hc
      refine List.pairwise_cons.2 ⟨fun a ha => ?_, h⟩
      rcases List.mem_cons.1 ha with rfl | ha
      · rcases Int.lt_or_eq_of_le (Int.not_lt.1 hc) with hlt | heq
        · exact .inl hlt
        · exact .inr ⟨heq, hx a (by simp)⟩
      · have := h1 a ha
        have hxa := hx a (by simp [ha])
        rcases this with hlt | ⟨heq, _⟩
        · exact .inl (by omega)
        · rcases Int.lt_or_eq_of_le (Int.not_lt.1 hc) with hlt | heq'
          · exact .inl (by omega)
          · exact .inr ⟨by omega, hxa⟩
theorem isF_stable {key : α → Int} (hk : ∀ a b, c a b < 0 ↔ key a < key b) {lt : α → α → Prop} : ∀ (xs R : List α), R.Pairwise (fun b a => key a < key b ∨ (key a = key b ∧ lt a b)) → (∀ y ∈ R, ∀ x ∈ xs, lt y x) → xs.Pairwise lt → (xs.foldl (fun R x => insR c x R) R).Pairwise (fun b a => key a < key b ∨ (key a = key b ∧ lt a b))
  | [], R, h, _, _ => h
  | x :: xs, R, h, hx, hp => by
    obtain ⟨p1, p2⟩ := List.pairwise_cons.1 hp
    rw [List.foldl_cons]
    refine isF_stable hk xs _ (insR_stable hk h (fun y hy => hx y hy x (by simp))) (fun y hy z hz => ?_) p2
    rcases insR_mem.1 hy with rfl | hy
    · exact p1 z hz
    · exact hx y hy z (by simp [hz])
theorem isortP_stable {key : α → Int} (hk : ∀ a b, c a b < 0 ↔ key a < key b) {lt : α → α → Prop} (xs : List α) (hp : xs.Pairwise lt) : (isortP c xs).Pairwise (fun a b => key a < key b ∨ (key a = key b ∧ lt a b)) := by
  unfold isortP isR
  rw [List.pairwise_reverse]
  exact isF_stable hk xs [] .nil (fun y hy => by simp at hy) hp
end

theorem perm_sum {α : Type} (f : α → Int) {l l' : List α} (h : l.Perm l') : (l.map f).sum = (l'.map f).sum := by
  induction h with
  | nil => rfl
  | cons x _ ih => simp [ih]
  | swap x y l => simp only [List.map_cons, List.sum_cons]; omega
  | trans _ _ h1 h2 => rw [h1, h2]

/-- the numbers of the weights -/
def idxs (n : Nat) : List Int := (List.range n).map Int.ofNat
theorem idxs_len (n : Nat) : (idxs n).length = n := by simp [idxs]
theorem idxs_mem {n : Nat} {i : Int} : i ∈ idxs n ↔ 0 ≤ i ∧ i < n := by
  unfold idxs
  rw [List.mem_map]
  constructor
  · rintro ⟨k, hk, rfl⟩
    rw [List.mem_range] at hk
    have : Int.ofNat k = (k : Int) := rfl
    omega
  · rintro ⟨h0, h1⟩
    exact ⟨i.toNat, by rw [List.mem_range]; omega, by show ((i.toNat : Nat) : Int) = i; omega⟩
theorem idxs_lt (n : Nat) : (idxs n).Pairwise (· < ·) := by
  unfold idxs
  rw [List.pairwise_map]
  exact List.pairwise_lt_range.imp (fun h => by
    rename_i a b
    show (a : Int) < (b : Int)
    omega)
theorem idxs_succ (n : Nat) : idxs (n + 1) = idxs n ++ [(n : Int)] := by
  unfold idxs; rw [List.range_succ, List.map_append]; rfl

def quos (am s : Int) (ws : List Int) : List Int := ws.map fun w => (am * w).tdiv s
def leftP (am s : Int) (ws : List Int) : Int := am - (quos am s ws).sum
def ordP (am s : Int) (ws : List Int) : List Int := isortP (ordF am s ws) (idxs ws.length)
def bump (o : List Int) (is : List Int) : List Int := is.foldl (fun o i => o.set i.toNat (o.getD i.toNat 0 + 1)) o
def shareP (am s : Int) (ws : List Int) : List Int := bump (quos am s ws) ((ordP am s ws).take (leftP am s ws).toNat)

theorem bump_len : ∀ (is o : List Int), (bump o is).length = o.length
  | [], o => rfl
  | i :: is, o => by
    show (bump (o.set i.toNat (o.getD i.toNat 0 + 1)) is).length = _
    rw [bump_len is]; simp
theorem bump_snoc (o is : List Int) (i : Int) : bump o (is ++ [i]) = (bump o is).set i.toNat ((bump o is).getD i.toNat 0 + 1) := by unfold bump; rw [List.foldl_append]; rfl
theorem bump_get (o : List Int) (j : Nat) (hj : j < o.length) : ∀ (is : List Int), (∀ i ∈ is, 0 ≤ i) → is.Nodup → (bump o is).getD j 0 = o.getD j 0 + if (j : Int) ∈ is then 1 else 0 := by
  intro is
  refine snoc_ind (p := fun is : List Int => (∀ i ∈ is, 0 ≤ i) → is.Nodup → (bump o is).getD j 0 = o.getD j 0 + if (j : Int) ∈ is then 1 else 0) ?_ ?_ is
  · intro _ _; simp [bump]
  · intro xs x ih h0 hn
    have hn' := List.nodup_append.1 hn
    have ih' := ih (fun i hi => h0 i (by simp [hi])) hn'.1
    have hx0 := h0 x (by simp)
    have hxn : x ∉ xs := fun h => hn'.2.2 x h x (by simp) rfl
    rw [bump_snoc]
    by_cases e : x.toNat = j
    · have ex : (j : Int) = x := by omega
      rw [e]
      have hl : j < (bump o xs).length := by rw [bump_len]; exact hj
      rw [List.getD_eq_getElem?_getD (l := List.set _ _ _), List.getElem?_set_self hl]
      rw [ih', if_neg (by rw [ex]; exact hxn), if_pos (by rw [ex]; simp)]
      simp
    · have ex : (j : Int) ≠ x := by omega
      rw [List.getD_eq_getElem?_getD (l := List.set _ _ _), List.getElem?_set_ne e, ← List.getD_eq_getElem?_getD, ih']
      congr 1
      simp [ex]
theorem sum_set : ∀ (l : List Int) (i : Nat) (v : Int), i < l.length → (l.set i v).sum = l.sum - l.getD i 0 + v
  | [], i, v, h => by simp at h
  | x :: l, 0, v, _ => by simp; omega
  | x :: l, i + 1, v, h => by
    have := sum_set l i v (by simpa using h)
    simp only [List.set_cons_succ, List.sum_cons, this]
    rw [show (x :: l).getD (i + 1) 0 = l.getD i 0 by simp]
    omega
theorem bump_sum (o : List Int) (is : List Int) : (∀ i ∈ is, 0 ≤ i ∧ i < o.length) → (bump o is).sum = o.sum + is.length := by
  refine snoc_ind (p := fun is : List Int => (∀ i ∈ is, 0 ≤ i ∧ i < o.length) → (bump o is).sum = o.sum + is.length) ?_ ?_ is
  · intro _; simp [bump]
  · intro xs x ih h
    have := h x (by simp)
    rw [bump_snoc, sum_set _ _ _ (by rw [bump_len]; omega), ih (fun i hi => h i (by simp [hi]))]
    simp; omega

section
variable {am s : Int} {ws : List Int}
structure ShareOk (am s : Int) (ws : List Int) : Prop where
  am0 : 0 ≤ am
  s0 : 0 < s
  w0 : ∀ w ∈ ws, 0 ≤ w
  sum : ws.sum = s

theorem quo_rem (h : ShareOk am s ws) {w : Int} (hw : w ∈ ws) : am * w = s * (am * w).tdiv s + (am * w).tmod s ∧ 0 ≤ (am * w).tmod s ∧ (am * w).tmod s < s ∧ 0 ≤ (am * w).tdiv s := by
  have h0 : 0 ≤ am * w := Int.mul_nonneg h.am0 (h.w0 w hw)
  have hs := h.s0
  rw [Int.tdiv_eq_ediv_of_nonneg h0, Int.tmod_eq_emod_of_nonneg h0]
  refine ⟨(Int.mul_ediv_add_emod _ _).symm, Int.emod_nonneg _ (by omega), Int.emod_lt_of_pos _ hs, Int.ediv_nonneg h0 (by omega)⟩
theorem sum_parts (am s : Int) : ∀ (l : List Int), (∀ w ∈ l, am * w = s * (am * w).tdiv s + (am * w).tmod s) → am * l.sum = s * (quos am s l).sum + (l.map fun w => (am * w).tmod s).sum
  | [], _ => by simp [quos]
  | w :: l, h => by
    have h1 := h w (by simp)
    have h2 := sum_parts am s l (fun w hw => h w (by simp [hw]))
    unfold quos at h2 ⊢
    simp only [List.map_cons, List.sum_cons, Int.mul_add]
    omega
theorem rests_eq : (idxs ws.length).map (restF am s ws) = ws.map fun w => (am * w).tmod s := by
  unfold idxs
  rw [List.map_map]
  apply List.ext_getElem (by simp)
  intro i h1 h2
  simp at h1
  simp only [List.getElem_map, List.getElem_range, Function.comp]
  unfold restF
  rw [show (Int.ofNat i).toNat = i from rfl, List.getD_eq_getElem?_getD, List.getElem?_eq_getElem h1]
  rfl
theorem ord_perm : (ordP am s ws).Perm (idxs ws.length) := isortP_perm _
theorem ord_mem {i : Int} : i ∈ ordP am s ws ↔ 0 ≤ i ∧ i < ws.length := by rw [ord_perm.mem_iff, idxs_mem]
theorem ord_len : (ordP am s ws).length = ws.length := by rw [ord_perm.length_eq, idxs_len]
theorem ord_nodup : (ordP am s ws).Nodup := by
  rw [ord_perm.nodup_iff]
  exact (idxs_lt _).imp (fun h => by omega)
theorem cmpI_neg (a b : Int) : cmpI a b < 0 ↔ a < b := by
  unfold cmpI; split
  · simp [*]
  · split <;> simp <;> omega
theorem ordF_neg (i j : Int) : ordF am s ws i j < 0 ↔ - restF am s ws i < - restF am s ws j := by unfold ordF; rw [cmpI_neg]; omega
theorem ord_sorted : (ordP am s ws).Pairwise (fun i j => restF am s ws j < restF am s ws i ∨ (restF am s ws i = restF am s ws j ∧ i < j)) :=
  (isortP_stable (key := fun i => - restF am s ws i) (lt := (· < ·)) (fun a b => ordF_neg a b) _ (idxs_lt _)).imp (fun h => by omega)
theorem rest_bd (h : ShareOk am s ws) {i : Int} (hi : 0 ≤ i ∧ i < ws.length) : 0 ≤ restF am s ws i ∧ restF am s ws i < s := by
  unfold restF
  have hl : i.toNat < ws.length := by omega
  rw [List.getD_eq_getElem?_getD, List.getElem?_eq_getElem hl]
  have := quo_rem h (List.getElem_mem hl)
  exact ⟨this.2.1, this.2.2.1⟩
theorem left_eq (h : ShareOk am s ws) : s * leftP am s ws = ((ordP am s ws).map (restF am s ws)).sum := by
  rw [perm_sum _ ord_perm, rests_eq]
  have h1 := sum_parts am s ws (fun w hw => (quo_rem h hw).1)
  rw [h.sum, Int.mul_comm] at h1
  unfold leftP
  rw [Int.mul_sub]; omega
theorem sum_le {f : Int → Int} {b : Int} : ∀ (l : List Int), (∀ i ∈ l, f i ≤ b) → (l.map f).sum ≤ l.length * b
  | [], _ => by simp
  | x :: l, h => by
    have := sum_le l (fun i hi => h i (by simp [hi]))
    have h1 := h x (by simp)
    simp only [List.map_cons, List.sum_cons, List.length_cons]
    rw [show (((l.length + 1 : Nat) : Int)) = (l.length : Int) + 1 by omega, Int.add_mul]; omega
theorem sum_ge0 {f : Int → Int} : ∀ (l : List Int), (∀ i ∈ l, 0 ≤ f i) → 0 ≤ (l.map f).sum
  | [], _ => by simp
  | x :: l, h => by
    have := sum_ge0 l (fun i hi => h i (by simp [hi]))
    have h1 := h x (by simp)
    simp only [List.map_cons, List.sum_cons]; omega
theorem left_bd (h : ShareOk am s ws) : 0 ≤ leftP am s ws ∧ (leftP am s ws < ws.length ∨ leftP am s ws = 0) := by
  have e := left_eq h
  have h0 := sum_ge0 (f := restF am s ws) (ordP am s ws) (fun i hi => (rest_bd h (ord_mem.1 hi)).1)
  have h1 := sum_le (f := restF am s ws) (b := s - 1) (ordP am s ws) (fun i hi => by have := (rest_bd h (ord_mem.1 hi)).2; omega)
  rw [ord_len, ← e] at h1
  rw [← e] at h0
  have hs := h.s0
  have hl0 : 0 ≤ leftP am s ws := by
    rcases Int.lt_or_le (leftP am s ws) 0 with hn | hn
    · have := Int.mul_neg_of_pos_of_neg hs hn
      omega
    · exact hn
  refine ⟨hl0, ?_⟩
  rcases Int.lt_or_le (leftP am s ws) ws.length with hn | hn
  · exact .inl hn
  · have h2 : s * (ws.length : Int) ≤ s * leftP am s ws := Int.mul_le_mul_of_nonneg_left hn (by omega)
    rw [Int.mul_sub, Int.mul_comm (ws.length : Int) s] at h1
    have hn0 : (ws.length : Int) = 0 := by omega
    right
    have : ws = [] := List.length_eq_zero_iff.1 (by omega)
    have hs' := h.sum
    rw [this] at hs'
    simp at hs'
    omega
theorem left_len (h : ShareOk am s ws) : ((ordP am s ws).take (leftP am s ws).toNat).length = (leftP am s ws).toNat := by
  have := left_bd h
  rw [List.length_take, ord_len]; omega
/-- what is bumped has a remainder -/
theorem taken_pos (h : ShareOk am s ws) {i : Int} (hi : i ∈ (ordP am s ws).take (leftP am s ws).toNat) : 0 < restF am s ws i := by
  have hb := rest_bd h (ord_mem.1 (List.mem_of_mem_take hi))
  rcases Int.lt_or_le 0 (restF am s ws i) with hp | hp
  · exact hp
  · exfalso
    have hz : restF am s ws i = 0 := by omega
    have e := left_eq h
    have hsrt := ord_sorted (am := am) (s := s) (ws := ws)
    rw [← List.take_append_drop (leftP am s ws).toNat (ordP am s ws)] at hsrt
    have hcross := (List.pairwise_append.1 hsrt).2.2 i hi
    rw [← List.take_append_drop (leftP am s ws).toNat (ordP am s ws), List.map_append, List.sum_append] at e
    have hdrop : (((ordP am s ws).drop (leftP am s ws).toNat).map (restF am s ws)).sum ≤ 0 := by
      have := sum_le (f := restF am s ws) (b := 0) ((ordP am s ws).drop (leftP am s ws).toNat) (fun j hj => by have := hcross j hj; omega)
      simpa using this
    have htake := sum_le (f := restF am s ws) (b := s - 1) ((ordP am s ws).take (leftP am s ws).toNat) (fun j hj => by have := (rest_bd h (ord_mem.1 (List.mem_of_mem_take hj))).2; omega)
    rw [left_len h] at htake
    have hl := left_bd h
    have hne : 0 < (leftP am s ws).toNat := by
      rw [← left_len h]; exact List.length_pos_of_mem hi
    rw [show (((leftP am s ws).toNat : Nat) : Int) = leftP am s ws by omega, Int.mul_sub, Int.mul_comm _ s] at htake
    omega
theorem quos_len : (quos am s ws).length = ws.length := by simp [quos]
theorem quos_get {j : Nat} (hj : j < ws.length) : (quos am s ws).getD j 0 = (am * ws[j]).tdiv s := by
  unfold quos
  rw [List.getD_eq_getElem?_getD, List.getElem?_map, List.getElem?_eq_getElem hj]; rfl
theorem share_len : (shareP am s ws).length = ws.length := by unfold shareP; rw [bump_len, quos_len]
theorem share_get {j : Nat} (hj : j < ws.length) : (shareP am s ws).getD j 0 = (am * ws[j]).tdiv s + if (j : Int) ∈ (ordP am s ws).take (leftP am s ws).toNat then 1 else 0 := by
  unfold shareP
  rw [bump_get _ _ (by rw [quos_len]; exact hj) _ (fun i hi => (ord_mem.1 (List.mem_of_mem_take hi)).1) (ord_nodup.sublist (List.take_sublist _ _)), quos_get hj]
theorem share_sum (h : ShareOk am s ws) : (shareP am s ws).sum = am := by
  unfold shareP
  rw [bump_sum _ _ (fun i hi => by rw [quos_len]; exact ord_mem.1 (List.mem_of_mem_take hi)), left_len h]
  have := left_bd h
  unfold leftP at this ⊢
  omega
theorem rest_at {j : Nat} (hj : j < ws.length) : restF am s ws j = (am * ws[j]).tmod s := by
  unfold restF
  rw [show ((j : Int)).toNat = j from rfl, List.getD_eq_getElem?_getD, List.getElem?_eq_getElem hj]; rfl
theorem share_near (h : ShareOk am s ws) {j : Nat} (hj : j < ws.length) : (shareP am s ws).getD j 0 * s - am * ws[j] < s ∧ - s < (shareP am s ws).getD j 0 * s - am * ws[j] := by
  have hq := quo_rem h (List.getElem_mem hj)
  have hs := h.s0
  rw [share_get hj]
  by_cases hm : (j : Int) ∈ (ordP am s ws).take (leftP am s ws).toNat
  · have hp := taken_pos h hm
    rw [rest_at hj] at hp
    rw [if_pos hm, Int.add_mul, Int.mul_comm _ s]; omega
  · rw [if_neg hm, Int.add_mul, Int.mul_comm _ s]; omega
theorem share_mono (h : ShareOk am s ws) {i k : Nat} (hi : i < ws.length) (hk : k < ws.length) (hw : ws[k] < ws[i]) : (shareP am s ws).getD k 0 ≤ (shareP am s ws).getD i 0 := by
  have hqi := quo_rem h (List.getElem_mem hi)
  have hqk := quo_rem h (List.getElem_mem hk)
  have hs := h.s0
  rw [share_get hi, share_get hk]
  have hle : am * ws[k] ≤ am * ws[i] := Int.mul_le_mul_of_nonneg_left (by omega) h.am0
  rw [hqi.1, hqk.1] at hle
  generalize hA : (am * ws[i]).tdiv s = A at *
  generalize hB : (am * ws[k]).tdiv s = B at *
  rcases Int.lt_trichotomy A B with hlt | heq | hgt
  · exfalso
    have h1 : A + 1 ≤ B := by omega
    have h2 : s * (A + 1) ≤ s * B := Int.mul_le_mul_of_nonneg_left h1 (by omega)
    rw [Int.mul_add] at h2
    omega
  · subst heq
    by_cases hm : (k : Int) ∈ (ordP am s ws).take (leftP am s ws).toNat
    · have hpk := taken_pos h hm
      rw [if_pos hm]
      by_cases hi' : (i : Int) ∈ (ordP am s ws).take (leftP am s ws).toNat
      · rw [if_pos hi']; omega
      · exfalso
        have hin : (i : Int) ∈ (ordP am s ws).drop (leftP am s ws).toNat := by
          have hall : (i : Int) ∈ ordP am s ws := ord_mem.2 (by omega)
          rw [← List.take_append_drop (leftP am s ws).toNat (ordP am s ws), List.mem_append] at hall
          rcases hall with h' | h'
          · exact (hi' h').elim
          · exact h'
        have hsrt := ord_sorted (am := am) (s := s) (ws := ws)
        rw [← List.take_append_drop (leftP am s ws).toNat (ordP am s ws)] at hsrt
        have hcr := (List.pairwise_append.1 hsrt).2.2 _ hm _ hin
        rw [rest_at hi, rest_at hk] at hcr
        have ham : am ≠ 0 := by
          rintro rfl
          rw [rest_at hk] at hpk
          simp at hpk
        have hst : am * ws[k] < am * ws[i] := Int.mul_lt_mul_of_pos_left hw (by have := h.am0; omega)
        rw [hqi.1, hqk.1] at hst
        omega
    · rw [if_neg hm]; split <;> omega
  · split <;> split <;> omega

/-! the other way: the greatest one, again and again -/
def doneP (am s : Int) (ws : List Int) (k : Nat) (i : Int) : Prop := i ∈ (ordP am s ws).take k
/-- what the scan of the first m numbers has found -/
def BestP (am s : Int) (ws : List Int) (k m : Nat) (b : Int) : Prop :=
  (b = -1 ∧ ∀ i : Int, 0 ≤ i → i < m → doneP am s ws k i) ∨
  ((0 ≤ b ∧ b < m) ∧ ¬ doneP am s ws k b ∧ ∀ i : Int, 0 ≤ i → i < m → ¬ doneP am s ws k i → restF am s ws i < restF am s ws b ∨ (restF am s ws i = restF am s ws b ∧ b ≤ i))
theorem best_zero {k : Nat} : BestP am s ws k 0 (-1) := .inl ⟨rfl, fun i h0 h1 => by omega⟩
theorem best_done {k m : Nat} {b : Int} (h : BestP am s ws k m b) (hd : doneP am s ws k m) : BestP am s ws k (m + 1) b := by
  rcases h with ⟨h1, h2⟩ | ⟨h1, h2, h3⟩
  · refine .inl ⟨h1, fun i h0 hi => ?_⟩
    rcases Int.lt_or_le i m with hlt | hge
    · exact h2 i h0 hlt
    · rw [show i = (m : Int) by omega]; exact hd
  · refine .inr ⟨by omega, h2, fun i h0 hi hn => ?_⟩
    rcases Int.lt_or_le i m with hlt | hge
    · exact h3 i h0 hlt hn
    · rw [show i = (m : Int) by omega] at hn; exact (hn hd).elim
theorem best_keep {k m : Nat} {b : Int} (h : BestP am s ws k m b) (hb : 0 ≤ b) (hr : restF am s ws m ≤ restF am s ws b) : BestP am s ws k (m + 1) b := by
  rcases h with ⟨h1, h2⟩ | ⟨h1, h2, h3⟩
  · omega
  · refine .inr ⟨by omega, h2, fun i h0 hi hn => ?_⟩
    rcases Int.lt_or_le i m with hlt | hge
    · exact h3 i h0 hlt hn
    · rw [show i = (m : Int) by omega]; omega
theorem best_new {k m : Nat} {b : Int} (h : BestP am s ws k m b) (hd : ¬ doneP am s ws k m) (hr : b < 0 ∨ restF am s ws b < restF am s ws m) : BestP am s ws k (m + 1) m := by
  refine .inr ⟨by omega, hd, fun i h0 hi hn => ?_⟩
  rcases Int.lt_or_le i m with hlt | hge
  · rcases h with ⟨h1, h2⟩ | ⟨h1, h2, h3⟩
    · exact (hn (h2 i h0 hlt)).elim
    · have := h3 i h0 hlt hn
      omega
  · rw [show i = (m : Int) by omega]; omega
theorem best_is {k : Nat} {b : Int} (h : BestP am s ws k ws.length b) (hk : k < ws.length) : (ordP am s ws)[k]? = some b := by
  have hkl : k < (ordP am s ws).length := by rw [ord_len]; exact hk
  have hd : (ordP am s ws).drop k = (ordP am s ws)[k] :: (ordP am s ws).drop (k + 1) := List.drop_eq_getElem_cons hkl
  have hsrt := ord_sorted (am := am) (s := s) (ws := ws)
  have hnd := ord_nodup (am := am) (s := s) (ws := ws)
  have hx : (ordP am s ws)[k] ∈ ordP am s ws := List.getElem_mem hkl
  have hxm := ord_mem.1 hx
  rw [← List.take_append_drop k (ordP am s ws), hd] at hsrt hnd
  have hnot : ¬ doneP am s ws k (ordP am s ws)[k] := fun hin => (List.nodup_append.1 hnd).2.2 _ hin _ List.mem_cons_self rfl
  rw [List.getElem?_eq_getElem hkl]
  generalize hxe : (ordP am s ws)[k] = x at *
  rcases h with ⟨h1, h2⟩ | ⟨h1, h2, h3⟩
  · exact (hnot (h2 x hxm.1 hxm.2)).elim
  · have hb : b ∈ ordP am s ws := ord_mem.2 h1
    rw [← List.take_append_drop k (ordP am s ws), hd, List.mem_append] at hb
    rcases hb with hb | hb
    · exact (h2 hb).elim
    · rcases List.mem_cons.1 hb with rfl | hb
      · rfl
      · have hp := (List.pairwise_cons.1 (List.pairwise_append.1 hsrt).2.1).1 b hb
        have hq := h3 x hxm.1 hxm.2 hnot
        omega
theorem done_succ {k : Nat} {b : Int} (hb : (ordP am s ws)[k]? = some b) (i : Int) : doneP am s ws (k + 1) i ↔ doneP am s ws k i ∨ i = b := by
  unfold doneP
  rw [List.take_add_one, hb]; simp
theorem bump_succ {k : Nat} {b : Int} (o : List Int) (hb : (ordP am s ws)[k]? = some b) : bump o ((ordP am s ws).take (k + 1)) = (bump o ((ordP am s ws).take k)).set b.toNat ((bump o ((ordP am s ws).take k)).getD b.toNat 0 + 1) := by
  rw [List.take_add_one, hb]
  exact bump_snoc _ _ _
end
end Go.Proofs.Cost58
