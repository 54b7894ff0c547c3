/-
  The functions of the envelopes, walked: columns, steps of columns, tops.
-/
import Derived.Test.YtbmbfifobonfjaaW2
set_option linter.unusedVariables false
set_option linter.unusedSimpArgs false
namespace Go.Proofs.Env41
open Go Go.Proofs Go.Ab
set_option maxRecDepth 100000

/-- heights of columns as a slice -/
@[irreducible] def hv (H : Int → Int) (n : Nat) : List V := (List.range n).map (fun k => I (H (k : Nat)))
theorem hv_len (H : Int → Int) (n : Nat) : (hv H n).length = n := by simp [hv]
theorem hv_get (H : Int → Int) {n : Nat} {z : Int} (h0 : 0 ≤ z) (h1 : z < n) : (hv H n)[z.toNat]? = some (I (H z)) := by
  have e : ((z.toNat : Nat) : Int) = z := by omega
  have h2 : z.toNat < n := by omega
  simp [hv, h2, e]
theorem hv_congr {H G : Int → Int} {n : Nat} (h : ∀ z : Int, 0 ≤ z → z < n → H z = G z) : hv H n = hv G n := by
  unfold hv
  refine List.map_congr_left (fun k hk => ?_)
  rw [h k (by omega) (by have := List.mem_range.1 hk; omega)]
theorem hv_set (H : Int → Int) (n : Nat) {z : Int} (h0 : 0 ≤ z) (y : Int) : (hv H n).set z.toNat (I y) = hv (fun q => if q = z then y else H q) n := by
  refine List.ext_getElem (by simp [hv]) (fun k h1 h2 => ?_)
  rw [List.getElem_set]
  have hk : k < n := by simpa [hv] using h2
  simp only [hv, List.getElem_map, List.getElem_range]
  by_cases e : z.toNat = k
  · rw [if_pos e, if_pos (by omega)]
  · rw [if_neg e, if_neg (by omega)]
theorem hv_zero (n : Nat) : List.replicate n (I 0) = hv (fun _ => 0) n := by
  refine List.ext_getElem (by simp [hv]) (fun k h1 h2 => ?_)
  simp [hv]
theorem idx_hv {H : Int → Int} {n : Nat} {z : Int} {K : V → Prop} (h : 0 ≤ z ∧ z < n) (hk : K (I (H z))) : idx (hv H n) z.toNat K := idx_i _ (hv_get H h.1 h.2) hk
theorem need_arr {en : AE} {g : Nat} {z : Int} {K : Prop} (h1 : en.gen = g) (h2 : en.kind ≠ .dead) (h3 : 0 ≤ z ∧ z < en.l.length) (hk : K) : need (en.gen = g ∧ en.kind ≠ .dead ∧ 0 ≤ z ∧ z < en.l.length) K := need_i ⟨h1, h2, h3⟩ hk
theorem need_hv {en : AE} {g n : Nat} {H : Int → Int} {z : Int} {K : Prop} (h1 : en.gen = g) (h2 : en.kind ≠ .dead) (h0 : en.l = hv H n) (h3 : 0 ≤ z ∧ z < n) (hk : K) : need (en.gen = g ∧ en.kind ≠ .dead ∧ 0 ≤ z ∧ z < en.l.length) K :=
  need_i ⟨h1, h2, h3.1, by rw [h0, hv_len]; exact h3.2⟩ hk
theorem own_i {en : AE} {g : Nat} {K : Prop} (h1 : en.gen = g) (h2 : en.kind = .own) (hk : K) : need (en.gen = g ∧ en.kind = .own) K := need_i ⟨h1, h2⟩ hk
theorem need_make {n c : Int} {bytes : Nat} {K : Prop} (h0 : 0 ≤ n) (h1 : n = c) (h2 : c ≤ 1000000000) (hb : bytes ≤ 10000) (hk : K) : need (0 ≤ n ∧ n = c ∧ c * bytes ≤ 140737488355328 ∧ c ≤ 140737488355328) K := by
  refine need_i ⟨h0, h1, ?_, by omega⟩ hk
  have : c * bytes ≤ 1000000000 * 10000 := Int.mul_le_mul h2 (by omega) (by omega) (by omega)
  omega

theorem columns_vc {W : Int} {l : List (Int × Int)} (h : Val W l) (hl : l.length ≤ 100000) : fnVC T Try.prog Try.f41 [envV W l] (.own 3 (hv (colF l) W.toNat)) := by
  have hs : (l.map stepV).length = l.length := by simp
  have hW := h.1
  have hW2 := h.2.1
  repeat' ((conv => whnf); first
    | refine need_make (by omega) rfl (by omega) (of_decide_eq_true rfl) ?_
    | refine seq_go ?_
    | refine draw_i (by kernel_rfl) ?_
    | refine arith_in (by omega) ?_
    | refine need_i (p := (T.row _).eq = true) (by kernel_rfl) ?_
    | refine need_i (by omega) ?_
    | refine br_not ?_
    | refine br_dec (fun hd => ?_) (fun hd => ?_)
    | refine br_lt (fun hlt => ?_) (fun hlt => ?_)
    | refine br_le (fun hle => ?_) (fun hle => ?_)
    | refine br_eq (fun heq => ?_) (fun heq => ?_)
    | refine idx_map (by omega) (fun x hx => ?_)
    | refine live_i rfl (fun h => by cases h) ?_
    | refine ret_i ?_)
  refine loop_i (A := Nat) (fun j => mkSt [(1, .box 1 0), (3, .arr 8 0), (4, I j)] [(1, [I W, .sl (l.map stepV)])] [(8, ⟨0, .own, 3, hv (colF (l.take j)) W.toNat⟩)])
    (fun j => j ≤ l.length) (fun j => l.length - j) 0 ?_ (by omega) (fun j hj' => ?_)
  · refine le_mk ?_ ?_ ?_
    all_goals repeat' (first | exact trivial | refine And.intro ?_ ?_ | with_reducible rfl | exact Nat.le_refl _ | omega | exact rfl)
    show List.replicate W.toNat (I 0) = hv (colF (l.take 0)) W.toNat
    rw [hv_zero]; rfl
  · change j ≤ l.length at hj'
    repeat' ((conv => whnf); first
      | refine seq_go ?_
      | refine draw_i (by kernel_rfl) ?_
      | refine arith_in (by omega) ?_
      | refine need_i (p := (T.row _).eq = true) (by kernel_rfl) ?_
      | refine need_i (by omega) ?_
      | refine br_not ?_
      | refine br_dec (fun hd => ?_) (fun hd => ?_)
      | refine br_lt (fun hlt => ?_) (fun hlt => ?_)
      | refine br_le (fun hle => ?_) (fun hle => ?_)
      | refine br_eq (fun heq => ?_) (fun heq => ?_)
      | refine idx_map (by omega) (fun x hx => ?_)
      | refine live_i rfl (fun h => by cases h) ?_
      | refine ret_i ?_)
    · have hj3 : (j : Int).toNat = j := by omega
      rw [hj3] at hx
      have hxs := begP_nn h j
      rw [begP_some hx] at hxs
      have hxW := (h.2.2.2 j x hx).1
      refine loop_i (A := Nat) (fun k => mkSt [(1, .box 1 0), (3, .arr 8 0), (4, I j), (5, I (x.1 + k))] [(1, [I W, .sl (l.map stepV)])] [(8, ⟨0, .own, 3, hv (fun z => if x.1 ≤ z ∧ z < x.1 + k then x.2 else colF (l.take j) z) W.toNat⟩)])
        (fun k => x.1 + k ≤ W) (fun k => (W - x.1).toNat - k) 0 ?_ (by omega) (fun k hk' => ?_)
      · refine le_mk ?_ ?_ ?_
        all_goals repeat' (first | exact trivial | refine And.intro ?_ ?_ | with_reducible rfl | exact Nat.le_refl _ | omega | exact rfl)
        · refine hv_congr (H := colF (l.take j)) (G := fun z => if x.1 ≤ z ∧ z < x.1 + (0 : Nat) then x.2 else colF (l.take j) z) (fun z h0 h1 => ?_)
          show _ = if x.1 ≤ z ∧ z < x.1 + (0 : Nat) then x.2 else colF (l.take j) z
          rw [if_neg (by omega)]
      · change x.1 + k ≤ W at hk'
        repeat' ((conv => whnf); first
          | (refine need_hv rfl (fun h => by cases h) rfl ?_ ?_; omega)
          | refine own_i rfl rfl ?_
          | (refine idx_hv ?_ ?_; omega)
          | refine seq_go ?_
          | refine draw_i (by kernel_rfl) ?_
          | refine arith_in (by omega) ?_
          | refine need_i (p := (T.row _).eq = true) (by kernel_rfl) ?_
          | refine need_i (by omega) ?_
          | refine br_not ?_
          | refine br_dec (fun hd => ?_) (fun hd => ?_)
          | refine br_lt (fun hlt => ?_) (fun hlt => ?_)
          | refine br_le (fun hle => ?_) (fun hle => ?_)
          | refine br_eq (fun heq => ?_) (fun heq => ?_)
          | refine idx_map (by omega) (fun x hx => ?_)
          | refine live_i rfl (fun h => by cases h) ?_
          | refine ret_i ?_)
        · rw [hj3] at hx
          rename_i x1 hx1
          rw [hx1] at hx
          cases hx
          refine ⟨k + 1, ?_, by omega, by omega⟩
          refine le_mk ?_ ?_ ?_
          all_goals repeat' (first | exact trivial | refine And.intro ?_ ?_ | with_reducible rfl | exact Nat.le_refl _ | omega | exact rfl)
          · refine (hv_set _ _ (by omega) _).trans (hv_congr (fun z h0 h1 => ?_))
            show (if z = x1.1 + k then x1.2 else if x1.1 ≤ z ∧ z < x1.1 + k then x1.2 else colF (l.take j) z) = if x1.1 ≤ z ∧ z < x1.1 + ((k + 1 : Nat) : Int) then x1.2 else colF (l.take j) z
            by_cases h3 : x1.1 ≤ z ∧ z < x1.1 + ((k + 1 : Nat) : Int)
            · rw [if_pos h3]
              by_cases h4 : z = x1.1 + k
              · rw [if_pos h4]
              · rw [if_neg h4, if_pos (by omega)]
            · rw [if_neg h3, if_neg (by omega), if_neg (by omega)]
        · refine ⟨j + 1, ?_, by omega, by omega⟩
          refine le_mk ?_ ?_ ?_
          all_goals repeat' (first | exact trivial | refine And.intro ?_ ?_ | with_reducible rfl | exact Nat.le_refl _ | omega | exact rfl)
          · refine hv_congr (H := fun z => if x.1 ≤ z ∧ z < x.1 + k then x.2 else colF (l.take j) z) (G := colF (l.take (j + 1))) (fun z h0 h1 => ?_)
            rw [List.take_add_one, hx]
            show (if x.1 ≤ z ∧ z < x.1 + k then x.2 else colF (l.take j) z) = colF (l.take j ++ [x]) z
            rw [colF, colF, colG_append, colG_cons, colG_nil]
            by_cases h3 : x.1 ≤ z
            · rw [if_pos h3, if_pos (by omega)]
            · rw [if_neg h3, if_neg (by omega)]
    · have : j = l.length := by omega
      subst this
      rw [List.take_length]
      conv => whnf
      exact ⟨⟨⟨rfl, rfl, rfl, rfl⟩, trivial⟩, rfl, fun _ h => by cases h⟩
theorem columns_spec {W : Int} {l : List (Int × Int)} (h : Val W l) (hl : l.length ≤ 100000) : Sp 41 [envV W l] (.own 3 (hv (colF l) W.toNat)) := sp_of Try.func41 (by kernel_rfl) (by kernel_rfl) (columns_vc h hl)

theorem ofP_len (H : Int → Int) : ∀ n, (ofP H n).length ≤ n
  | 0 => by simp [ofP]
  | n + 1 => by
    have := ofP_len H n
    rw [ofP_succ]
    split
    · simp; omega
    · omega
theorem need_sl {H : Int → Int} {n : Nat} {z : Int} {K : Prop} (h : 0 ≤ z ∧ z < n) (hk : K) : need (0 ≤ z ∧ z < (hv H n).length) K := need_i (by rw [hv_len]; exact h) hk
theorem of_vc (H : Int → Int) {n : Nat} (hn : n ≤ 100000) : fnVC T Try.prog Try.f45 [.sl (hv H n)] (envV n (ofP H n)) := by
  have hs : (hv H n).length = n := hv_len H n
  repeat' ((conv => whnf); first
    | refine seq_go ?_
    | refine draw_i (by kernel_rfl) ?_
    | refine arith_in (by omega) ?_
    | refine need_i (p := (T.row _).eq = true) (by kernel_rfl) ?_
    | refine need_i (by omega) ?_
    | refine br_not ?_
    | refine br_dec (fun hd => ?_) (fun hd => ?_)
    | refine br_lt (fun hlt => ?_) (fun hlt => ?_)
    | refine br_le (fun hle => ?_) (fun hle => ?_)
    | refine br_eq (fun heq => ?_) (fun heq => ?_)
    | refine idx_map (by omega) (fun x hx => ?_)
    | refine live_i rfl (fun h => by cases h) ?_
    | refine ret_i ?_)
  refine loop_i (A := Nat) (fun j => mkSt [(0, .sl (hv H n)), (2, .box 2 0), (3, .box 3 0), (4, I j)] [(2, [I 0, .lit (.slice none 0 0)]), (3, [I n, .arr 37 (ofP H j).length])] [(37, ⟨(ofP H j).length, .own, 84, (ofP H j).map stepV⟩)])
    (fun j => j ≤ n) (fun j => n - j) 0 ?_ (by omega) (fun j hj' => ?_)
  · refine le_mk ?_ ?_ ?_
    all_goals repeat' (first | exact trivial | refine And.intro ?_ ?_ | with_reducible rfl | exact Nat.le_refl _ | omega | exact rfl)
  · change j ≤ n at hj'
    have hlen := ofP_len H j
    have e1 := ofP_succ H j
    repeat' ((conv => whnf); first
      | (refine need_sl ?_ ?_; omega)
      | (refine idx_hv ?_ ?_; omega)
      | refine need_app rfl (.inl rfl) rfl (of_decide_eq_true rfl) (one_cells rfl) (by show (List.map stepV (ofP H j)).length + 1 ≤ _; simp; omega) ?_
      | refine seq_go ?_
      | refine draw_i (by kernel_rfl) ?_
      | refine arith_in (by omega) ?_
      | refine need_i (p := (T.row _).eq = true) (by kernel_rfl) ?_
      | refine need_i (by omega) ?_
      | refine br_not ?_
      | refine br_dec (fun hd => ?_) (fun hd => ?_)
      | refine br_lt (fun hlt => ?_) (fun hlt => ?_)
      | refine br_le (fun hle => ?_) (fun hle => ?_)
      | refine br_eq (fun heq => ?_) (fun heq => ?_)
      | refine idx_map (by omega) (fun x hx => ?_)
      | refine live_i rfl (fun h => by cases h) ?_
      | refine ret_i ?_)
    · have e2 : ofP H (j + 1) = ofP H j ++ [((j : Int), H j)] := by rw [e1, if_pos (by first | exact .inl (by omega) | exact .inr heq)]
      have e3 : (ofP H (j + 1)).length = (ofP H j).length + 1 := by rw [e2]; simp
      refine ⟨j + 1, ?_, by omega, by omega⟩
      refine le_mk ?_ ?_ ?_
      all_goals repeat' (first | exact trivial | refine And.intro ?_ ?_ | with_reducible rfl | exact Nat.le_refl _ | omega | exact rfl)
      · exact e3.symm
      · show List.map stepV (ofP H j) ++ [stepV ((j : Int), H j)] = List.map stepV (ofP H (j + 1))
        rw [e2]; simp
    · have e2 : ofP H (j + 1) = ofP H j := by rw [e1, if_neg (by omega)]
      refine ⟨j + 1, ?_, by omega, by omega⟩
      rw [e2]
      refine le_mk ?_ ?_ ?_
      all_goals repeat' (first | exact trivial | refine And.intro ?_ ?_ | with_reducible rfl | exact Nat.le_refl _ | omega | exact rfl)
    · have e2 : ofP H (j + 1) = ofP H j ++ [((j : Int), H j)] := by rw [e1, if_pos (by first | exact .inl (by omega) | exact .inr heq)]
      have e3 : (ofP H (j + 1)).length = (ofP H j).length + 1 := by rw [e2]; simp
      refine ⟨j + 1, ?_, by omega, by omega⟩
      refine le_mk ?_ ?_ ?_
      all_goals repeat' (first | exact trivial | refine And.intro ?_ ?_ | with_reducible rfl | exact Nat.le_refl _ | omega | exact rfl)
      · exact e3.symm
      · show List.map stepV (ofP H j) ++ [stepV ((j : Int), H j)] = List.map stepV (ofP H (j + 1))
        rw [e2]; simp
    · have : j = n := by omega
      subst this
      conv => whnf
      exact ⟨⟨⟨rfl, ⟨rfl, (fun h => by cases h), rfl⟩, trivial⟩, trivial⟩, rfl, fun _ h => by cases h⟩
theorem of_spec (H : Int → Int) {n : Nat} (hn : n ≤ 100000) : Sp 45 [.sl (hv H n)] (envV n (ofP H n)) := sp_of Try.func45 (by kernel_rfl) (by kernel_rfl) (of_vc H hn)

theorem add_vc (l : List (Int × Int)) (s : Int × Int) (hl : l.length ≤ 100000) : fnVC T Try.prog Try.f48 [.ap 80 (l.map stepV), stepV s] (.ap 80 ((addP l s).map stepV)) := by
  have hs : (AE.mk 0 .ap 80 (l.map stepV)).l.length = l.length := by simp
  repeat' ((conv => whnf); first
    | (refine need_arr rfl (fun h => by cases h) ?_ ?_; omega)
    | refine idx_map (by show _ < l.length; omega) (fun x hx => ?_)
    | refine need_app rfl (.inr rfl) rfl (of_decide_eq_true rfl) (one_cells rfl) (by show (List.map stepV l).length + 1 ≤ _; simp; omega) ?_
    | refine seq_go ?_
    | refine draw_i (by kernel_rfl) ?_
    | refine arith_in (by omega) ?_
    | refine need_i (p := (T.row _).eq = true) (by kernel_rfl) ?_
    | refine need_i (by omega) ?_
    | refine br_not ?_
    | refine br_dec (fun hd => ?_) (fun hd => ?_)
    | refine br_lt (fun hlt => ?_) (fun hlt => ?_)
    | refine br_le (fun hle => ?_) (fun hle => ?_)
    | refine br_eq (fun heq => ?_) (fun heq => ?_)
    | refine idx_map (by omega) (fun x hx => ?_)
    | refine live_i rfl (fun h => by cases h) ?_
    | refine ret_i ?_)
  · have hlast : l.getLast? = some x := by
      rw [List.getLast?_eq_getElem?, ← hx]; congr 1; omega
    conv => whnf
    refine ⟨⟨⟨rfl, .inr rfl, rfl, ?_⟩, trivial⟩, rfl, fun _ h => by cases h⟩
    show l.map stepV = (addP l s).map stepV
    simp only [addP, hlast]
    rw [if_pos heq]
  · have hlast : l.getLast? = some x := by
      rw [List.getLast?_eq_getElem?, ← hx]; congr 1; omega
    conv => whnf
    refine ⟨⟨⟨rfl, .inr rfl, rfl, ?_⟩, trivial⟩, rfl, fun _ h => by cases h⟩
    show l.map stepV ++ [stepV s] = (addP l s).map stepV
    simp only [addP, hlast]
    rw [if_neg heq]; simp
  · have hnil : l = [] := List.length_eq_zero_iff.1 (by omega)
    conv => whnf
    refine ⟨⟨⟨rfl, .inr rfl, rfl, ?_⟩, trivial⟩, rfl, fun _ h => by cases h⟩
    show l.map stepV ++ [stepV s] = (addP l s).map stepV
    simp [addP, hnil]
theorem add_spec (l : List (Int × Int)) (s : Int × Int) (hl : l.length ≤ 100000) : Sp 48 [.ap 80 (l.map stepV), stepV s] (.ap 80 ((addP l s).map stepV)) := sp_of Try.func48 (by kernel_rfl) (by kernel_rfl) (add_vc l s hl)

theorem merged_vc (H : Int → Int) {n : Nat} (hn : n ≤ 100000) : fnVC T Try.prog Try.f47 [.sl (hv H n)] (envV n (ofP H n)) := by
  have hs : (hv H n).length = n := hv_len H n
  repeat' ((conv => whnf); first
    | refine seq_go ?_
    | refine draw_i (by kernel_rfl) ?_
    | refine arith_in (by omega) ?_
    | refine need_i (p := (T.row _).eq = true) (by kernel_rfl) ?_
    | refine need_i (by omega) ?_
    | refine br_not ?_
    | refine br_dec (fun hd => ?_) (fun hd => ?_)
    | refine br_lt (fun hlt => ?_) (fun hlt => ?_)
    | refine br_le (fun hle => ?_) (fun hle => ?_)
    | refine br_eq (fun heq => ?_) (fun heq => ?_)
    | refine idx_map (by omega) (fun x hx => ?_)
    | refine live_i rfl (fun h => by cases h) ?_
    | refine ret_i ?_)
  refine loop_i (A := Nat) (fun j => mkSt [(2, .box 2 0), (3, .box 3 0), (9, .sl (hv H n)), (10, I n), (11, I j)] [(2, [I 0, .lit (.slice none 0 0)]), (3, [I n, .arr 21 j])] [(21, ⟨j, .ap, 80, (ofP H j).map stepV⟩)])
    (fun j => j ≤ n) (fun j => n - j) 0 ?_ (by omega) (fun j hj' => ?_)
  · refine le_mk ?_ ?_ ?_
    all_goals repeat' (first | exact trivial | refine And.intro ?_ ?_ | with_reducible rfl | exact Nat.le_refl _ | omega | exact rfl)
  · change j ≤ n at hj'
    have hlen := ofP_len H j
    repeat' ((conv => whnf); first
      | (refine need_sl ?_ ?_; omega)
      | (refine idx_hv ?_ ?_; omega)
      | refine call_i (add_spec (ofP H j) ((j : Int), H j) (by omega)) false (by repeat' (first | exact trivial | refine And.intro ?_ ?_ | with_reducible rfl | exact .inr rfl | exact rfl)) rfl ?_
      | refine seq_go ?_
      | refine draw_i (by kernel_rfl) ?_
      | refine arith_in (by omega) ?_
      | refine need_i (p := (T.row _).eq = true) (by kernel_rfl) ?_
      | refine need_i (by omega) ?_
      | refine br_not ?_
      | refine br_dec (fun hd => ?_) (fun hd => ?_)
      | refine br_lt (fun hlt => ?_) (fun hlt => ?_)
      | refine br_le (fun hle => ?_) (fun hle => ?_)
      | refine br_eq (fun heq => ?_) (fun heq => ?_)
      | refine idx_map (by omega) (fun x hx => ?_)
      | refine live_i rfl (fun h => by cases h) ?_
      | refine ret_i ?_)
    · refine ⟨j + 1, ?_, by omega, by omega⟩
      refine le_mk ?_ ?_ ?_
      all_goals repeat' (first | exact trivial | refine And.intro ?_ ?_ | with_reducible rfl | exact Nat.le_refl _ | omega | exact rfl)
      · show List.map stepV (addP (ofP H j) ((j : Int), H j)) = List.map stepV (ofP H (j + 1))
        rw [add_ofP]
    · have : j = n := by omega
      subst this
      conv => whnf
      exact ⟨⟨⟨rfl, ⟨rfl, (fun h => by cases h), rfl⟩, trivial⟩, trivial⟩, rfl, fun _ h => by cases h⟩
theorem merged_spec (H : Int → Int) {n : Nat} (hn : n ≤ 100000) : Sp 47 [.sl (hv H n)] (envV n (ofP H n)) := sp_of Try.func47 (by kernel_rfl) (by kernel_rfl) (merged_vc H hn)

end Go.Proofs.Env41
