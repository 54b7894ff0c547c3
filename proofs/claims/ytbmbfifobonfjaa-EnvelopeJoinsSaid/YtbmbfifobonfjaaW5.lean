/-
  The functions of the envelopes, walked: raising.
-/
import Derived.Test.YtbmbfifobonfjaaW4
set_option linter.unusedVariables false
set_option linter.unusedSimpArgs false
namespace Go.Proofs.Env41
open Go Go.Proofs Go.Ab
set_option maxRecDepth 100000

theorem addP_len (l : Steps) (s : Int × Int) : (addP l s).length ≤ l.length + 1 := by
  unfold addP
  split
  · split
    · omega
    · simp
  · simp
theorem fold_len : ∀ (r l : Steps), (r.foldl addP l).length ≤ l.length + r.length
  | [], l => by simp
  | s :: r, l => by
    rw [List.foldl_cons]
    have h1 := fold_len r (addP l s)
    have h2 := addP_len l s
    simp only [List.length_cons]; omega
theorem steps_cells (l : Steps) : ∀ x ∈ l.map stepV, x.cells.length = 2 := by
  intro x hx
  obtain ⟨s, _, rfl⟩ := List.mem_map.1 hx
  rfl
theorem cap_give {l : Steps} {L : List V} {ar : Nat → Option AE} {s : Int × Int} (h : L = l.map stepV) : giveL T ar [.ap 80 (l.map stepV), stepV s] [.cap L, .agg [.lit (.int .i64 s.1), .lit (.int .i64 s.2)]] := by
  subst h
  exact ⟨⟨of_decide_eq_true (by kernel_rfl), steps_cells l, rfl⟩, ⟨rfl, rfl, trivial⟩, trivial⟩
theorem need_app2 {en : AE} {g e bytes size : Nat} {xs : List V} {K : Prop} (h1 : en.gen = g) (h2 : en.kind = .own ∨ en.kind = .ap) (h3 : en.ty = e) (hb : bytes ≤ 10000) (h5 : ∀ x ∈ xs, x.cells.length = size) (h4 : en.l.length + xs.length ≤ 1000000000) (hk : K) :
    need (en.gen = g ∧ (en.kind = .own ∨ en.kind = .ap) ∧ en.ty = e ∧ (en.l.length + xs.length) * bytes ≤ 140737488355328 ∧ en.l.length + xs.length ≤ 140737488355328 ∧ ∀ x ∈ xs, x.cells.length = size) K := need_app h1 h2 h3 hb h5 h4 hk

theorem raise_vc {W x0 w y : Int} {l : List (Int × Int)} (h : Val W l) (hl : l.length ≤ 10000) (hr : InP W x0 w) : fnVC T Try.prog Try.f38 [envV W l, I x0, I w, I y] (envV W (raiseP W l x0 w y)) := by
  have hs : (l.map stepV).length = l.length := by simp
  have hW := h.1
  have hW2 := h.2.1
  obtain ⟨hx0, hw1, hxw⟩ := hr
  repeat' ((conv => whnf); first
    | refine seq_go ?_
    | refine draw_i (by kernel_rfl) ?_
    | refine arith_in (by omega) ?_
    | refine need_i (p := (T.row _).eq = true) (by kernel_rfl) ?_
    | refine need_i (by omega) ?_
    | refine br_not ?_
    | refine br_dec (fun hd => ?_) (fun hd => ?_)
    | refine br_lt (fun hlt => ?_) (fun hlt => ?_)
    | refine br_le (fun hle => ?_) (fun hle => ?_)
    | refine br_eq (fun heq => ?_) (fun heq => ?_)
    | refine idx_map (by omega) (fun x hx => ?_)
    | refine live_i rfl (fun h => by cases h) ?_
    | refine ret_i ?_)
  refine loop_i (A := Nat) (fun j => mkSt [(1, I x0), (2, I w), (3, I y), (4, .box 4 0), (8, .box 8 0), (9, I j)] [(4, [I W, .sl (l.map stepV)]), (8, [I 0, .lit (.slice none 0 0)])] [])
    (fun j => j ≤ l.length ∧ ∀ i, i < j → begP W l i < x0) (fun j => l.length - j) 0 ?_ ⟨by omega, fun i hi => by omega⟩ (fun j hj' => ?_)
  · refine le_mk ?_ ?_ ?_
    all_goals repeat' (first | exact trivial | refine And.intro ?_ ?_ | with_reducible rfl | exact Nat.le_refl _ | omega | exact rfl)
  · obtain ⟨hj1, hj2⟩ := hj'
    have hj4 : (j : Int).toNat = j := by omega
    have e1 : ((l.map stepV).take (j : Int).toNat).drop (0 : Int).toNat = (l.take j).map stepV := by rw [hj4]; simp
    have hend : x0 ≤ begP W l j → ∀ i, i + 1 = j → begP W l i < x0 := fun _ i hi => hj2 i (by omega)
    by_cases hlast : x0 + w < W
    · obtain ⟨i1, hi1, hb1, he1⟩ := find_step h (x := x0 + w) (by omega) hlast
      obtain ⟨s, hsj⟩ : ∃ s, l[i1]? = some s := ⟨l[i1], by simp⟩
      have hsj' : l[(i1 : Int).toNat]? = some s := by rw [show (i1 : Int).toNat = i1 by omega]; exact hsj
      rw [begP_some hsj] at hb1
      have e2 : ((l.map stepV).take (((l.map stepV).length : Nat) : Int).toNat).drop ((i1 : Int) + 1).toNat = (l.drop (i1 + 1)).map stepV := by
        rw [show ((i1 : Int) + 1).toNat = i1 + 1 by omega, show (((l.map stepV).length : Nat) : Int).toNat = (l.map stepV).length by omega, List.take_length, List.map_drop]
      have hal := addP_len (l.take j) (x0, y)
      have hal2 := addP_len (addP (l.take j) (x0, y)) (x0 + w, s.2)
      have htl : (l.take j).length ≤ l.length := by rw [List.length_take]; omega
      have e3 : (((l.map stepV).take (((l.map stepV).length : Nat) : Int).toNat).drop ((i1 : Int) + 1).toNat).length = (l.drop (i1 + 1)).length := by rw [e2]; simp
      have hdl : (l.drop (i1 + 1)).length ≤ l.length := by rw [List.length_drop]; omega
      have hdm : ((l.drop (i1 + 1)).map stepV).length = (l.drop (i1 + 1)).length := by simp
      repeat' ((conv => whnf); first
        | (exfalso; omega)
        | refine need_i ⟨by omega, by omega, by omega, by omega, .inl rfl⟩ ?_
        | refine call_i (add_spec (l.take j) (x0, y) (by omega)) false (cap_give e1) rfl ?_
        | refine call_i (add_spec (addP (l.take j) (x0, y)) (x0 + w, s.2) (by omega)) false (by repeat' (first | exact trivial | refine And.intro ?_ ?_ | with_reducible rfl | exact .inr rfl | exact rfl)) rfl ?_
        | refine call_i (at_spec (x := x0 + w) h (by omega) hi1 (by rw [begP_some hsj]; exact hb1) he1) false (by repeat' (first | exact trivial | refine And.intro ?_ ?_ | with_reducible rfl | exact rfl)) rfl ?_
        | refine idx_at hsj' ?_
        | refine need_i ⟨by omega, by omega, by omega, .inr (steps_cells l)⟩ ?_
        | refine seq_go ?_
        | refine arith_in (by omega) ?_
        | refine need_i (p := (T.row _).eq = true) (by kernel_rfl) ?_
        | refine need_i (by omega) ?_
        | refine br_not ?_
        | refine br_dec (fun hd => ?_) (fun hd => ?_)
        | refine br_lt (fun hlt => ?_) (fun hlt => ?_)
        | refine br_le (fun hle => ?_) (fun hle => ?_)
        | refine br_eq (fun heq => ?_) (fun heq => ?_)
        | refine idx_map (by omega) (fun x hx => ?_)
        | refine live_i rfl (fun h => by cases h) ?_
        | refine ret_i ?_)
      · refine ⟨j + 1, ?_, ⟨by omega, fun i hi => ?_⟩, by omega⟩
        · refine le_mk ?_ ?_ ?_
          all_goals repeat' (first | exact trivial | refine And.intro ?_ ?_ | with_reducible rfl | exact Nat.le_refl _ | omega | exact rfl)
        · rcases Nat.lt_or_ge i j with hij | hij
          · exact hj2 i hij
          · have : i = j := by omega
            subst this
            rw [hj4] at hx
            rw [begP_some hx]; omega
      all_goals
        have hjx : x0 ≤ begP W l j := by first | (rw [hj4] at hx; rw [begP_some hx]; omega) | (rw [begP_end (by omega)]; omega)
        refine loop_i (A := Nat) (fun m => mkSt [(4, .box 4 0), (8, .box 8 0), (10, .arr 39 (m + 1)), (67, .sl ((l.drop (i1 + 1)).map stepV)), (68, I (l.drop (i1 + 1)).length), (69, I m)] [(4, [I W, .sl (l.map stepV)]), (8, [I 0, .lit (.slice none 0 0)])]
            [(39, ⟨m + 1, .ap, 80, (((l.drop (i1 + 1)).take m).foldl addP (addP (addP (l.take j) (x0, y)) (x0 + w, s.2))).map stepV⟩)])
          (fun m => m ≤ (l.drop (i1 + 1)).length) (fun m => (l.drop (i1 + 1)).length - m) 0 ?_ (by omega) (fun m hm' => ?_)
        · refine le_mk ?_ ?_ ?_
          all_goals repeat' (first | exact trivial | refine And.intro ?_ ?_ | with_reducible rfl | exact Nat.le_refl _ | omega | exact rfl)
          · exact e2
        · change m ≤ (l.drop (i1 + 1)).length at hm'
          have hfl := fold_len ((l.drop (i1 + 1)).take m) (addP (addP (l.take j) (x0, y)) (x0 + w, s.2))
          have htm : ((l.drop (i1 + 1)).take m).length = m := by rw [List.length_take]; omega
          rcases Nat.lt_or_ge m (l.drop (i1 + 1)).length with hml | hml
          · obtain ⟨q, hq⟩ : ∃ q, (l.drop (i1 + 1))[m]? = some q := ⟨(l.drop (i1 + 1))[m], by simp⟩
            have hq' : (l.drop (i1 + 1))[(m : Int).toNat]? = some q := by rw [show (m : Int).toNat = m by omega]; exact hq
            repeat' ((conv => whnf); first
              | (exfalso; omega)
              | refine idx_at hq' ?_
              | refine call_i (add_spec (((l.drop (i1 + 1)).take m).foldl addP (addP (addP (l.take j) (x0, y)) (x0 + w, s.2))) q (by omega)) false (by repeat' (first | exact trivial | refine And.intro ?_ ?_ | with_reducible rfl | exact .inr rfl | exact rfl)) rfl ?_
              | refine seq_go ?_
              | refine draw_i (by kernel_rfl) ?_
              | refine arith_in (by omega) ?_
              | refine need_i (p := (T.row _).eq = true) (by kernel_rfl) ?_
              | refine need_i (by omega) ?_
              | refine br_not ?_
              | refine br_dec (fun hd => ?_) (fun hd => ?_)
              | refine br_lt (fun hlt => ?_) (fun hlt => ?_)
              | refine br_le (fun hle => ?_) (fun hle => ?_)
              | refine br_eq (fun heq => ?_) (fun heq => ?_)
              | refine idx_map (by omega) (fun x hx => ?_)
              | refine live_i rfl (fun h => by cases h) ?_
              | refine ret_i ?_)
            refine ⟨m + 1, ?_, by omega, by omega⟩
            refine le_mk ?_ ?_ ?_
            all_goals repeat' (first | exact trivial | refine And.intro ?_ ?_ | with_reducible rfl | exact Nat.le_refl _ | omega | exact rfl)
            · show (addP _ q).map stepV = _
              rw [List.take_add_one, hq, List.foldl_append]; rfl
          · have hmm : m = (l.drop (i1 + 1)).length := by omega
            subst hmm
            have hbig : (AE.mk 0 .own 80 ([] : List V)).l.length = 0 := rfl
            repeat' ((conv => whnf); first
              | (exfalso; omega)
              | refine draw_c [(4, 4), (77, 4)] ⟨rfl, trivial, trivial⟩ (by kernel_rfl) ?_
              | refine need_app rfl (.inl rfl) rfl (of_decide_eq_true rfl) (steps_cells _) (by show 0 + (List.map stepV _).length ≤ _; simp only [List.length_map]; omega) ?_
              | refine seq_go ?_
              | refine draw_i (by kernel_rfl) ?_
              | refine arith_in (by omega) ?_
              | refine need_i (p := (T.row _).eq = true) (by kernel_rfl) ?_
              | refine need_i (by omega) ?_
              | refine br_not ?_
              | refine br_dec (fun hd => ?_) (fun hd => ?_)
              | refine br_lt (fun hlt => ?_) (fun hlt => ?_)
              | refine br_le (fun hle => ?_) (fun hle => ?_)
              | refine br_eq (fun heq => ?_) (fun heq => ?_)
              | refine idx_map (by omega) (fun x hx => ?_)
              | refine live_i rfl (fun h => by cases h) ?_
              | refine ret_i ?_)
            conv => whnf
            refine ⟨⟨⟨rfl, ⟨rfl, (fun h => by cases h), ?_⟩, trivial⟩, trivial⟩, rfl, fun _ h => by cases h⟩
            show [] ++ List.map stepV _ = List.map stepV (raiseP W l x0 w y)
            rw [List.nil_append, List.take_length, raise_part h hx0 hw1 hlast hj1 (hend hjx) hjx hsj hb1 he1]
    · have hal := addP_len (l.take j) (x0, y)
      have htl : (l.take j).length ≤ l.length := by rw [List.length_take]; omega
      repeat' ((conv => whnf); first
        | (exfalso; omega)
        | refine need_i ⟨by omega, by omega, by omega, by omega, .inl rfl⟩ ?_
        | refine call_i (add_spec (l.take j) (x0, y) (by omega)) false (cap_give e1) rfl ?_
        | refine draw_c [(4, 4), (77, 4)] ⟨rfl, trivial, trivial⟩ (by kernel_rfl) ?_
        | refine need_app rfl (.inl rfl) rfl (of_decide_eq_true rfl) (steps_cells _) (by show 0 + (List.map stepV _).length ≤ _; simp only [List.length_map]; omega) ?_
        | refine seq_go ?_
        | refine arith_in (by omega) ?_
        | refine need_i (p := (T.row _).eq = true) (by kernel_rfl) ?_
        | refine need_i (by omega) ?_
        | refine br_not ?_
        | refine br_dec (fun hd => ?_) (fun hd => ?_)
        | refine br_lt (fun hlt => ?_) (fun hlt => ?_)
        | refine br_le (fun hle => ?_) (fun hle => ?_)
        | refine br_eq (fun heq => ?_) (fun heq => ?_)
        | refine idx_map (by omega) (fun x hx => ?_)
        | refine live_i rfl (fun h => by cases h) ?_
        | refine ret_i ?_)
      · refine ⟨j + 1, ?_, ⟨by omega, fun i hi => ?_⟩, by omega⟩
        · refine le_mk ?_ ?_ ?_
          all_goals repeat' (first | exact trivial | refine And.intro ?_ ?_ | with_reducible rfl | exact Nat.le_refl _ | omega | exact rfl)
        · rcases Nat.lt_or_ge i j with hij | hij
          · exact hj2 i hij
          · have : i = j := by omega
            subst this
            rw [hj4] at hx
            rw [begP_some hx]; omega
      all_goals
        have hjx : x0 ≤ begP W l j := by first | (rw [hj4] at hx; rw [begP_some hx]; omega) | (rw [begP_end (by omega)]; omega)
        conv => whnf
        refine ⟨⟨⟨rfl, ⟨rfl, (fun h => by cases h), ?_⟩, trivial⟩, trivial⟩, rfl, fun _ h => by cases h⟩
        show [] ++ List.map stepV _ = List.map stepV (raiseP W l x0 w y)
        rw [List.nil_append, raise_all h hx0 hw1 (by omega) hj1 (hend hjx) hjx]
theorem raise_spec {W x0 w y : Int} {l : List (Int × Int)} (h : Val W l) (hl : l.length ≤ 10000) (hr : InP W x0 w) : Sp 38 [envV W l, I x0, I w, I y] (envV W (raiseP W l x0 w y)) := sp_of Try.func38 (by kernel_rfl) (by kernel_rfl) (raise_vc h hl hr)

open Classical in
/-- what Raise answers -/
noncomputable def raiseR (W : Int) (l : Steps) (x w y : Int) : V :=
  if Val W l then (if InP W x w ∧ 0 ≤ y ∧ y ≤ 1000000 then .tup [envV W (raiseP W l x w y), I 0] else .tup [envV 0 [], I 2]) else .tup [envV 0 [], I 1]
theorem Raise_vc {W x0 w y : Int} {l : List (Int × Int)} (hl : l.length ≤ 10000) : fnVC T Try.prog Try.f21 [envV W l, I x0, I w, I y] (raiseR W l x0 w y) := by
  unfold raiseR
  by_cases h : Val W l
  · rw [if_pos h]
    by_cases hr : InP W x0 w ∧ 0 ≤ y ∧ y ≤ 1000000
    · rw [if_pos hr]
      repeat' ((conv => whnf); first
        | refine br_dec (fun hd => ?_) (fun hd => absurd (by first | assumption | exact hr.1 | exact hr.2) hd)
        | refine call_i (valid_spec W l (by omega)) false (by repeat' (first | exact trivial | refine And.intro ?_ ?_ | with_reducible rfl | exact rfl)) rfl ?_
        | refine call_i (ranged_spec W x0 w l ⟨h.1, h.2.1⟩) false (by repeat' (first | exact trivial | refine And.intro ?_ ?_ | with_reducible rfl | exact rfl)) rfl ?_
        | refine call_i (in_spec _ _ _) false (by repeat' (first | exact trivial | refine And.intro ?_ ?_ | with_reducible rfl | exact rfl)) rfl ?_
        | refine call_i (raise_spec h hl hr.1) false (by repeat' (first | exact trivial | refine And.intro ?_ ?_ | with_reducible rfl | exact rfl)) rfl ?_
        | refine seq_go ?_
        | refine draw_i (by kernel_rfl) ?_
        | refine arith_in (by omega) ?_
        | refine need_i (p := (T.row _).eq = true) (by kernel_rfl) ?_
        | refine need_i (by omega) ?_
        | refine br_not ?_
        | refine br_dec (fun hd => ?_) (fun hd => ?_)
        | refine br_lt (fun hlt => ?_) (fun hlt => ?_)
        | refine br_le (fun hle => ?_) (fun hle => ?_)
        | refine br_eq (fun heq => ?_) (fun heq => ?_)
        | refine idx_map (by omega) (fun x hx => ?_)
        | refine live_i rfl (fun h => by cases h) ?_
        | refine ret_i ?_)
      conv => whnf
      exact ⟨_, rfl, ⟨⟨rfl, rfl, trivial⟩, rfl, trivial⟩, rfl⟩
    · rw [if_neg hr]
      repeat' ((conv => whnf); first
        | refine br_dec (fun hd => ?_) (fun hd => absurd h hd)
        | refine call_i (valid_spec W l (by omega)) false (by repeat' (first | exact trivial | refine And.intro ?_ ?_ | with_reducible rfl | exact rfl)) rfl ?_
        | refine call_i (ranged_spec W x0 w l ⟨h.1, h.2.1⟩) false (by repeat' (first | exact trivial | refine And.intro ?_ ?_ | with_reducible rfl | exact rfl)) rfl ?_
        | refine call_i (in_spec _ _ _) false (by repeat' (first | exact trivial | refine And.intro ?_ ?_ | with_reducible rfl | exact rfl)) rfl ?_
        | exact absurd ⟨by assumption, by assumption⟩ hr
        | refine seq_go ?_
        | refine draw_i (by kernel_rfl) ?_
        | refine arith_in (by omega) ?_
        | refine need_i (p := (T.row _).eq = true) (by kernel_rfl) ?_
        | refine need_i (by omega) ?_
        | refine br_not ?_
        | refine br_dec (fun hd => ?_) (fun hd => ?_)
        | refine br_lt (fun hlt => ?_) (fun hlt => ?_)
        | refine br_le (fun hle => ?_) (fun hle => ?_)
        | refine br_eq (fun heq => ?_) (fun heq => ?_)
        | refine idx_map (by omega) (fun x hx => ?_)
        | refine live_i rfl (fun h => by cases h) ?_
        | refine ret_i ?_)
      all_goals
        conv => whnf
        exact ⟨_, rfl, ⟨⟨rfl, rfl, trivial⟩, rfl, trivial⟩, rfl⟩
  · rw [if_neg h]
    repeat' ((conv => whnf); first
      | refine br_dec (fun hd => absurd hd (by assumption)) (fun hd => ?_)
      | refine call_i (valid_spec W l (by omega)) false (by repeat' (first | exact trivial | refine And.intro ?_ ?_ | with_reducible rfl | exact rfl)) rfl ?_
      | refine seq_go ?_
      | refine draw_i (by kernel_rfl) ?_
      | refine arith_in (by omega) ?_
      | refine need_i (p := (T.row _).eq = true) (by kernel_rfl) ?_
      | refine need_i (by omega) ?_
      | refine br_not ?_
      | refine br_dec (fun hd => ?_) (fun hd => ?_)
      | refine br_lt (fun hlt => ?_) (fun hlt => ?_)
      | refine br_le (fun hle => ?_) (fun hle => ?_)
      | refine br_eq (fun heq => ?_) (fun heq => ?_)
      | refine idx_map (by omega) (fun x hx => ?_)
      | refine live_i rfl (fun h => by cases h) ?_
      | refine ret_i ?_)
    conv => whnf
    exact ⟨_, rfl, ⟨⟨rfl, rfl, trivial⟩, rfl, trivial⟩, rfl⟩
theorem Raise_spec {W x0 w y : Int} {l : List (Int × Int)} (hl : l.length ≤ 10000) : Sp 21 [envV W l, I x0, I w, I y] (raiseR W l x0 w y) := sp_of Try.func21 (by kernel_rfl) (by kernel_rfl) (Raise_vc hl)
end Go.Proofs.Env41
