/-
  The example of the document, and the first law.
-/
import Derived.Test.YtbmbfifobonfjaaW9
set_option linter.unusedVariables false
set_option linter.unusedSimpArgs false
namespace Go.Proofs.Env41
open Go Go.Proofs Go.Ab
set_option maxRecDepth 100000

theorem place_eval {W : Int} {l l' : Steps} {r : Int × Int} {p : Int × Int × Int} (h : Val W l) (hz : SizedP r.1 r.2) (hw : r.1 ≤ W) (hlim : topP l (bestP W l r.1) r.1 + r.2 ≤ 1000000) (hp : posP W l r.1 = p)
    (hl' : raiseP W l (bestP W l r.1) r.1 (topP l (bestP W l r.1) r.1 + r.2) = l') : placeP W l r = ((W, l'), p, 0) ∧ Val W l' := by
  have e : placeP W l r = ((W, l'), p, 0) := by
    unfold placeP
    rw [if_pos ⟨h, hz⟩, if_neg (by omega), if_neg (by show ¬ _ < topP l (bestP W l r.1) r.1 + r.2; omega)]
    show ((W, raiseP W l (bestP W l r.1) r.1 (topP l (bestP W l r.1) r.1 + r.2)), posP W l r.1, 0) = _
    rw [hp, hl']
  refine ⟨e, ?_⟩
  have := (place_val (W := W) (l := l) (r := r) (by rw [e])).2
  rw [e] at this
  exact this
theorem pack_one {W : Int} {l l' : Steps} {out : List (Int × Int × Int)} {r : Int × Int} {p : Int × Int × Int} (h : placeP W l r = ((W, l'), p, 0)) : packOne W (l, out, 0) r = (l', out ++ [p], 0) := by
  unfold packOne
  rw [if_neg (by simp), h, if_neg (by simp)]
theorem pack_ex : packP 5 [(3, 2), (2, 1), (3, 1), (2, 2)] = ((5, [(0, 3)]), [(0, 0, 0), (3, 0, 0), (0, 2, 0), (3, 1, 0)], 0) ∧ Val 5 [(0, 3)] := by
  have v0 : Val 5 [(0, 0)] := new_val (by omega)
  obtain ⟨e1, v1⟩ := place_eval (r := (3, 2)) (l' := [(0, 2), (3, 0)]) (p := (0, 0, 0)) v0 (by unfold SizedP; decide) (by decide) (by decide +kernel) (by decide +kernel) (by decide +kernel)
  obtain ⟨e2, v2⟩ := place_eval (r := (2, 1)) (l' := [(0, 2), (3, 1)]) (p := (3, 0, 0)) v1 (by unfold SizedP; decide) (by decide) (by decide +kernel) (by decide +kernel) (by decide +kernel)
  obtain ⟨e3, v3⟩ := place_eval (r := (3, 1)) (l' := [(0, 3), (3, 1)]) (p := (0, 2, 0)) v2 (by unfold SizedP; decide) (by decide) (by decide +kernel) (by decide +kernel) (by decide +kernel)
  obtain ⟨e4, v4⟩ := place_eval (r := (2, 2)) (l' := [(0, 3)]) (p := (3, 1, 0)) v3 (by unfold SizedP; decide) (by decide) (by decide +kernel) (by decide +kernel) (by decide +kernel)
  refine ⟨?_, v4⟩
  have e : packS 5 [(3, 2), (2, 1), (3, 1), (2, 2)] = ([(0, 3)], [(0, 0, 0), (3, 0, 0), (0, 2, 0), (3, 1, 0)], 0) := by
    unfold packS
    rw [List.foldl_cons, pack_one e1, List.foldl_cons, pack_one e2, List.foldl_cons, pack_one e3, List.foldl_cons, pack_one e4]; rfl
  unfold packP
  rw [if_pos (by omega), if_neg (by decide), e, if_neg (by simp)]

theorem awake_vc : fnVC T Try.prog Try.f10 [] (B true) := by
  obtain ⟨hex, hv⟩ := pack_ex
  have hpack : Sp 29 [I 5, .sl (List.map stepV [(3, 2), (2, 1), (3, 1), (2, 2)])] (.tup [envV 5 [(0, 3)], .sl (List.map plV [(0, 0, 0), (3, 0, 0), (0, 2, 0), (3, 1, 0)]), I 0]) := by
    have := Pack_spec (W := 5) (rs := [(3, 2), (2, 1), (3, 1), (2, 2)]) (by decide)
    unfold packR at this
    rw [hex] at this
    exact this
  have hvalid : Sp 23 [envV 5 [(0, 3)]] (B true) := by
    have := valid_spec 5 [(0, 3)] (by decide)
    rw [show decB (Val 5 [(0, 3)]) = true from decB_t.2 hv] at this
    exact this
  have hheight : Sp 19 [envV 5 [(0, 3)], I 4] (I 3) := by
    have := Height_spec (W := 5) (x0 := 4) (l := [(0, 3)]) (by decide)
    unfold heightP at this
    rw [if_pos ⟨hv, by omega, by omega⟩] at this
    exact this
  have harea : Sp 25 [envV 5 [(0, 3)]] (I 15) := by
    have := Area_spec (W := 5) (l := [(0, 3)]) (by decide)
    unfold areaP at this
    rw [if_pos hv] at this
    exact this
  have hlen : (List.map plV [(0, 0, 0), (3, 0, 0), (0, 2, 0), (3, 1, 0)]).length = 4 := rfl
  repeat' ((conv => whnf); first
    | (exfalso; omega)
    | refine br_three (fun hp => ?_) (fun hp => absurd ⟨rfl, rfl, rfl⟩ hp)
    | refine call_i (hpack) false (by repeat' (first | exact trivial | refine And.intro ?_ ?_ | with_reducible rfl | exact (fun h => by cases h) | exact rfl)) rfl ?_
    | refine call_i (hvalid) false (by repeat' (first | exact trivial | refine And.intro ?_ ?_ | with_reducible rfl | exact (fun h => by cases h) | exact rfl)) rfl ?_
    | refine call_i (hheight) false (by repeat' (first | exact trivial | refine And.intro ?_ ?_ | with_reducible rfl | exact (fun h => by cases h) | exact rfl)) rfl ?_
    | refine call_i (harea) false (by repeat' (first | exact trivial | refine And.intro ?_ ?_ | with_reducible rfl | exact (fun h => by cases h) | exact rfl)) rfl ?_
    | refine idx_at (l := [(0, 0, 0), (3, 0, 0), (0, 2, 0), (3, 1, 0)]) (i := (2 : Int).toNat) (s := (0, 2, 0)) rfl ?_
    | refine idx_at (l := [(0, 0, 0), (3, 0, 0), (0, 2, 0), (3, 1, 0)]) (i := (3 : Int).toNat) (s := (3, 1, 0)) rfl ?_
    | refine seq_go ?_
    | refine draw_i (by kernel_rfl) ?_
    | refine arith_in (by omega) ?_
    | refine need_i (p := (T.row _).eq = true) (by kernel_rfl) ?_
    | refine need_i (by omega) ?_
    | refine br_not ?_
    | refine br_dec (fun hd => ?_) (fun hd => ?_)
    | refine br_lt (fun hlt => ?_) (fun hlt => ?_)
    | refine br_le (fun hle => ?_) (fun hle => ?_)
    | refine br_eq (fun heq => ?_) (fun heq => ?_)
    | refine idx_map (by omega) (fun x hx => ?_)
    | refine live_i rfl (fun h => by cases h) ?_
    | refine ret_i ?_)
  exact ret_bool (eqB_t.2 rfl)
theorem awake_spec : Sp 10 [] (B true) := sp_of Try.func10 (by kernel_rfl) (by kernel_rfl) awake_vc

theorem law_place {W : Int} {l : List (Int × Int)} {r : Int × Int} : fnVC T Try.prog Try.f3 [envV W l, stepV r] (B true) := by
  by_cases hf : W ≤ 200 ∧ l.length ≤ 250
  · have hlen : (placeP W l r).1.2.length ≤ 10000 := by
      by_cases h0 : (placeP W l r).2.2 = 0
      · have := (place_val h0).2.len; omega
      · have : (placeP W l r).1.2 = [] := by
          unfold placeP at h0 ⊢
          split
          · rename_i h1
            rw [if_pos h1] at h0
            split
            · rfl
            · rename_i h2
              rw [if_neg h2] at h0
              split
              · rfl
              · rename_i h3
                rw [if_neg h3] at h0
                exact absurd rfl h0
          · rfl
        rw [this]; simp
    repeat' ((conv => whnf); first
      | refine br_dec (fun hd => ?_) (fun hd => absurd (by first | assumption | exact ⟨rfl, rfl⟩) hd)
      | refine br_three (fun hp => ?_) (fun hp => absurd ⟨rfl, rfl, rfl⟩ hp)
      | (exfalso; omega)
      | refine call_i (awake_spec) false (by repeat' (first | exact trivial | refine And.intro ?_ ?_ | with_reducible rfl | exact (fun h => by cases h) | exact rfl)) rfl ?_
      | refine call_i (few_spec W l) false (by repeat' (first | exact trivial | refine And.intro ?_ ?_ | with_reducible rfl | exact (fun h => by cases h) | exact rfl)) rfl ?_
      | refine call_i (own_spec W l (by omega)) false (by repeat' (first | exact trivial | refine And.intro ?_ ?_ | with_reducible rfl | exact (fun h => by cases h) | exact rfl)) rfl ?_
      | refine call_i (Place_spec (W := W) (l := l) (r := r) (by omega)) false (by repeat' (first | exact trivial | refine And.intro ?_ ?_ | with_reducible rfl | exact (fun h => by cases h) | exact rfl)) rfl ?_
      | refine call_i (rPlace_spec (W := W) (l := l) (r := r) (by omega)) false (by repeat' (first | exact trivial | refine And.intro ?_ ?_ | with_reducible rfl | exact (fun h => by cases h) | exact rfl)) rfl ?_
      | refine call_i (theirs_spec (placeP W l r).1.1 (placeP W l r).1.2 (by omega)) false (by repeat' (first | exact trivial | refine And.intro ?_ ?_ | with_reducible rfl | exact (fun h => by cases h) | exact rfl)) rfl ?_
      | refine call_i (equal_spec (placeP W l r).1.1 (placeP W l r).1.1 (placeP W l r).1.2 (placeP W l r).1.2 (by omega)) false (by repeat' (first | exact trivial | refine And.intro ?_ ?_ | with_reducible rfl | exact (fun h => by cases h) | exact rfl)) rfl ?_
      | refine seq_go ?_
      | refine draw_i (by kernel_rfl) ?_
      | refine arith_in (by omega) ?_
      | refine need_i (p := (T.row _).eq = true) (by kernel_rfl) ?_
      | refine need_i (by omega) ?_
      | refine br_not ?_
      | refine br_dec (fun hd => ?_) (fun hd => ?_)
      | refine br_lt (fun hlt => ?_) (fun hlt => ?_)
      | refine br_le (fun hle => ?_) (fun hle => ?_)
      | refine br_eq (fun heq => ?_) (fun heq => ?_)
      | refine idx_map (by omega) (fun x hx => ?_)
      | refine live_i rfl (fun h => by cases h) ?_
      | refine ret_i ?_)
    exact ret_bool (decB_t.2 ⟨rfl, rfl⟩)
  · repeat' ((conv => whnf); first
      | refine br_dec (fun hd => absurd hd hf) (fun hd => ?_)
      | refine call_i (awake_spec) false (by repeat' (first | exact trivial | refine And.intro ?_ ?_ | with_reducible rfl | exact (fun h => by cases h) | exact rfl)) rfl ?_
      | refine call_i (few_spec W l) false (by repeat' (first | exact trivial | refine And.intro ?_ ?_ | with_reducible rfl | exact (fun h => by cases h) | exact rfl)) rfl ?_
      | refine seq_go ?_
      | refine draw_i (by kernel_rfl) ?_
      | refine arith_in (by omega) ?_
      | refine need_i (p := (T.row _).eq = true) (by kernel_rfl) ?_
      | refine need_i (by omega) ?_
      | refine br_not ?_
      | refine br_dec (fun hd => ?_) (fun hd => ?_)
      | refine br_lt (fun hlt => ?_) (fun hlt => ?_)
      | refine br_le (fun hle => ?_) (fun hle => ?_)
      | refine br_eq (fun heq => ?_) (fun heq => ?_)
      | refine idx_map (by omega) (fun x hx => ?_)
      | refine live_i rfl (fun h => by cases h) ?_
      | refine ret_i ?_)
    exact ret_bool rfl
theorem law_place_spec {W : Int} {l : List (Int × Int)} {r : Int × Int} : Sp 3 [envV W l, stepV r] (B true) := sp_of Try.func3 (by kernel_rfl) (by kernel_rfl) law_place
end Go.Proofs.Env41
