/-
  The law of packed rectangles.
-/
import Derived.Test.YtbmbfifobonfjaaW16
set_option linter.unusedVariables false
set_option linter.unusedSimpArgs false
namespace Go.Proofs.Env41
open Go Go.Proofs Go.Ab
set_option maxRecDepth 100000

theorem rests_succ {rs : List (Int × Int)} {out : List (Int × Int × Int)} {i k : Nat} {r s : Int × Int} {p q : Int × Int × Int} (hs : rs[k]? = some s) (hq : out[k]? = some q) :
    RestsP rs out i r p (k + 1) ↔ (RestsP rs out i r p k ∨ (p.1 < q.1 + s.1 ∧ q.1 < p.1 + r.1 ∧ q.2.1 + s.2 = p.2.1)) := by
  unfold RestsP
  constructor
  · rintro (h | ⟨k', s', q', h1, h2, h3, h4⟩)
    · exact .inl (.inl h)
    · rcases Nat.lt_or_ge k' k with h5 | h5
      · exact .inl (.inr ⟨k', s', q', h5, h2, h3, h4⟩)
      · have : k' = k := by omega
        subst this
        rw [hs] at h2; cases h2
        rw [hq] at h3; cases h3
        exact .inr h4
  · rintro ((h | ⟨k', s', q', h1, h2⟩) | h)
    · exact .inl h
    · exact .inr ⟨k', s', q', by omega, h2⟩
    · exact .inr ⟨k, s, q, by omega, hs, hq, h⟩
theorem pos_waste {W : Int} {rs : List (Int × Int)} (h : (packS W rs).2.2 = 0) {i : Nat} {r : Int × Int} {p : Int × Int × Int} (hr : rs[i]? = some r) (hp : (packS W rs).2.1[i]? = some p) : 0 ≤ p.2.2 ∧ p.2.2 ≤ 2000000000 := by
  obtain ⟨k1, k2, k3, k4, e⟩ := pack_at h hr
  rw [out_at h hr] at hp
  cases hp
  have hb := bestP_bd W (lAt W rs i) r.1 k3
  have := k2.1.1
  exact wasteP_bd k1 hb.1 (by omega) hb.2

set_option maxHeartbeats 4000000 in
theorem law_packed {W : Int} {rs : List (Int × Int)} : fnVC T Try.prog Try.f8 [I W, .sl (rs.map stepV)] (B true) := by
  have hs : (rs.map stepV).length = rs.length := by simp
  by_cases hg : 200 < W ∨ 40 < rs.length
  · repeat' ((conv => whnf); first
      | (exfalso; omega)
      | (refine call_i (awake_spec) false ?_ rfl ?_; focus ((repeat' (first | exact trivial | refine And.intro ?_ ?_ | with_reducible rfl | exact (fun h => by cases h) | exact rfl)); done))
      | refine seq_go ?_
      | refine draw_i (by kernel_rfl) ?_
      | refine arith_in (by omega) ?_
      | refine need_i (p := (T.row _).eq = true) (by kernel_rfl) ?_
      | refine need_i (by omega) ?_
      | refine br_not ?_
      | refine br_dec (fun hd => ?_) (fun hd => ?_)
      | refine br_lt (fun hlt => ?_) (fun hlt => ?_)
      | refine br_le (fun hle => ?_) (fun hle => ?_)
      | refine br_eq (fun heq => ?_) (fun heq => ?_)
      | refine idx_map (by omega) (fun x hx => ?_)
      | refine live_i rfl (fun h => by cases h) ?_
      | refine ret_i ?_)
    all_goals exact ret_bool rfl
  · have p1 := Pack_spec (W := W) (rs := rs) (by omega)
    unfold packR at p1
    by_cases hok : (1 ≤ W ∧ W ≤ 2000) ∧ (packS W rs).2.2 = 0
    · obtain ⟨hW, h⟩ := hok
      have e0 : packP W rs = ((W, (packS W rs).1), (packS W rs).2.1, 0) := by
        unfold packP
        rw [if_pos hW, if_neg (by omega), if_neg (by simp [h])]
      rw [e0] at p1
      have q1 := Profile_spec (W := W) (rs := rs) (ps := (packS W rs).2.1)
      have e1 : profP W rs (packS W rs).2.1 = ((W, (packS W rs).1), 0) := by
        unfold profP
        rw [if_pos hW, if_pos ⟨(out_all h).symm, by omega, pack_sized h _⟩, if_pos (pack_in h _), ← pack_prof hW h]
      unfold profR at q1
      rw [e1] at q1
      have hv : Val W (packS W rs).1 := pack_val hW h
      have hvl := hv.len
      have ar := Area_spec (W := W) (l := (packS W rs).1) (by omega)
      unfold areaP at ar
      rw [if_pos hv] at ar
      have hab := fun (k i : Nat) (hki : k < i) (s r : Int × Int) (q p : Int × Int × Int) => pos_above hW h (k := k) (i := i) hki (s := s) (r := r) (q := q) (p := p)
      have hre := fun (i : Nat) (r : Int × Int) (p : Int × Int × Int) => pos_rests hW h (i := i) (r := r) (p := p)
      have hin := pack_in h rs.length
      have hsz := pack_sized h rs.length
      have hws := fun (i : Nat) (r : Int × Int) (p : Int × Int × Int) => pos_waste h (i := i) (r := r) (p := p)
      have har := fun (i : Nat) (r : Int × Int) (p : Int × Int × Int) => area_pack h (i := i) (r := r) (p := p)
      have ha0 : sumR (colF (lAt W rs 0)) 0 W.toNat = 0 := area_zero hW
      have hbd := fun i => area_bd (lAt_val hW h i) (n := W.toNat) (by omega)
      have hol := out_all h
      have ar' : Sp 25 [envV W (packS W rs).1] (I (sumR (colF (lAt W rs rs.length)) 0 W.toNat)) := by rw [lAt_all]; exact ar
      generalize (packS W rs).2.1 = O at p1 q1 hab hre hin hws har hol
      generalize (packS W rs).1 = v at p1 q1 ar' hv hvl
      generalize hA : (fun i => sumR (colF (lAt W rs i)) 0 W.toNat) = A
      have hA' : ∀ i, sumR (colF (lAt W rs i)) 0 W.toNat = A i := fun i => by rw [← hA]
      simp only [hA'] at ar' har ha0 hbd
      clear ar e0 e1 hA hA'
      have hs2 : (O.map plV).length = O.length := by simp
      simp only at p1 q1
      repeat' ((conv => whnf); first
        | (exfalso; omega)
        | (refine call_i (awake_spec) false ?_ rfl ?_; focus ((repeat' (first | exact trivial | refine And.intro ?_ ?_ | with_reducible rfl | exact (fun h => by cases h) | exact rfl)); done))
        | (refine call_i (rects_spec rs (by omega)) false ?_ rfl ?_; focus ((repeat' (first | exact trivial | refine And.intro ?_ ?_ | with_reducible rfl | exact (fun h => by cases h) | exact rfl)); done))
        | (refine call_i (p1) false ?_ rfl ?_; focus ((repeat' (first | exact trivial | refine And.intro ?_ ?_ | with_reducible rfl | exact (fun h => by cases h) | exact rfl)); done))
        | refine seq_go ?_
        | refine draw_i (by kernel_rfl) ?_
        | refine arith_in (by omega) ?_
        | refine need_i (p := (T.row _).eq = true) (by kernel_rfl) ?_
        | refine need_i (by omega) ?_
        | refine br_not ?_
        | refine br_dec (fun hd => ?_) (fun hd => ?_)
        | refine br_lt (fun hlt => ?_) (fun hlt => ?_)
        | refine br_le (fun hle => ?_) (fun hle => ?_)
        | refine br_eq (fun heq => ?_) (fun heq => ?_)
        | refine idx_map (by omega) (fun x hx => ?_)
        | refine live_i rfl (fun h => by cases h) ?_
        | refine ret_i ?_)
      refine loop_i (A := Nat) (fun i => mkSt [(0, I W), (1, .sl (rs.map stepV)), (5, .box 5 0), (6, .sl (O.map plV)), (8, I (A i)), (46, .sl (O.map plV)), (47, I O.length), (48, I i)] [(5, [I W, .sl (v.map stepV)])] [])
        (fun i => i ≤ O.length) (fun i => O.length - i) 0 ?_ (by omega) (fun i hi' => ?_)
      · refine le_mk ?_ ?_ ?_
        all_goals repeat' (first | exact trivial | refine And.intro ?_ ?_ | with_reducible rfl | exact Nat.le_refl _ | omega | exact rfl)
      · change i ≤ O.length at hi'
        rcases Nat.lt_or_ge i O.length with hil | hil
        · obtain ⟨r, hr⟩ : ∃ r, rs[i]? = some r := ⟨rs[i], by simp⟩
          obtain ⟨p, hp⟩ : ∃ p, O[i]? = some p := ⟨O[i], by simp⟩
          have hr' : rs[(i : Int).toNat]? = some r := by rw [show (i : Int).toNat = i by omega]; exact hr
          have hp' : O[(i : Int).toNat]? = some p := by rw [show (i : Int).toNat = i by omega]; exact hp
          obtain ⟨⟨z1, z2⟩, z3, z4⟩ := hsz i r (by omega) hr
          obtain ⟨a1, a2, a3, a4⟩ := hin i r p (by omega) hr hp
          have hw := hws i r p hr hp
          have ha := har i r p hr hp
          have hb1 := hbd i
          have hb2 := hbd (i + 1)
          have hm1 : 0 ≤ r.1 * r.2 := Int.mul_nonneg (by omega) (by omega)
          have hm2 : r.1 * r.2 ≤ 2000 * 2000 := Int.mul_le_mul z2 z4 (by omega) (by omega)
          have htk : ((O.map plV).take (i : Int).toNat).drop (0 : Int).toNat = (O.take i).map plV := by rw [show (i : Int).toNat = i by omega]; simp
          have htl : (O.take i).length = i := by rw [List.length_take]; omega
          have htl2 : (((O.map plV).take (i : Int).toNat).drop (0 : Int).toNat).length = i := by rw [htk, List.length_map, htl]
          have hr0 : RestsP rs O i r p 0 ↔ p.2.1 = 0 := ⟨fun hh => by
            rcases hh with hh | ⟨k, _, _, hk, _⟩
            · exact hh
            · omega, fun hh => .inl hh⟩
          repeat' ((conv => whnf); first
            | (exfalso; omega)
            | refine idx_at hp' ?_
            | refine idx_at hr' ?_
            | refine arith_mul (by omega) (by omega) (by omega) (by omega) ?_
            | refine need_i ⟨by omega, by omega, by omega, .inl rfl⟩ ?_
            | refine seq_go ?_
            | refine draw_i (by kernel_rfl) ?_
            | refine arith_in (by omega) ?_
            | refine need_i (p := (T.row _).eq = true) (by kernel_rfl) ?_
            | refine need_i (by omega) ?_
            | refine br_not ?_
            | refine br_dec (fun hd => ?_) (fun hd => ?_)
            | refine br_lt (fun hlt => ?_) (fun hlt => ?_)
            | refine br_le (fun hle => ?_) (fun hle => ?_)
            | refine br_eq (fun heq => ?_) (fun heq => ?_)
            | refine idx_map (by omega) (fun x hx => ?_)
            | refine live_i rfl (fun h => by cases h) ?_
            | refine ret_i ?_)
          refine loop_i (A := Nat) (fun k => mkSt [(0, I W), (1, .sl (rs.map stepV)), (5, .box 5 0), (6, .sl (O.map plV)), (8, I (A (i + 1))), (10, .box 10 0), (11, .box 11 0), (12, B (decB (RestsP rs O i r p k))), (46, .sl (O.map plV)), (47, I O.length), (48, I i), (72, .sl ((O.take i).map plV)), (73, I i), (74, I k)]
              [(5, [I W, .sl (v.map stepV)]), (10, [I p.1, I p.2.1, I p.2.2]), (11, [I r.1, I r.2])] [])
            (fun k => k ≤ i) (fun k => i - k) 0 ?_ (by omega) (fun k hk' => ?_)
          · refine le_mk ?_ ?_ ?_
            all_goals repeat' (first | exact trivial | refine And.intro ?_ ?_ | with_reducible rfl | exact Nat.le_refl _ | omega | exact rfl)
            · exact eq_dec hr0.symm
            · exact htk
          · change k ≤ i at hk'
            rcases Nat.lt_or_ge k i with hki | hki
            · obtain ⟨s, hsk⟩ : ∃ s, rs[k]? = some s := ⟨rs[k], by simp⟩
              obtain ⟨q, hq⟩ : ∃ q, O[k]? = some q := ⟨O[k], by simp⟩
              have hsk' : rs[(k : Int).toNat]? = some s := by rw [show (k : Int).toNat = k by omega]; exact hsk
              have hq' : (O.take i)[(k : Int).toNat]? = some q := by rw [show (k : Int).toNat = k by omega, List.getElem?_take_of_lt hki]; exact hq
              have htl3 : ((O.take i).map plV).length = i := by rw [List.length_map, htl]
              obtain ⟨⟨y1, y2⟩, y3, y4⟩ := hsz k s (by omega) hsk
              obtain ⟨b1, b2, b3, b4⟩ := hin k s q (by omega) hsk hq
              have habk := hab k i hki s r q p hsk hr hq hp
              have hsucc := rests_succ (i := i) (r := r) (p := p) hsk hq
              repeat' ((conv => whnf); first
                | (exfalso; omega)
                | refine idx_at hq' ?_
                | refine idx_at hsk' ?_
                | refine seq_go ?_
                | refine draw_i (by kernel_rfl) ?_
                | refine arith_in (by omega) ?_
                | refine need_i (p := (T.row _).eq = true) (by kernel_rfl) ?_
                | refine need_i (by omega) ?_
                | refine br_not ?_
                | refine br_dec (fun hd => ?_) (fun hd => ?_)
                | refine br_lt (fun hlt => ?_) (fun hlt => ?_)
                | refine br_le (fun hle => ?_) (fun hle => ?_)
                | refine br_eq (fun heq => ?_) (fun heq => ?_)
                | refine idx_map (by omega) (fun x hx => ?_)
                | refine live_i rfl (fun h => by cases h) ?_
                | refine ret_i ?_)
              all_goals
                refine ⟨k + 1, ?_, (by show k + 1 ≤ i; omega), by omega⟩
                refine le_mk ?_ ?_ ?_
                all_goals repeat' (first | exact trivial | refine And.intro ?_ ?_ | with_reducible rfl | exact Nat.le_refl _ | omega | exact rfl)
                first
                | exact dec_ret (hsucc.2 (.inl hd))
                | exact dec_retf (fun hh => by
                    rcases hsucc.1 hh with hh | hh
                    · exact hd hh
                    · omega)
                | exact eq_dec ⟨fun hh => hsucc.2 (.inr ⟨by omega, by omega, hh⟩), fun hh => by
                    rcases hsucc.1 hh with hh | hh
                    · exact absurd hh hd
                    · exact hh.2.2⟩
            · have hki' : k = i := by omega
              subst hki'
              have hrest := hre k r p hr hp
              repeat' ((conv => whnf); first
                | refine br_dec (fun hd => ?_) (fun hd => absurd hrest hd)
                | (exfalso; omega)
                | refine seq_go ?_
                | refine draw_i (by kernel_rfl) ?_
                | refine arith_in (by omega) ?_
                | refine need_i (p := (T.row _).eq = true) (by kernel_rfl) ?_
                | refine need_i (by omega) ?_
                | refine br_not ?_
                | refine br_dec (fun hd => ?_) (fun hd => ?_)
                | refine br_lt (fun hlt => ?_) (fun hlt => ?_)
                | refine br_le (fun hle => ?_) (fun hle => ?_)
                | refine br_eq (fun heq => ?_) (fun heq => ?_)
                | refine idx_map (by omega) (fun x hx => ?_)
                | refine live_i rfl (fun h => by cases h) ?_
                | refine ret_i ?_)
              refine ⟨k + 1, ?_, (by show k + 1 ≤ _; omega), by omega⟩
              refine le_mk ?_ ?_ ?_
              all_goals repeat' (first | exact trivial | refine And.intro ?_ ?_ | with_reducible rfl | exact Nat.le_refl _ | omega | exact rfl)
        · have hie : i = rs.length := by omega
          subst hie
          repeat' ((conv => whnf); first
            | refine br_dec (fun hd => ?_) (fun hd => absurd (by first | assumption | exact ⟨rfl, rfl⟩) hd)
            | (exfalso; omega)
            | (refine call_i (rects_spec rs (by omega)) false ?_ rfl ?_; focus ((repeat' (first | exact trivial | refine And.intro ?_ ?_ | with_reducible rfl | exact (fun h => by cases h) | exact rfl)); done))
            | (refine call_i (q1) false ?_ rfl ?_; focus ((repeat' (first | exact trivial | refine And.intro ?_ ?_ | with_reducible rfl | exact (fun h => by cases h) | exact rfl)); done))
            | (refine call_i (theirs_spec W v (by omega)) false ?_ rfl ?_; focus ((repeat' (first | exact trivial | refine And.intro ?_ ?_ | with_reducible rfl | exact (fun h => by cases h) | exact rfl)); done))
            | (refine call_i (equal_spec W W v v (by omega)) false ?_ rfl ?_; focus ((repeat' (first | exact trivial | refine And.intro ?_ ?_ | with_reducible rfl | exact (fun h => by cases h) | exact rfl)); done))
            | (refine call_i (ar') false ?_ rfl ?_; focus ((repeat' (first | exact trivial | refine And.intro ?_ ?_ | with_reducible rfl | exact (fun h => by cases h) | exact rfl)); done))
            | refine seq_go ?_
            | refine draw_i (by kernel_rfl) ?_
            | refine arith_in (by omega) ?_
            | refine need_i (p := (T.row _).eq = true) (by kernel_rfl) ?_
            | refine need_i (by omega) ?_
            | refine br_not ?_
            | refine br_dec (fun hd => ?_) (fun hd => ?_)
            | refine br_lt (fun hlt => ?_) (fun hlt => ?_)
            | refine br_le (fun hle => ?_) (fun hle => ?_)
            | refine br_eq (fun heq => ?_) (fun heq => ?_)
            | refine idx_map (by omega) (fun x hx => ?_)
            | refine live_i rfl (fun h => by cases h) ?_
            | refine ret_i ?_)
          exact ret_bool (eqB_t.2 rfl)
    · have e0 : (packP W rs).2.2 ≠ 0 ∧ (packP W rs).2.1 = [] ∧ (packP W rs).1.2 = [] := by
        unfold packP
        by_cases hW : 1 ≤ W ∧ W ≤ 2000
        · rw [if_pos hW, if_neg (by omega)]
          have he : (packS W rs).2.2 ≠ 0 := fun hh => hok ⟨hW, hh⟩
          rw [if_pos he]
          exact ⟨he, rfl, rfl⟩
        · rw [if_neg hW]
          exact ⟨by decide, rfl, rfl⟩
      rw [e0.2.1, e0.2.2] at p1
      have he := e0.1
      generalize packP W rs = pk at p1 he
      repeat' ((conv => whnf); first
        | (exfalso; omega)
        | (refine call_i (awake_spec) false ?_ rfl ?_; focus ((repeat' (first | exact trivial | refine And.intro ?_ ?_ | with_reducible rfl | exact (fun h => by cases h) | exact rfl)); done))
        | (refine call_i (rects_spec rs (by omega)) false ?_ rfl ?_; focus ((repeat' (first | exact trivial | refine And.intro ?_ ?_ | with_reducible rfl | exact (fun h => by cases h) | exact rfl)); done))
        | (refine call_i (p1) false ?_ rfl ?_; focus ((repeat' (first | exact trivial | refine And.intro ?_ ?_ | with_reducible rfl | exact (fun h => by cases h) | exact rfl)); done))
        | refine seq_go ?_
        | refine draw_i (by kernel_rfl) ?_
        | refine arith_in (by omega) ?_
        | refine need_i (p := (T.row _).eq = true) (by kernel_rfl) ?_
        | refine need_i (by omega) ?_
        | refine br_not ?_
        | refine br_dec (fun hd => ?_) (fun hd => ?_)
        | refine br_lt (fun hlt => ?_) (fun hlt => ?_)
        | refine br_le (fun hle => ?_) (fun hle => ?_)
        | refine br_eq (fun heq => ?_) (fun heq => ?_)
        | refine idx_map (by omega) (fun x hx => ?_)
        | refine live_i rfl (fun h => by cases h) ?_
        | refine ret_i ?_)
      exact ret_bool (eqB_t.2 rfl)
theorem law_packed_spec {W : Int} {rs : List (Int × Int)} : Sp 8 [I W, .sl (rs.map stepV)] (B true) := sp_of Try.func8 (by kernel_rfl) (by kernel_rfl) law_packed
end Go.Proofs.Env41
