/-
  The law of the profiles of two lists.
-/
import Derived.Test.YtbmbfifobonfjaaW16
import Derived.Test.YtbmbfifobonfjaaW12
set_option linter.unusedVariables false
set_option linter.unusedSimpArgs false
namespace Go.Proofs.Env41
open Go Go.Proofs Go.Ab
set_option maxRecDepth 100000

/-- a position seen from the other side -/
def mirP (W : Int) (t : Int × Int × Int) (r : Int × Int) : Int × Int × Int := (W - t.1 - r.1, t.2.1, 0)
theorem mir_at {W : Int} {q : List (Int × Int × Int)} {b : List (Int × Int)} {j : Nat} {t : Int × Int × Int} {r : Int × Int} (ht : q[j]? = some t) (hr : b[j]? = some r) : (List.zipWith (mirP W) q b)[j]? = some (mirP W t r) := by
  rw [List.getElem?_zipWith, ht, hr]
theorem mir_in {W : Int} {b : List (Int × Int)} {q : List (Int × Int × Int)} {n : Nat} (h : AllIn W b q n) : AllIn W b (List.zipWith (mirP W) q b) n := fun j r p hj hr hp => by
  cases ht : q[j]? with
  | none => rw [List.getElem?_zipWith, ht] at hp; simp at hp
  | some t =>
    rw [mir_at ht hr] at hp
    cases hp
    obtain ⟨h1, h2, h3, h4⟩ := h j r t hj hr ht
    exact ⟨by show 0 ≤ W - t.1 - r.1; omega, by show W - t.1 - r.1 ≤ W - r.1; omega, h3, h4⟩
theorem app_in {W : Int} {a b : List (Int × Int)} {x y : List (Int × Int × Int)} (hax : a.length = x.length) (h1 : AllIn W a x a.length) (h2 : AllIn W b y b.length) : AllIn W (a ++ b) (x ++ y) (a ++ b).length := fun j r p hj hr hp => by
  rcases Nat.lt_or_ge j a.length with h | h
  · rw [List.getElem?_append_left h] at hr
    rw [List.getElem?_append_left (by omega)] at hp
    exact h1 j r p h hr hp
  · rw [List.getElem?_append_right h] at hr
    rw [List.getElem?_append_right (by omega), ← hax] at hp
    exact h2 (j - a.length) r p (by rw [List.length_append] at hj; omega) hr hp
theorem app_sized {a b : List (Int × Int)} (h1 : AllSized a a.length) (h2 : AllSized b b.length) : AllSized (a ++ b) (a ++ b).length := fun j r hj hr => by
  rcases Nat.lt_or_ge j a.length with h | h
  · rw [List.getElem?_append_left h] at hr
    exact h1 j r h hr
  · rw [List.getElem?_append_right h] at hr
    exact h2 (j - a.length) r (by rw [List.length_append] at hj; omega) hr
theorem prof_eval {W : Int} {rs : List (Int × Int)} {ps : List (Int × Int × Int)} (hW : 1 ≤ W ∧ W ≤ 2000) (hl : rs.length = ps.length) (h5 : rs.length ≤ 500) (hz : AllSized rs rs.length) (hin : AllIn W rs ps rs.length) :
    profP W rs ps = ((W, ofP (profH rs ps rs.length) W.toNat), 0) ∧ Val W (ofP (profH rs ps rs.length) W.toNat) := by
  refine ⟨?_, val_ofP hW.1 hW.2 (fun z _ _ => prof_nn ps hin hz z)⟩
  unfold profP
  rw [if_pos hW, if_pos ⟨hl, h5, hz⟩, if_pos hin]

theorem pack_code {W : Int} {rs : List (Int × Int)} (hW : 1 ≤ W ∧ W ≤ 2000) (hl : rs.length ≤ 500) : (packP W rs).2.2 = (packS W rs).2.2 := by
  unfold packP
  rw [if_pos hW, if_neg (by omega)]
  by_cases h : (packS W rs).2.2 = 0
  · rw [if_neg (by simp [h])]; exact h.symm
  · rw [if_pos h]
set_option maxHeartbeats 4000000 in
theorem law_joins {W : Int} {a b : List (Int × Int)} : fnVC T Try.prog Try.f9 [I W, .sl (a.map stepV), .sl (b.map stepV)] (B true) := by
  have hs : (a.map stepV).length = a.length := by simp
  have hs' : (b.map stepV).length = b.length := by simp
  by_cases hg : W < 1 ∨ 200 < W ∨ 20 < a.length ∨ 20 < b.length
  · repeat' ((conv => whnf); first
      | (exfalso; omega)
      | (refine call_i (awake_spec) false ?_ rfl ?_; focus ((repeat' (first | exact trivial | refine And.intro ?_ ?_ | with_reducible rfl | exact (fun h => by cases h) | exact rfl)); done))
      | refine seq_go ?_
      | refine draw_i (by kernel_rfl) ?_
      | refine arith_in (by omega) ?_
      | refine need_i (p := (T.row _).eq = true) (by kernel_rfl) ?_
      | refine need_i (by omega) ?_
      | refine br_not ?_
      | refine br_dec (fun hd => ?_) (fun hd => ?_)
      | refine br_lt (fun hlt => ?_) (fun hlt => ?_)
      | refine br_le (fun hle => ?_) (fun hle => ?_)
      | refine br_eq (fun heq => ?_) (fun heq => ?_)
      | refine idx_map (by omega) (fun x hx => ?_)
      | refine live_i rfl (fun h => by cases h) ?_
      | refine ret_i ?_)
    all_goals exact ret_bool rfl
  · have hW : 1 ≤ W ∧ W ≤ 2000 := by omega
    have p1 := rPack_spec (W := W) (rs := a) (by omega)
    have p2 := rPack_spec (W := W) (rs := b) (by omega)
    unfold packR at p1 p2
    by_cases hok : (packS W a).2.2 = 0 ∧ (packS W b).2.2 = 0
    · obtain ⟨ha, hb⟩ := hok
      have e1 : packP W a = ((W, (packS W a).1), (packS W a).2.1, 0) := by
        unfold packP
        rw [if_pos hW, if_neg (by omega), if_neg (by simp [ha])]
      have e2 : packP W b = ((W, (packS W b).1), (packS W b).2.1, 0) := by
        unfold packP
        rw [if_pos hW, if_neg (by omega), if_neg (by simp [hb])]
      rw [e1] at p1
      rw [e2] at p2
      have la := out_all ha
      have lb := out_all hb
      have ia := pack_in ha a.length
      have ib := pack_in hb b.length
      have za := pack_sized ha a.length
      have zb := pack_sized hb b.length
      simp only at p1 p2
      generalize (packS W a).1 = va at p1
      generalize (packS W b).1 = vb at p2
      generalize (packS W a).2.1 = x at p1 la ia
      generalize (packS W b).2.1 = q at p2 lb ib
      have im := mir_in ib
      have lm : b.length = (List.zipWith (mirP W) q b).length := by rw [List.length_zipWith]; omega
      obtain ⟨f1, v1⟩ := prof_eval hW la.symm (by omega) za ia
      obtain ⟨f2, v2⟩ := prof_eval hW lm (by omega) zb im
      obtain ⟨f3, v3⟩ := prof_eval hW (rs := a ++ b) (ps := x ++ List.zipWith (mirP W) q b) (by rw [List.length_append, List.length_append]; omega) (by rw [List.length_append]; omega) (app_sized za zb) (app_in la.symm ia im)
      have q1 := Profile_spec (W := W) (rs := a) (ps := x)
      have q2 := Profile_spec (W := W) (rs := b) (ps := List.zipWith (mirP W) q b)
      have q3 := Profile_spec (W := W) (rs := a ++ b) (ps := x ++ List.zipWith (mirP W) q b)
      unfold profR at q1 q2 q3
      rw [f1] at q1
      rw [f2] at q2
      rw [f3] at q3
      have l1 := v1.len
      have l2 := v2.len
      have m1 := Max_spec (W := W) (U := W) (a := ofP (profH a x a.length) W.toNat) (b := ofP (profH b (List.zipWith (mirP W) q b) b.length) W.toNat) (by omega) (by omega)
      unfold maxR' maxP at m1
      rw [if_pos ⟨v1, v2, rfl⟩] at m1
      have ej : ofP (maxF (ofP (profH a x a.length) W.toNat) (ofP (profH b (List.zipWith (mirP W) q b) b.length) W.toNat)) W.toNat = ofP (profH (a ++ b) (x ++ List.zipWith (mirP W) q b) (a ++ b).length) W.toNat := by
        refine ofP_congr (fun z h0 h1 => ?_)
        show max (colF _ z) (colF _ z) = _
        rw [colF_ofP' _ h0 h1, colF_ofP' _ h0 h1, List.length_append, prof_join (W := W) la.symm ia za]
      simp only at m1 q1 q2 q3
      rw [ej] at m1
      have l3 := v3.len
      generalize ofP (profH (a ++ b) (x ++ List.zipWith (mirP W) q b) (a ++ b).length) W.toNat = J at q3 m1 l3
      generalize ofP (profH b (List.zipWith (mirP W) q b) b.length) W.toNat = G2 at q2 m1 l2
      generalize ofP (profH a x a.length) W.toNat = G1 at q1 m1 l1
      clear ej f1 f2 f3 v1 v2 v3 e1 e2
      have hmir := fun (j : Nat) (t : Int × Int × Int) (r : Int × Int) => mir_at (W := W) (q := q) (b := b) (j := j) (t := t) (r := r)
      generalize List.zipWith (mirP W) q b = y at im lm q2 q3 hmir
      have hs1 : (x.map plV).length = x.length := by simp
      have hs2 : (q.map plV).length = q.length := by simp
      repeat' ((conv => whnf); first
        | (exfalso; omega)
        | (refine call_i (awake_spec) false ?_ rfl ?_; focus ((repeat' (first | exact trivial | refine And.intro ?_ ?_ | with_reducible rfl | exact (fun h => by cases h) | exact rfl)); done))
        | (refine call_i (p1) false ?_ rfl ?_; focus ((repeat' (first | exact trivial | refine And.intro ?_ ?_ | with_reducible rfl | exact (fun h => by cases h) | exact rfl)); done))
        | (refine call_i (p2) false ?_ rfl ?_; focus ((repeat' (first | exact trivial | refine And.intro ?_ ?_ | with_reducible rfl | exact (fun h => by cases h) | exact rfl)); done))
        | refine seq_go ?_
        | refine draw_i (by kernel_rfl) ?_
        | refine arith_in (by omega) ?_
        | refine need_i (p := (T.row _).eq = true) (by kernel_rfl) ?_
        | refine need_i (by omega) ?_
        | refine br_not ?_
        | refine br_dec (fun hd => ?_) (fun hd => ?_)
        | refine br_lt (fun hlt => ?_) (fun hlt => ?_)
        | refine br_le (fun hle => ?_) (fun hle => ?_)
        | refine br_eq (fun heq => ?_) (fun heq => ?_)
        | refine idx_map (by omega) (fun x hx => ?_)
        | refine live_i rfl (fun h => by cases h) ?_
        | refine ret_i ?_)
      refine loop_i (A := Nat) (fun j => mkSt [(0, I W), (1, .sl (a.map stepV)), (2, .sl (b.map stepV)), (11, .sl (q.map plV)), (13, .arr 74 j), (14, .lit (.slice none 0 0)), (65, .sl (x.map plV)), (66, I x.length), (67, I j)] [] [(74, ⟨j, .own, 33, (x.take j).map plV⟩)])
        (fun j => j ≤ x.length) (fun j => x.length - j) 0 ?_ (by omega) (fun j hj' => ?_)
      · refine le_mk ?_ ?_ ?_
        all_goals repeat' (first | exact trivial | refine And.intro ?_ ?_ | with_reducible rfl | exact Nat.le_refl _ | omega | exact rfl)
      · change j ≤ x.length at hj'
        rcases Nat.lt_or_ge j x.length with hkl | hkl
        · obtain ⟨s, hsj⟩ : ∃ s, x[j]? = some s := ⟨x[j], by simp⟩
          have hsj' : x[(j : Int).toNat]? = some s := by rw [show (j : Int).toNat = j by omega]; exact hsj
          have htl : (x.take j).length ≤ x.length := by rw [List.length_take]; omega
          repeat' ((conv => whnf); first
            | (exfalso; omega)
            | refine idx_at hsj' ?_
            | refine need_app rfl (.inl rfl) rfl (of_decide_eq_true rfl) (pl_cells _) (by show (List.map plV (x.take j)).length + 1 ≤ _; simp only [List.length_map]; omega) ?_
            | refine seq_go ?_
            | refine draw_i (by kernel_rfl) ?_
            | refine arith_in (by omega) ?_
            | refine need_i (p := (T.row _).eq = true) (by kernel_rfl) ?_
            | refine need_i (by omega) ?_
            | refine br_not ?_
            | refine br_dec (fun hd => ?_) (fun hd => ?_)
            | refine br_lt (fun hlt => ?_) (fun hlt => ?_)
            | refine br_le (fun hle => ?_) (fun hle => ?_)
            | refine br_eq (fun heq => ?_) (fun heq => ?_)
            | refine idx_map (by omega) (fun x hx => ?_)
            | refine live_i rfl (fun h => by cases h) ?_
            | refine ret_i ?_)
          refine ⟨j + 1, ?_, (by show j + 1 ≤ _; omega), by omega⟩
          have ht : (x.take (j + 1)) = x.take j ++ [s] := by rw [List.take_add_one, hsj]; rfl
          refine le_mk ?_ ?_ ?_
          all_goals repeat' (first | exact trivial | refine And.intro ?_ ?_ | with_reducible rfl | exact Nat.le_refl _ | omega | exact rfl)
          · show List.map plV (x.take j) ++ [plV s] = List.map plV (x.take (j + 1))
            rw [ht]; simp
        · have hjx : x.take j = x := List.take_of_length_le hkl
          rw [hjx]
          repeat' ((conv => whnf); first
            | (exfalso; omega)
            | refine seq_go ?_
            | refine draw_i (by kernel_rfl) ?_
            | refine arith_in (by omega) ?_
            | refine need_i (p := (T.row _).eq = true) (by kernel_rfl) ?_
            | refine need_i (by omega) ?_
            | refine br_not ?_
            | refine br_dec (fun hd => ?_) (fun hd => ?_)
            | refine br_lt (fun hlt => ?_) (fun hlt => ?_)
            | refine br_le (fun hle => ?_) (fun hle => ?_)
            | refine br_eq (fun heq => ?_) (fun heq => ?_)
            | refine idx_map (by omega) (fun x hx => ?_)
            | refine live_i rfl (fun h => by cases h) ?_
            | refine ret_i ?_)
          refine loop_i (A := Nat) (fun k => mkSt [(0, I W), (1, .sl (a.map stepV)), (2, .sl (b.map stepV)), (13, .arr 74 j), (14, .arr 98 k), (76, .sl (q.map plV)), (77, I q.length), (78, I k)] [] [(74, ⟨j, .own, 33, x.map plV⟩), (98, ⟨k, .own, 33, (y.take k).map plV⟩)])
            (fun k => k ≤ q.length) (fun k => q.length - k) 0 ?_ (by omega) (fun k hk' => ?_)
          · refine le_mk ?_ ?_ ?_
            all_goals repeat' (first | exact trivial | refine And.intro ?_ ?_ | with_reducible rfl | exact Nat.le_refl _ | omega | exact rfl)
          · change k ≤ q.length at hk'
            rcases Nat.lt_or_ge k q.length with hql | hql
            · obtain ⟨t, htk⟩ : ∃ t, q[k]? = some t := ⟨q[k], by simp⟩
              obtain ⟨r, hrk⟩ : ∃ r, b[k]? = some r := ⟨b[k], by simp⟩
              have htk' : q[(k : Int).toNat]? = some t := by rw [show (k : Int).toNat = k by omega]; exact htk
              have hyk := hmir k t r htk hrk
              have hyl : ((98, (⟨k, .own, 33, (y.take k).map plV⟩ : AE))).snd.l.length = k := by show ((y.take k).map plV).length = k; rw [List.length_map, List.length_take]; omega
              have htl : (y.take k).length ≤ y.length := by rw [List.length_take]; omega
              obtain ⟨b1, b2, b3, b4⟩ := ib k r t (by omega) hrk htk
              obtain ⟨⟨y1, y2⟩, y3, y4⟩ := zb k r (by omega) hrk
              have hrk' : b[((((98, (⟨k, .own, 33, (y.take k).map plV⟩ : AE))).snd.l.length : Nat) : Int).toNat]? = some r := by rw [hyl, show (k : Int).toNat = k by omega]; exact hrk
              repeat' ((conv => whnf); first
                | (exfalso; omega)
                | refine idx_at htk' ?_
                | refine idx_at hrk' ?_
                | refine need_app rfl (.inl rfl) rfl (of_decide_eq_true rfl) (one_cells rfl) (by show (List.map plV (y.take k)).length + 1 ≤ _; simp only [List.length_map]; omega) ?_
                | refine seq_go ?_
                | refine draw_i (by kernel_rfl) ?_
                | refine arith_in (by omega) ?_
                | refine need_i (p := (T.row _).eq = true) (by kernel_rfl) ?_
                | refine need_i (by omega) ?_
                | refine br_not ?_
                | refine br_dec (fun hd => ?_) (fun hd => ?_)
                | refine br_lt (fun hlt => ?_) (fun hlt => ?_)
                | refine br_le (fun hle => ?_) (fun hle => ?_)
                | refine br_eq (fun heq => ?_) (fun heq => ?_)
                | refine idx_map (by omega) (fun x hx => ?_)
                | refine live_i rfl (fun h => by cases h) ?_
                | refine ret_i ?_)
              refine ⟨k + 1, ?_, (by show k + 1 ≤ _; omega), by omega⟩
              have ht : (y.take (k + 1)) = y.take k ++ [mirP W t r] := by rw [List.take_add_one, hyk]; rfl
              refine le_mk ?_ ?_ ?_
              all_goals repeat' (first | exact trivial | refine And.intro ?_ ?_ | with_reducible rfl | exact Nat.le_refl _ | omega | exact rfl)
              · show List.map plV (y.take k) ++ [plV (mirP W t r)] = List.map plV (y.take (k + 1))
                rw [ht]; simp
            · have hky : y.take k = y := List.take_of_length_le (by omega)
              rw [hky]
              have q3' : Sp 32 [I W, .sl (List.map stepV a ++ List.map stepV b), .sl (List.map plV x ++ List.map plV y)] (.tup [envV W J, I 0]) := by
                rw [← List.map_append, ← List.map_append]; exact q3
              have hsa : ∀ z ∈ a.map stepV, z.cells.length = 2 := steps_cells a
              have hsb : ∀ z ∈ b.map stepV, z.cells.length = 2 := steps_cells b
              have hpc : ∀ l : List (Int × Int × Int), ∀ z ∈ l.map plV, z.cells.length = 3 := fun l z hz => by
                obtain ⟨s, _, rfl⟩ := List.mem_map.1 hz
                rfl
              repeat' ((conv => whnf); first
                | refine br_dec (fun hd => ?_) (fun hd => absurd (by first | assumption | exact ⟨rfl, rfl⟩) hd)
                | (exfalso; omega)
                | (refine call_i (rects_spec a (by omega)) false ?_ rfl ?_; focus ((repeat' (first | exact trivial | refine And.intro ?_ ?_ | with_reducible rfl | exact (fun h => by cases h) | exact rfl)); done))
                | (refine call_i (rects_spec b (by omega)) false ?_ rfl ?_; focus ((repeat' (first | exact trivial | refine And.intro ?_ ?_ | with_reducible rfl | exact (fun h => by cases h) | exact rfl)); done))
                | (refine call_i (q1) false ?_ rfl ?_; focus ((repeat' (first | exact trivial | refine And.intro ?_ ?_ | with_reducible rfl | exact (fun h => by cases h) | exact rfl)); done))
                | (refine call_i (q2) false ?_ rfl ?_; focus ((repeat' (first | exact trivial | refine And.intro ?_ ?_ | with_reducible rfl | exact (fun h => by cases h) | exact rfl)); done))
                | (refine call_i (q3') false ?_ rfl ?_; focus ((repeat' (first | exact trivial | refine And.intro ?_ ?_ | with_reducible rfl | exact (fun h => by cases h) | exact rfl)); done))
                | (refine call_i (m1) false ?_ rfl ?_; focus ((repeat' (first | exact trivial | refine And.intro ?_ ?_ | with_reducible rfl | exact (fun h => by cases h) | exact rfl)); done))
                | (refine call_i (theirs_spec W J (by omega)) false ?_ rfl ?_; focus ((repeat' (first | exact trivial | refine And.intro ?_ ?_ | with_reducible rfl | exact (fun h => by cases h) | exact rfl)); done))
                | (refine call_i (equal_spec W W J J (by omega)) false ?_ rfl ?_; focus ((repeat' (first | exact trivial | refine And.intro ?_ ?_ | with_reducible rfl | exact (fun h => by cases h) | exact rfl)); done))
                | refine need_app rfl (.inl rfl) rfl (of_decide_eq_true rfl) hsb (by show (a.map stepV).length + (b.map stepV).length ≤ _; omega) ?_
                | refine need_app rfl (.inl rfl) rfl (of_decide_eq_true rfl) (hpc x) (by show 0 + (x.map plV).length ≤ _; omega) ?_
                | refine need_app rfl (.inl rfl) rfl (of_decide_eq_true rfl) (hpc y) (by show ([] ++ x.map plV).length + (y.map plV).length ≤ _; simp only [List.nil_append, List.length_map]; omega) ?_
                | refine seq_go ?_
                | refine draw_i (by kernel_rfl) ?_
                | refine arith_in (by omega) ?_
                | refine need_i (p := (T.row _).eq = true) (by kernel_rfl) ?_
                | refine need_i (by omega) ?_
                | refine br_not ?_
                | refine br_dec (fun hd => ?_) (fun hd => ?_)
                | refine br_lt (fun hlt => ?_) (fun hlt => ?_)
                | refine br_le (fun hle => ?_) (fun hle => ?_)
                | refine br_eq (fun heq => ?_) (fun heq => ?_)
                | refine idx_map (by omega) (fun x hx => ?_)
                | refine live_i rfl (fun h => by cases h) ?_
                | refine ret_i ?_)
              exact ret_bool (decB_t.2 ⟨rfl, rfl⟩)
    · have hcode : (packP W a).2.2 = (packS W a).2.2 ∧ (packP W b).2.2 = (packS W b).2.2 := ⟨pack_code hW (by omega), pack_code hW (by omega)⟩
      rw [← hcode.1, ← hcode.2] at hok
      clear hcode
      generalize packP W a = pa at p1 hok
      generalize packP W b = pb at p2 hok
      repeat' ((conv => whnf); first
        | exact absurd ⟨by assumption, by assumption⟩ hok
        | (exfalso; omega)
        | (refine call_i (awake_spec) false ?_ rfl ?_; focus ((repeat' (first | exact trivial | refine And.intro ?_ ?_ | with_reducible rfl | exact (fun h => by cases h) | exact rfl)); done))
        | (refine call_i (p1) false ?_ rfl ?_; focus ((repeat' (first | exact trivial | refine And.intro ?_ ?_ | with_reducible rfl | exact (fun h => by cases h) | exact rfl)); done))
        | (refine call_i (p2) false ?_ rfl ?_; focus ((repeat' (first | exact trivial | refine And.intro ?_ ?_ | with_reducible rfl | exact (fun h => by cases h) | exact rfl)); done))
        | refine seq_go ?_
        | refine draw_i (by kernel_rfl) ?_
        | refine arith_in (by omega) ?_
        | refine need_i (p := (T.row _).eq = true) (by kernel_rfl) ?_
        | refine need_i (by omega) ?_
        | refine br_not ?_
        | refine br_dec (fun hd => ?_) (fun hd => ?_)
        | refine br_lt (fun hlt => ?_) (fun hlt => ?_)
        | refine br_le (fun hle => ?_) (fun hle => ?_)
        | refine br_eq (fun heq => ?_) (fun heq => ?_)
        | refine idx_map (by omega) (fun x hx => ?_)
        | refine live_i rfl (fun h => by cases h) ?_
        | refine ret_i ?_)
      all_goals exact ret_bool rfl
theorem law_joins_spec {W : Int} {a b : List (Int × Int)} : Sp 9 [I W, .sl (a.map stepV), .sl (b.map stepV)] (B true) := sp_of Try.func9 (by kernel_rfl) (by kernel_rfl) law_joins
end Go.Proofs.Env41
