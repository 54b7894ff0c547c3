/-
  How two segments meet, walked.
-/
import Derived.Test.YtkhhdojgbkophaaGreatTV3
set_option linter.unusedVariables false
set_option linter.unusedSimpArgs false
namespace Go.Proofs.Led
open Go Go.Proofs Go.Ab
set_option maxRecDepth 100000
set_option maxHeartbeats 2000000
theorem r64_w (n : Int) : R64 (W n) := w_range n
theorem lineK_1 {a b d : Int} (h : a = 0 \/ a = d \/ b = 0 \/ b = d) : lineK a b d = 1 := by unfold lineK; rw [if_pos h]
theorem lineK_2 {a b d : Int} (h : ¬ (a = 0 \/ a = d \/ b = 0 \/ b = d)) : lineK a b d = 2 := by unfold lineK; rw [if_neg h]
theorem lines_0 {s t : Sg} {d a b e : Int} (hq : turned (linesA s t) (linesB s t) d = (a, b, e)) (h : a < 0 \/ e < a \/ b < 0 \/ e < b) : lines s t d = cm0 := by
  unfold lines
  rw [hq]
  exact if_pos h
theorem lines_1 {s t : Sg} {d a b e : Int} (hq : turned (linesA s t) (linesB s t) d = (a, b, e)) (h : ¬ (a < 0 \/ e < a \/ b < 0 \/ e < b)) :
    lines s t d = ⟨lineK a b e, W ((lineX s (vsub s.2 s.1) a e).tdiv (divisor (divisor (lineX s (vsub s.2 s.1) a e) (lineY s (vsub s.2 s.1) a e)) e)), W ((lineY s (vsub s.2 s.1) a e).tdiv (divisor (divisor (lineX s (vsub s.2 s.1) a e) (lineY s (vsub s.2 s.1) a e)) e)), W (e.tdiv (divisor (divisor (lineX s (vsub s.2 s.1) a e) (lineY s (vsub s.2 s.1) a e)) e)), ((0, 0), (0, 0))⟩ := by
  unfold lines
  rw [hq]
  exact if_neg h
theorem turned_pos {a b d : Int} (h : 0 <= d) : turned a b d = (a, b, d) := by unfold turned; rw [if_neg (by omega)]
theorem turned_neg {a b d : Int} (h : d < 0) : turned a b d = (W (0 - a), W (0 - b), W (0 - d)) := by unfold turned; rw [if_pos h]
theorem lines_spec (s t : Sg) (d : Int) (hd : d ≠ 0) (hr : R64 d) : Sp 358 [sgV s, sgV t, I d] (cmV (lines s t d)) := by
  refine zsp Tryz.func358 ?_
  have hA := vcross_spec (vsub t.1 s.1) (vsub t.2 t.1)
  have hB := vcross_spec (vsub t.1 s.1) (vsub s.2 s.1)
  obtain ⟨q, hq⟩ : ∃ q, q = turned (linesA s t) (linesB s t) d := ⟨_, rfl⟩
  obtain ⟨a, b, e⟩ := q
  have hX : lineX s (vsub s.2 s.1) a e = W (W (s.1.1 * e) + W (a * (vsub s.2 s.1).1)) := rfl
  have hY : lineY s (vsub s.2 s.1) a e = W (W (s.1.2 * e) + W (a * (vsub s.2 s.1).2)) := rfl
  have he : e ≠ 0 /\ R64 e := by
    rcases Int.lt_or_le d 0 with h | h
    · rw [turned_neg h] at hq
      cases hq
      refine ⟨?_, w_range _⟩
      unfold R64 at hr
      by_cases hm : d = -9223372036854775808
      · subst hm; decide
      · rw [w_in (by omega)]; omega
    · rw [turned_pos h] at hq
      cases hq
      exact ⟨hd, hr⟩
  have hg : divisor (divisor (lineX s (vsub s.2 s.1) a e) (lineY s (vsub s.2 s.1) a e)) e ≠ 0 := fun h =>
    he.1 (divisor_zero (divisor_range (r64_w _) (r64_w _)) he.2 h).2
  have l0 := lines_0 hq.symm
  have l1 := lines_1 hq.symm
  have g1 := gcd_spec (lineX s (vsub s.2 s.1) a e) (lineY s (vsub s.2 s.1) a e)
  have g2 := gcd_spec (divisor (lineX s (vsub s.2 s.1) a e) (lineY s (vsub s.2 s.1) a e)) e
  rw [hX, hY] at g1 g2 hg l1
  have neg : d < 0 -> e = W (0 - d) /\ a = W (0 - linesA s t) /\ b = W (0 - linesB s t) := fun h => by
    rw [turned_neg h] at hq
    cases hq; exact ⟨rfl, rfl, rfl⟩
  have pos : 0 <= d -> e = d /\ a = linesA s t /\ b = linesB s t := fun h => by
    rw [turned_pos h] at hq
    cases hq; exact ⟨rfl, rfl, rfl⟩
  clear hX hY hq
  unfold linesA linesB at neg pos
  rcases Int.lt_or_le d 0 with hdn | hdp
  · obtain ⟨rfl, rfl, rfl⟩ := neg hdn
    clear neg pos
    repeat' ((conv=>whnf);first|(exfalso; omega)|refine zc (vsub_spec s.2 s.1) ?_|refine zc (vsub_spec t.2 t.1) ?_|refine zc (vsub_spec t.1 s.1) ?_|refine zc hA ?_|refine zc hB ?_|refine zc g1 ?_|refine zc g2 ?_|refine need_rem hg ?_|refine arith_w ?_|refine zg ?_|refine zi ?_|refine zl (fun hlt=>?_) (fun hlt=>?_)|refine ze (fun heq=>?_) (fun heq=>?_)|refine zr ?_)
    all_goals conv=>whnf
    all_goals first
      | (rw [l0 (by omega)]; refine ⟨?_, rfl, fun rs h => V.noConfusion h⟩; (repeat' (first | exact trivial | refine And.intro ?_ ?_ | with_reducible rfl | exact (fun h => by cases h) | exact rfl)); done)
      | (rw [l1 (by omega), lineK_1 (by omega)]; refine ⟨?_, rfl, fun rs h => V.noConfusion h⟩; (repeat' (first | exact trivial | refine And.intro ?_ ?_ | with_reducible rfl | exact (fun h => by cases h) | exact rfl)); done)
      | (rw [l1 (by omega), lineK_2 (by omega)]; refine ⟨?_, rfl, fun rs h => V.noConfusion h⟩; (repeat' (first | exact trivial | refine And.intro ?_ ?_ | with_reducible rfl | exact (fun h => by cases h) | exact rfl)); done)
  · obtain ⟨rfl, rfl, rfl⟩ := pos hdp
    clear neg pos
    repeat' ((conv=>whnf);first|(exfalso; omega)|refine zc (vsub_spec s.2 s.1) ?_|refine zc (vsub_spec t.2 t.1) ?_|refine zc (vsub_spec t.1 s.1) ?_|refine zc hA ?_|refine zc hB ?_|refine zc g1 ?_|refine zc g2 ?_|refine need_rem hg ?_|refine arith_w ?_|refine zg ?_|refine zi ?_|refine zl (fun hlt=>?_) (fun hlt=>?_)|refine ze (fun heq=>?_) (fun heq=>?_)|refine zr ?_)
    all_goals conv=>whnf
    all_goals first
      | (rw [l0 (by omega)]; refine ⟨?_, rfl, fun rs h => V.noConfusion h⟩; (repeat' (first | exact trivial | refine And.intro ?_ ?_ | with_reducible rfl | exact (fun h => by cases h) | exact rfl)); done)
      | (rw [l1 (by omega), lineK_1 (by omega)]; refine ⟨?_, rfl, fun rs h => V.noConfusion h⟩; (repeat' (first | exact trivial | refine And.intro ?_ ?_ | with_reducible rfl | exact (fun h => by cases h) | exact rfl)); done)
      | (rw [l1 (by omega), lineK_2 (by omega)]; refine ⟨?_, rfl, fun rs h => V.noConfusion h⟩; (repeat' (first | exact trivial | refine And.intro ?_ ?_ | with_reducible rfl | exact (fun h => by cases h) | exact rfl)); done)
theorem ordS_t {s : Sg} (h : vless s.2 s.1) : ordS s = (s.2, s.1) := by unfold ordS; rw [if_pos h]
theorem ordS_f {s : Sg} (h : ¬ vless s.2 s.1) : ordS s = s := by unfold ordS; rw [if_neg h]
def endsAt (s t s' t' : Sg) (k : Nat) : List V := match k with
  | 0 => [I s.1.1, I s.1.2, I s.2.1, I s.2.2, I t.1.1, I t.1.2, I t.2.1, I t.2.2]
  | 1 => [I s'.1.1, I s'.1.2, I s'.2.1, I s'.2.2, I t.1.1, I t.1.2, I t.2.1, I t.2.2]
  | _ => [I s'.1.1, I s'.1.2, I s'.2.1, I s'.2.2, I t'.1.1, I t'.1.2, I t'.2.1, I t'.2.2]
def twoK (k : Nat) : Int := match k with
  | 0 => 0
  | 1 => 2
  | _ => 4
theorem meet_0 {s t : Sg} (h : ¬ segOk s \/ ¬ segOk t) : meetC s t = cm0 := by unfold meetC; rw [if_pos h]
section
variable {s t : Sg} (hs : segOk s) (ht : segOk t)
theorem meet_1 (hs : segOk s) (ht : segOk t) (h : meetD s t ≠ 0) : meetC s t = lines s t (meetD s t) := by unfold meetC; rw [if_neg (by simp [hs, ht]), if_pos h]
theorem meet_2 (hs : segOk s) (ht : segOk t) (h : meetD s t = 0) (h1 : s.1 = s.2) (h2 : segOn t s.1) : meetC s t = single s.1 := by unfold meetC; rw [if_neg (by simp [hs, ht]), if_neg (by simp [h]), if_pos ⟨h1, h2⟩]
theorem meet_3 (hs : segOk s) (ht : segOk t) (h : meetD s t = 0) (h1 : ¬ (s.1 = s.2 /\ segOn t s.1)) (h2 : t.1 = t.2) (h3 : segOn s t.1) : meetC s t = single t.1 := by unfold meetC; rw [if_neg (by simp [hs, ht]), if_neg (by simp [h]), if_neg h1, if_pos ⟨h2, h3⟩]
theorem meet_4 (hs : segOk s) (ht : segOk t) (h : meetD s t = 0) (h1 : ¬ (s.1 = s.2 /\ segOn t s.1)) (h2 : ¬ (t.1 = t.2 /\ segOn s t.1)) (h3 : s.1 = s.2 \/ t.1 = t.2 \/ vturn s.1 s.2 t.1 ≠ 0) : meetC s t = cm0 := by unfold meetC; rw [if_neg (by simp [hs, ht]), if_neg (by simp [h]), if_neg h1, if_neg h2, if_pos h3]
theorem meet_5 (hs : segOk s) (ht : segOk t) (h : meetD s t = 0) (h3 : ¬ (s.1 = s.2 \/ t.1 = t.2 \/ vturn s.1 s.2 t.1 ≠ 0)) : meetC s t = overK (hiLo (ordS s) (ordS t)) := by
  unfold meetC
  rw [if_neg (by simp [hs, ht]), if_neg (by simp [h]), if_neg (fun q => h3 (.inl q.1)), if_neg (fun q => h3 (.inr (.inl q.1))), if_neg h3]
end
theorem hiLo_tt {s t : Sg} (h1 : vless s.1 t.1) (h2 : vless t.2 s.2) : hiLo s t = (t.1, t.2) := by unfold hiLo; rw [if_pos h1, if_pos h2]
theorem hiLo_tf {s t : Sg} (h1 : vless s.1 t.1) (h2 : ¬ vless t.2 s.2) : hiLo s t = (t.1, s.2) := by unfold hiLo; rw [if_pos h1, if_neg h2]
theorem hiLo_ft {s t : Sg} (h1 : ¬ vless s.1 t.1) (h2 : vless t.2 s.2) : hiLo s t = (s.1, t.2) := by unfold hiLo; rw [if_neg h1, if_pos h2]
theorem hiLo_ff {s t : Sg} (h1 : ¬ vless s.1 t.1) (h2 : ¬ vless t.2 s.2) : hiLo s t = (s.1, s.2) := by unfold hiLo; rw [if_neg h1, if_neg h2]
theorem over_0 {a b : Vc} (h : vcmp a b = 0) : overK (a, b) = single a := by unfold overK; rw [if_pos h]
theorem over_1 {a b : Vc} (h : vcmp a b = -1) : overK (a, b) = ⟨3, 0, 0, 0, (a, b)⟩ := by unfold overK; rw [if_neg (by show vcmp a b ≠ 0; omega), if_pos h]
theorem over_2 {a b : Vc} (h : vcmp a b ≠ 0) (h' : vcmp a b ≠ -1) : overK (a, b) = cm0 := by unfold overK; rw [if_neg h, if_neg h']
theorem meetC_spec (s t : Sg) : Sp 321 [sgV s, sgV t] (cmV (meetC s t)) := by
  refine zsp Tryz.func321 ?_
  have hD := vcross_spec (vsub s.2 s.1) (vsub t.2 t.1)
  have hDr : R64 (meetD s t) := w_range _
  rw [show vcross (vsub s.2 s.1) (vsub t.2 t.1) = meetD s t from rfl] at hD
  have m0 := meet_0 (s := s) (t := t)
  have m1 := meet_1 (s := s) (t := t)
  have m2 := meet_2 (s := s) (t := t)
  have m3 := meet_3 (s := s) (t := t)
  have m4 := meet_4 (s := s) (t := t)
  have m5 := meet_5 (s := s) (t := t)
  have hL := fun hd => lines_spec s t (meetD s t) hd hDr
  generalize hm : meetC s t = M at *
  generalize hd0 : meetD s t = dd at *
  generalize lines s t dd = LL at *
  generalize hhl : hiLo (ordS s) (ordS t) = hl at *
  repeat' ((conv=>whnf);first|(exfalso; contradiction)|refine zc (segOk_spec s) ?_|refine zc (segOk_spec t) ?_|refine zc (vsub_spec s.2 s.1) ?_|refine zc (vsub_spec t.2 t.1) ?_|refine zc hD ?_|refine zc (hL (by assumption)) ?_|refine eqVc_i ?_|refine br_veq (fun hv => ?_) (fun hv => ?_)|refine zc (segOn_spec t s.1) ?_|refine zc (segOn_spec s t.1) ?_|refine zc (single_spec s.1) ?_|refine zc (single_spec t.1) ?_|refine zc (vturn_spec s.1 s.2 t.1) ?_|refine zg ?_|refine zi ?_|refine zy ?_|refine zn ?_|refine zd (fun hd=>?_) (fun hd=>?_)|refine ze (fun heq=>?_) (fun heq=>?_)|refine zr ?_)
  all_goals conv=>whnf
  all_goals first
    | (rw [m0 (by first | exact .inl ‹_› | exact .inr ‹_›)]; refine ⟨?_, rfl, fun rs h => V.noConfusion h⟩; (repeat' (first | exact trivial | refine And.intro ?_ ?_ | with_reducible rfl | exact (fun h => by cases h) | exact rfl)); done)
    | (rw [m1 (by assumption) (by assumption) (by assumption)]; refine ⟨?_, rfl, fun rs h => V.noConfusion h⟩; (repeat' (first | exact trivial | refine And.intro ?_ ?_ | with_reducible rfl | exact (fun h => by cases h) | exact rfl)); done)
    | (rw [m2 (by assumption) (by assumption) (by omega) (by assumption) (by assumption)]; refine ⟨?_, rfl, fun rs h => V.noConfusion h⟩; (repeat' (first | exact trivial | refine And.intro ?_ ?_ | with_reducible rfl | exact (fun h => by cases h) | exact rfl)); done)
    | (rw [m3 (by assumption) (by assumption) (by omega) (fun q => by obtain ⟨q1, q2⟩ := q; contradiction) (by assumption) (by assumption)]; refine ⟨?_, rfl, fun rs h => V.noConfusion h⟩; (repeat' (first | exact trivial | refine And.intro ?_ ?_ | with_reducible rfl | exact (fun h => by cases h) | exact rfl)); done)
    | (rw [m4 (by assumption) (by assumption) (by omega) (fun q => by obtain ⟨q1, q2⟩ := q; contradiction) (fun q => by obtain ⟨q1, q2⟩ := q; contradiction) (by first | exact .inl ‹_› | exact .inr (.inl ‹_›) | exact .inr (.inr ‹_›))]; refine ⟨?_, rfl, fun rs h => V.noConfusion h⟩; (repeat' (first | exact trivial | refine And.intro ?_ ?_ | with_reducible rfl | exact (fun h => by cases h) | exact rfl)); done)
    | skip
  have hM : M = overK hl := m5 (by assumption) (by assumption) (by omega) (by rintro (q | q | q) <;> first | contradiction | omega)
  clear m0 m1 m2 m3 m4 m5
  refine loop_i (A := Nat) (fun k => mkSt [(0, sgV s), (1, sgV t), (2, .box 2 0), (3, .box 3 0), (4, .box 4 0), (6, .box 6 0), (7, I (twoK k))] [(2, (sgV s).cells), (3, (sgV t).cells), (4, (cmV cm0).cells), (6, endsAt s t (ordS s) (ordS t) k)] [])
    (fun k => k <= 2) (fun k => 2 - k) 0 ?_ (by omega) (fun k hk => ?_)
  · exact zj
  have hos := ordS_t (s := s)
  have hof := ordS_f (s := s)
  have hts := ordS_t (s := t)
  have htf := ordS_f (s := t)
  have tk0 : twoK 0 = 0 := rfl
  have tk1 : twoK 1 = 2 := rfl
  have tk2 : twoK 2 = 4 := rfl
  have eL : (2 : Int) = twoK 1 := rfl
  match k, hk with
  | 0, _ =>
    repeat' ((conv=>whnf);first|(exfalso; omega)|refine zc (vless_spec s.2 s.1) ?_|refine zg ?_|refine zi ?_|refine za ?_|refine zd (fun hd=>?_) (fun hd=>?_)|refine zl (fun hlt=>?_) (fun hlt=>?_))
    all_goals conv=>whnf
    · refine ⟨1, ?_, by omega, by omega⟩
      unfold endsAt
      rw [hos hd]
      exact zj
    · refine ⟨1, ?_, by omega, by omega⟩
      unfold endsAt
      rw [hof hd]
      exact zj
  | 1, _ =>
    repeat' ((conv=>whnf);first|(exfalso; omega)|refine zc (vless_spec t.2 t.1) ?_|refine zg ?_|refine zi ?_|refine za ?_|refine zd (fun hd=>?_) (fun hd=>?_)|refine zl (fun hlt=>?_) (fun hlt=>?_))
    all_goals conv=>whnf
    · refine ⟨2, ?_, by omega, by omega⟩
      unfold endsAt
      rw [hts hd]
      exact zj
    · refine ⟨2, ?_, by omega, by omega⟩
      unfold endsAt
      rw [htf hd]
      exact zj
  | 2, _ =>
    generalize ordS s = s' at *
    generalize ordS t = t' at *
    repeat' ((conv=>whnf);first|(exfalso; omega)|refine draw_c [(6, 6), (8, 8), (9, 9), (123, 6), (125, 6)] (by repeat' (first | exact trivial | exact rfl | refine And.intro ?_ ?_)) (by kernel_rfl) ?_|refine zc (vless_spec s'.1 t'.1) ?_|refine zc (vless_spec t'.2 s'.2) ?_|refine zc (vcmp_spec s'.1 s'.2) ?_|refine zc (vcmp_spec s'.1 t'.2) ?_|refine zc (vcmp_spec t'.1 s'.2) ?_|refine zc (vcmp_spec t'.1 t'.2) ?_|refine zc (single_spec s'.1) ?_|refine zc (single_spec t'.1) ?_|refine zg ?_|refine zd (fun hd=>?_) (fun hd=>?_)|refine zl (fun hlt=>?_) (fun hlt=>?_)|refine ze (fun heq=>?_) (fun heq=>?_)|refine zr ?_)
    all_goals conv=>whnf
    all_goals
      first
      | rw [hiLo_tt (by assumption) (by assumption)] at hhl
      | rw [hiLo_tf (by assumption) (by assumption)] at hhl
      | rw [hiLo_ft (by assumption) (by assumption)] at hhl
      | rw [hiLo_ff (by assumption) (by assumption)] at hhl
      subst hhl
    all_goals first
      | (rw [hM, over_0 (by assumption)]; refine ⟨?_, rfl, fun rs h => V.noConfusion h⟩; (repeat' (first | exact trivial | refine And.intro ?_ ?_ | with_reducible rfl | exact (fun h => by cases h) | exact rfl)); done)
      | (rw [hM, over_1 (by assumption)]; refine ⟨?_, rfl, fun rs h => V.noConfusion h⟩; (repeat' (first | exact trivial | refine And.intro ?_ ?_ | with_reducible rfl | exact (fun h => by cases h) | exact rfl)); done)
      | (rw [hM, over_2 (by assumption) (by assumption)]; refine ⟨?_, rfl, fun rs h => V.noConfusion h⟩; (repeat' (first | exact trivial | refine And.intro ?_ ?_ | with_reducible rfl | exact (fun h => by cases h) | exact rfl)); done)
end Go.Proofs.Led
