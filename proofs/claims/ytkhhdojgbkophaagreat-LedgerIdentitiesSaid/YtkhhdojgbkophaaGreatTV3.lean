/-
  What two segments have in common, walked.
-/
import Derived.Test.YtkhhdojgbkophaaGreatH18
set_option linter.unusedVariables false
set_option linter.unusedSimpArgs false
namespace Go.Proofs.Led
open Go Go.Proofs Go.Ab
set_option maxRecDepth 100000
theorem veq_t {a b : Vc} : andB (eqB a.1 b.1) (andB (eqB a.2 b.2) true) = true ↔ a = b := by
  rw [and_t, and_t, eqB_t, eqB_t]
  constructor
  · rintro ⟨h1, h2, _⟩
    exact Prod.ext h1 h2
  · rintro rfl
    exact ⟨rfl, rfl, rfl⟩
theorem br_veq {a b : Vc} {A B : Prop} (h1 : a = b -> A) (h2 : a ≠ b -> B) : branch (andB (eqB a.1 b.1) (andB (eqB a.2 b.2) true)) A B :=
  branch_s (fun h => h1 (veq_t.1 h)) (fun h => h2 (fun e => by rw [veq_t.2 e] at h; cases h))
theorem eqVc (a b c d : Int) : eqT T 4 76 [I a, I b] [I c, I d] = some (andB (eqB a c) (andB (eqB b d) true)) := by kernel_rfl
theorem eqVc_i {a b c d : Int} {K : Bool -> Prop} (h : K (andB (eqB a c) (andB (eqB b d) true))) : aggVC.match_1 (fun _ => Prop) (eqT T 4 76 [I a, I b] [I c, I d]) K (fun _ => False) := by
  rw [eqVc]; exact h
theorem need_rem {b : Int} {K : Prop} (h : b ≠ 0) (hk : K) : need (b ≠ 0) K := need_i h hk
theorem boxOf_cons (v : Vc) (l : List Vc) : boxOf (v :: l) = ((v :: l).foldl boxStep (v, v), true) := rfl
theorem boxOf_spec (l : List Vc) (hl : l.length <= 1000000) : Sp 220 [.sl (l.map vcV)] (.tup [bxV (boxOf l).1, .lit (.bool (boxOf l).2)]) := by
  refine zsp Tryz.func220 ?_
  have hll : (l.map vcV).length = l.length := by simp
  cases hl0 : l with
  | nil =>
    repeat' ((conv=>whnf);first|(exfalso; exact heq rfl)|refine zg ?_|refine ze (fun heq=>?_) (fun heq=>?_)|refine zr ?_)
    all_goals conv=>whnf
    all_goals first|exact ret_int rfl|exact ret_bool rfl|exact ret_lit rfl|exact zt|exact zu
  | cons x r =>
    rw [<- hl0]
    have hlen : l.length = r.length + 1 := by rw [hl0]; rfl
    have hb : boxOf l = (l.foldl boxStep (x, x), true) := by rw [hl0]; rfl
    repeat' ((conv=>whnf);first|(exfalso; omega)|refine need_len (l := l) (by omega) ?_|refine idx_mid (l := l) (A := []) (x := x) (B := r) hl0 rfl ?_|refine zg ?_|refine zi ?_|refine ze (fun heq=>?_) (fun heq=>?_))
    refine loop_2 (A := List Vc) (B := List Vc) (fun D R => mkSt [(0, .sl (l.map vcV)), (2, .box 2 0), (4, .box 4 0), (18, I l.length), (19, I D.length)] [(2, [I 0, I 0, I 0, I 0]), (4, (bxV (D.foldl boxStep (x, x))).cells)] [])
      (fun D R => l = D ++ R) (fun D R => R.length) [] l ?_ rfl (fun D R hp => ?_)
    · exact zj
    cases R with
    | nil =>
      have hlen' : l.length = D.length := by rw [show l = D ++ [] from hp]; simp
      have e : l = D := by rw [show l = D ++ [] from hp]; simp
      rw [hb]
      rw [show l.foldl boxStep (x, x) = D.foldl boxStep (x, x) by rw [e]]
      generalize D.foldl boxStep (x, x) = b
      repeat' ((conv=>whnf);first|(exfalso; omega)|refine zg ?_|refine zl (fun hlt=>?_) (fun hlt=>?_)|refine zr ?_)
      all_goals conv=>whnf
      all_goals first|exact ret_int rfl|exact ret_bool rfl|exact ret_lit rfl|exact zt|exact zu
    | cons y R =>
      have hlen' := mid_len hp
      have es : (D ++ [y]).foldl boxStep (x, x) = boxStep (D.foldl boxStep (x, x)) y := by rw [List.foldl_append]; rfl
      have eD : (D ++ [y]).length = D.length + 1 := by simp
      generalize D.foldl boxStep (x, x) = b at es
      obtain ⟨⟨b1, b2⟩, ⟨b3, b4⟩⟩ := b
      repeat' ((conv=>whnf);first|(exfalso; omega)|refine need_len (l := l) (by omega) ?_|refine idx_mid (l := l) (A := D) (x := y) (B := R) hp (by omega) ?_|refine draw_c [(4, 4), (40, 4), (41, 4), (62, 4), (63, 4), (0, 999), (5, 999), (34, 999), (35, 999), (36, 999), (37, 999), (56, 999), (57, 999), (58, 999), (59, 999)] (by repeat' (first | exact trivial | exact rfl | refine And.intro ?_ ?_)) (by kernel_rfl) ?_|refine zg ?_|refine za ?_|refine zl (fun hlt=>?_) (fun hlt=>?_))
      conv => whnf
      refine ⟨(D ++ [y], R), ?_, by rw [show l = D ++ y :: R from hp]; simp, by simp⟩
      simp only [es, eD]
      unfold boxStep
      simp only [<- minI_eq, <- maxI_eq]
      exact zj
theorem gcd_spec (a b : Int) : Sp 373 [I a, I b] (I (divisor a b)) := by
  refine zsp Tryz.func373 ?_
  repeat' ((conv=>whnf);first|refine zg ?_)
  refine loop_2 (A := Int) (B := Int) (fun x y => mkSt [(0, I x), (1, I y)] [] []) (fun x y => gcdI x y = gcdI a b) (fun x y => y.natAbs) a b ?_ rfl (fun x y hp => ?_)
  · exact zj
  have hp : gcdI x y = gcdI a b := hp
  by_cases h0 : y = 0
  · subst h0
    have e : gcdI x 0 = x := by rw [gcdI]; simp
    repeat' ((conv=>whnf);first|(exfalso; omega)|refine zg ?_|refine zw ?_|refine zn ?_|refine zz (fun _=>?_) fun _=>?_|refine zr ?_)
    all_goals conv=>whnf
    refine ret_int ?_
    unfold divisor
    rw [<- hp, e, maxI_eq]
  · have e : gcdI x y = gcdI y (x.tmod y) := by rw [gcdI, dif_neg h0]
    repeat' ((conv=>whnf);first|refine need_rem h0 ?_|(exfalso; omega)|refine zg ?_|refine zi ?_|refine zn ?_|refine zz (fun _=>?_) fun _=>?_)
    all_goals conv=>whnf
    refine ⟨(y, x.tmod y), ?_, by rw [<- hp, e], tmod_lt x y h0⟩
    exact zj
theorem segOn_spec (s : Sg) (p : Vc) : Sp 340 [sgV s, vcV p] (DB (segOn s p)) := by
  refine zsp Tryz.func340 ?_
  have hbx := boxOf_spec [s.1, s.2] (by simp)
  generalize hb : boxOf [s.1, s.2] = bb at hbx
  obtain ⟨b, ok⟩ := bb
  repeat' ((conv=>whnf);first|refine zc hbx ?_|refine zc (segOk_spec s) ?_|refine zc (inBox_spec b p) ?_|refine zc (vturn_spec s.1 s.2 p) ?_|refine zg ?_|refine zz (fun _=>?_) fun _=>?_|refine zr ?_)
  all_goals conv=>whnf
  all_goals refine ret_boolD ?_
  all_goals first
    | (refine eq_dec ?_; unfold segOn; simp [*]; done)
    | exact dec_retf (by unfold segOn; simp [*])
theorem pointOf_spec (p : Vc) : Sp 324 [vcV p] (ptV (p.1, p.2, 1)) := by
  refine zsp Tryz.func324 ?_
  repeat' ((conv=>whnf);first|refine zg ?_|refine zr ?_)
  all_goals conv=>whnf
  all_goals first|exact ret_int rfl|exact ret_bool rfl|exact ret_lit rfl|exact zt|exact zu
theorem single_spec (p : Vc) : Sp 359 [vcV p] (cmV (single p)) := by
  refine zsp Tryz.func359 ?_
  repeat' ((conv=>whnf);first|refine zc (pointOf_spec p) ?_|refine zg ?_|refine zr ?_)
  all_goals conv=>whnf
  all_goals first|exact ret_int rfl|exact ret_bool rfl|exact ret_lit rfl|exact zt|exact zu
theorem bounded_spec (p : Pt) (m : Int) : Sp 374 [ptV p, I m] (DB (bounded p m)) := by
  refine zsp Tryz.func374 ?_
  repeat' ((conv=>whnf);first|refine zc (within_spec (p.1, p.2.1) (W (m * p.2.2))) ?_|refine zg ?_|refine zw ?_|refine zz (fun _=>?_) fun _=>?_|refine zr ?_)
  all_goals conv=>whnf
  all_goals refine ret_boolD ?_
  all_goals first
    | exact dec_retf (by unfold bounded; omega)
    | (refine dec_dec ?_; unfold bounded; constructor; (· intro h; exact ⟨by omega, by omega, h⟩); (· intro h; exact h.2.2))
theorem pointOk_spec (p : Pt) : Sp 361 [ptV p] (DB (pointOk p)) := by
  refine zsp Tryz.func361 ?_
  repeat' ((conv=>whnf);first|refine zc (bounded_spec p 4000) ?_|refine zc (gcd_spec p.1 p.2.1) ?_|refine zc (gcd_spec (divisor p.1 p.2.1) p.2.2) ?_|refine zg ?_|refine zi ?_|refine zz (fun _=>?_) fun _=>?_|refine zr ?_)
  all_goals conv=>whnf
  all_goals refine ret_boolD ?_
  all_goals first
    | (refine eq_dec ?_; unfold pointOk; simp [*]; done)
    | exact dec_retf (by unfold pointOk; simp [*])
end Go.Proofs.Led
