/-
  Summaries of programs, walked: the two functions.
  The reference's summaries, programs' bills, and the statement on them, walked.
  The statement on bills of programs, walked.
-/
import Derived.Test.YtckcanemolkncaaDoorM1
set_option linter.unusedVariables false
set_option linter.unusedSimpArgs false
namespace Go.Proofs.Cost58
open Go Go.Proofs Go.Ab
set_option maxRecDepth 100000

noncomputable def stV (s : Sm) : V := .agg [I s.ra, I s.cu, I s.pi, I s.jo, I (boxP s.pts).1.1, I (boxP s.pts).1.2, I (boxP s.pts).2.1, I (boxP s.pts).2.2, .lit (.bool (!decB (s.pts ≠ [])))]
def stZ : V := .agg [I 0, I 0, I 0, I 0, I 0, I 0, I 0, I 0, .lit (.bool false)]
theorem two_cells {x y : V} {n : Nat} (h1 : x.cells.length = n) (h2 : y.cells.length = n) : ∀ z ∈ [x, y], z.cells.length = n := fun z hz => by
  rcases List.mem_cons.1 hz with rfl | hz
  · exact h1
  · cases List.mem_singleton.1 hz; exact h2
theorem smallV.big {B C : Int} {v : Vc} (h : smallV B v) (hc : B ≤ C) : smallV C v := ⟨⟨by have := h.1; omega, by have := h.1; omega⟩, ⟨by have := h.2; omega, by have := h.2; omega⟩⟩

theorem psum_no_vc (l : List Mv) (hl : l.length ≤ 1000000) (hn : ¬ prOk l) : fnVC T Tryd.prog Tryd.f45 [.sl (l.map mvV)] (.tup [stZ, I 1]) := by
  repeat' ((conv => whnf); first
    | (refine call_i (valid49_spec l hl) false ?_ rfl ?_; focus ((repeat' (first | exact trivial | refine And.intro ?_ ?_ | with_reducible rfl | exact (fun h => by cases h) | exact rfl)); done))
    | (exact (hn hd).elim)
    | refine seq_go ?_
    | refine draw_i (by kernel_rfl) ?_
    | refine arith_half (by omega) ?_
    | refine arith_in (by omega) ?_
    | refine arith_u (by omega) ?_
    | refine need_i (p := (T.row _).eq = true) (by kernel_rfl) ?_
    | refine need_i (by omega) ?_
    | refine br_not ?_
    | refine br_dec (fun hd => ?_) (fun hd => ?_)
    | refine br_lt (fun hlt => ?_) (fun hlt => ?_)
    | refine br_le (fun hle => ?_) (fun hle => ?_)
    | refine br_eq (fun heq => ?_) (fun heq => ?_)
    | refine idx_map (by omega) (fun x hx => ?_)
    | refine live_i rfl (fun h => by cases h) ?_
    | refine branch_s (fun hbb => ?_) (fun hbb => ?_)
    | refine ret_i ?_)
  conv => whnf
  exact ret_two ⟨rfl, rfl, rfl, rfl, rfl, rfl, rfl, rfl, rfl, trivial⟩ rfl rfl
theorem rsum_no_vc (l : List Mv) (hl : l.length ≤ 1000000) (hn : ¬ prOk l) : fnVC T Tryd.prog Tryd.f46 [.sl (l.map mvV)] (.tup [stZ, I 1]) := by
  repeat' ((conv => whnf); first
    | (refine call_i (rvalid49_spec l hl) false ?_ rfl ?_; focus ((repeat' (first | exact trivial | refine And.intro ?_ ?_ | with_reducible rfl | exact (fun h => by cases h) | exact rfl)); done))
    | (exact (hn hd).elim)
    | refine seq_go ?_
    | refine draw_i (by kernel_rfl) ?_
    | refine arith_half (by omega) ?_
    | refine arith_in (by omega) ?_
    | refine arith_u (by omega) ?_
    | refine need_i (p := (T.row _).eq = true) (by kernel_rfl) ?_
    | refine need_i (by omega) ?_
    | refine br_not ?_
    | refine br_dec (fun hd => ?_) (fun hd => ?_)
    | refine br_lt (fun hlt => ?_) (fun hlt => ?_)
    | refine br_le (fun hle => ?_) (fun hle => ?_)
    | refine br_eq (fun heq => ?_) (fun heq => ?_)
    | refine idx_map (by omega) (fun x hx => ?_)
    | refine live_i rfl (fun h => by cases h) ?_
    | refine branch_s (fun hbb => ?_) (fun hbb => ?_)
    | refine ret_i ?_)
  conv => whnf
  exact ret_two ⟨rfl, rfl, rfl, rfl, rfl, rfl, rfl, rfl, rfl, trivial⟩ rfl rfl

theorem psum_vc (l : List Mv) (hok : prOk l) : fnVC T Tryd.prog Tryd.f45 [.sl (l.map mvV)] (.tup [stV (sumS l), I 0]) := by
  have hll : (l.map mvV).length = l.length := by simp
  obtain ⟨hl, hm⟩ := id hok
  repeat' ((conv => whnf); first
    | (refine call_i (valid49_spec l (by omega)) false ?_ rfl ?_; focus ((repeat' (first | exact trivial | refine And.intro ?_ ?_ | with_reducible rfl | exact (fun h => by cases h) | exact rfl)); done))
    | (exact (hd hok).elim)
    | refine seq_go ?_
    | refine draw_i (by kernel_rfl) ?_
    | refine arith_half (by omega) ?_
    | refine arith_in (by omega) ?_
    | refine arith_u (by omega) ?_
    | refine need_i (p := (T.row _).eq = true) (by kernel_rfl) ?_
    | refine need_i (by omega) ?_
    | refine br_not ?_
    | refine br_dec (fun hd => ?_) (fun hd => ?_)
    | refine br_lt (fun hlt => ?_) (fun hlt => ?_)
    | refine br_le (fun hle => ?_) (fun hle => ?_)
    | refine br_eq (fun heq => ?_) (fun heq => ?_)
    | refine idx_map (by omega) (fun x hx => ?_)
    | refine live_i rfl (fun h => by cases h) ?_
    | refine branch_s (fun hbb => ?_) (fun hbb => ?_)
    | refine ret_i ?_)
  refine loop_3 (A := List Mv) (B := List Mv) (C := Nat) (fun D R g => mkSt [(2, .box 2 0), (4, .box 4 0), (5, .box 5 0), (6, .arr 52 g), (15, .sl (l.map mvV)), (16, I l.length), (17, I D.length)]
      [(2, [I 0, I 0, I 0, I 0, I 0, I 0, I 0, I 0, .lit (.bool false)]), (4, [I (sumS D).ra, I (sumS D).cu, I (sumS D).pi, I (sumS D).jo, I 0, I 0, I 0, I 0, .lit (.bool false)]), (5, [I (sumS D).pos.1, I (sumS D).pos.2])] [(52, ⟨g, .own, 64, (sumS D).pts.map vcV⟩)])
    (fun D R g => l = D ++ R) (fun D R g => R.length) [] l 0 ?_ rfl (fun D R g hp => ?_)
  · refine le_mk ?_ ?_ ?_ ?_
    all_goals repeat' (first | exact trivial | refine And.intro ?_ ?_ | with_reducible rfl | exact Nat.le_refl _ | omega | exact rfl)
  · have h1 : l = D ++ R := hp
    have hlen : l.length = D.length + R.length := by rw [h1]; simp
    have hB := sumB49 D (fun m h => hm m (by rw [h1]; simp [h]))
    cases R with
    | nil =>
      have e : l = D := by rw [h1]; simp
      rw [e]
      simp at hlen
      have hpl : (sumS D).pts.length ≤ 1000000 := by have := hB.2.2.2.2.2; omega
      have hbx := pbox_spec (sumS D).pts hpl
      repeat' ((conv => whnf); first
        | (exfalso; omega)
        | (refine call_i (hbx) false ?_ rfl ?_; focus ((repeat' (first | exact trivial | refine And.intro ?_ ?_ | with_reducible rfl | exact (fun h => by cases h) | exact rfl)); done))
        | refine seq_go ?_
        | refine draw_i (by kernel_rfl) ?_
        | refine arith_half (by omega) ?_
        | refine arith_in (by omega) ?_
        | refine arith_u (by omega) ?_
        | refine need_i (p := (T.row _).eq = true) (by kernel_rfl) ?_
        | refine need_i (by omega) ?_
        | refine br_not ?_
        | refine br_dec (fun hd => ?_) (fun hd => ?_)
        | refine br_lt (fun hlt => ?_) (fun hlt => ?_)
        | refine br_le (fun hle => ?_) (fun hle => ?_)
        | refine br_eq (fun heq => ?_) (fun heq => ?_)
        | refine idx_map (by omega) (fun x hx => ?_)
        | refine live_i rfl (fun h => by cases h) ?_
        | refine branch_s (fun hbb => ?_) (fun hbb => ?_)
        | refine ret_i ?_)
      conv => whnf
      exact ret_two ⟨rfl, rfl, rfl, rfl, rfl, rfl, rfl, rfl, rfl, trivial⟩ rfl rfl
    | cons x R =>
      rw [List.length_cons] at hlen
      have hx := hm x (by rw [h1]; simp)
      have hxs := mv_small hx
      obtain ⟨b1, b2, b3, b4, b5, b6⟩ := id hB
      have hn := normB (subB hxs b5)
      have hes : sumS (D ++ [x]) = stepS (sumS D) x := sumS_snoc D x
      generalize sumS D = s at *
      have next : ∀ {σ : St} {g' : Nat}, Le T σ (mkSt [(2, .box 2 0), (4, .box 4 0), (5, .box 5 0), (6, .arr 52 g'), (15, .sl (l.map mvV)), (16, I l.length), (17, I (D ++ [x]).length)]
          [(2, [I 0, I 0, I 0, I 0, I 0, I 0, I 0, I 0, .lit (.bool false)]), (4, [I (stepS s x).ra, I (stepS s x).cu, I (stepS s x).pi, I (stepS s x).jo, I 0, I 0, I 0, I 0, .lit (.bool false)]), (5, [I (stepS s x).pos.1, I (stepS s x).pos.2])] [(52, ⟨g', .own, 64, (stepS s x).pts.map vcV⟩)]) →
          ∃ p' : List Mv × List Mv × Nat, Le T σ ((fun D R g => mkSt [(2, .box 2 0), (4, .box 4 0), (5, .box 5 0), (6, .arr 52 g), (15, .sl (l.map mvV)), (16, I l.length), (17, I D.length)]
      [(2, [I 0, I 0, I 0, I 0, I 0, I 0, I 0, I 0, .lit (.bool false)]), (4, [I (sumS D).ra, I (sumS D).cu, I (sumS D).pi, I (sumS D).jo, I 0, I 0, I 0, I 0, .lit (.bool false)]), (5, [I (sumS D).pos.1, I (sumS D).pos.2])] [(52, ⟨g, .own, 64, (sumS D).pts.map vcV⟩)]) p'.1 p'.2.1 p'.2.2) ∧ (l = p'.1 ++ p'.2.1) ∧ p'.2.1.length < (x :: R).length := by
        intro σ g' h
        refine ⟨(D ++ [x], R, g'), ?_, by rw [h1]; simp, by simp⟩
        show Le T σ (mkSt _ [(2, _), (4, [I (sumS (D ++ [x])).ra, I (sumS (D ++ [x])).cu, I (sumS (D ++ [x])).pi, I (sumS (D ++ [x])).jo, I 0, I 0, I 0, I 0, _]), (5, [I (sumS (D ++ [x])).pos.1, I (sumS (D ++ [x])).pos.2])] [(52, ⟨g', .own, 64, (sumS (D ++ [x])).pts.map vcV⟩)])
        rw [hes]; exact h
      repeat' ((conv => whnf); first
        | (exfalso; omega)
        | refine idx_mid (l := l) (A := D) (x := x) (B := R) h1 (by omega) ?_
        | (refine call_i (psub_spec x.2 s.pos (hxs.big (by decide)) (b5.big (by decide))) false ?_ rfl ?_; focus ((repeat' (first | exact trivial | refine And.intro ?_ ?_ | with_reducible rfl | exact (fun h => by cases h) | exact rfl)); done))
        | (refine call_i (pnorm_spec (subV x.2 s.pos) ((subB hxs b5).big (by decide))) false ?_ rfl ?_; focus ((repeat' (first | exact trivial | refine And.intro ?_ ?_ | with_reducible rfl | exact (fun h => by cases h) | exact rfl)); done))
        | refine need_app rfl (.inl rfl) rfl (of_decide_eq_true rfl) (two_cells rfl rfl) (by show (List.map vcV s.pts).length + 2 ≤ _; rw [List.length_map]; omega) ?_
        | refine seq_go ?_
        | refine draw_i (by kernel_rfl) ?_
        | refine arith_half (by omega) ?_
        | refine arith_in (by omega) ?_
        | refine arith_u (by omega) ?_
        | refine need_i (p := (T.row _).eq = true) (by kernel_rfl) ?_
        | refine need_i (by omega) ?_
        | refine br_not ?_
        | refine br_dec (fun hd => ?_) (fun hd => ?_)
        | refine br_lt (fun hlt => ?_) (fun hlt => ?_)
        | refine br_le (fun hle => ?_) (fun hle => ?_)
        | refine br_eq (fun heq => ?_) (fun heq => ?_)
        | refine idx_map (by omega) (fun x hx => ?_)
        | refine live_i rfl (fun h => by cases h) ?_
        | refine branch_s (fun hbb => ?_) (fun hbb => ?_)
        | refine ret_i ?_)
      · have hst : stepS s x = { s with ra := s.ra + normV (subV x.2 s.pos), pos := x.2 } := by unfold stepS; rw [if_pos heq]
        conv => whnf
        refine next (g' := g) ?_
        rw [hst]
        refine le_mk ?_ ?_ ?_ ?_
        all_goals repeat' (first | exact trivial | refine And.intro ?_ ?_ | with_reducible rfl | exact Nat.le_refl _ | omega | exact rfl)
        · show (D.length : Int) + 1 = (D ++ [x]).length
          simp
      · have hst : stepS s x = { s with cu := s.cu + normV (subV x.2 s.pos), pts := s.pts ++ [s.pos, x.2], pos := x.2 } := by unfold stepS; rw [if_neg (by omega), if_pos heq]
        conv => whnf
        refine next (g' := g + 1) ?_
        rw [hst]
        refine le_mk ?_ ?_ ?_ ?_
        all_goals repeat' (first | exact trivial | refine And.intro ?_ ?_ | with_reducible rfl | exact Nat.le_refl _ | omega | exact rfl)
        · show List.map vcV s.pts ++ [vcV s.pos, vcV x.2] = List.map vcV (s.pts ++ [s.pos, x.2])
          simp
        · show (D.length : Int) + 1 = (D ++ [x]).length
          simp
      · have hst : stepS s x = { s with pi := s.pi + 1 } := by unfold stepS; rw [if_neg (by omega), if_neg (by omega), if_pos heq]
        conv => whnf
        refine next (g' := g) ?_
        rw [hst]
        refine le_mk ?_ ?_ ?_ ?_
        all_goals repeat' (first | exact trivial | refine And.intro ?_ ?_ | with_reducible rfl | exact Nat.le_refl _ | omega | exact rfl)
        · show (D.length : Int) + 1 = (D ++ [x]).length
          simp
      · have hst : stepS s x = { s with jo := s.jo + 1 } := by unfold stepS; rw [if_neg (by omega), if_neg (by omega), if_neg (by omega), if_pos heq]
        conv => whnf
        refine next (g' := g) ?_
        rw [hst]
        refine le_mk ?_ ?_ ?_ ?_
        all_goals repeat' (first | exact trivial | refine And.intro ?_ ?_ | with_reducible rfl | exact Nat.le_refl _ | omega | exact rfl)
        · show (D.length : Int) + 1 = (D ++ [x]).length
          simp
      · have hst : stepS s x = s := by unfold stepS; rw [if_neg (by omega), if_neg (by omega), if_neg (by omega), if_neg (by omega)]
        conv => whnf
        refine next (g' := g) ?_
        rw [hst]
        refine le_mk ?_ ?_ ?_ ?_
        all_goals repeat' (first | exact trivial | refine And.intro ?_ ?_ | with_reducible rfl | exact Nat.le_refl _ | omega | exact rfl)
        · show (D.length : Int) + 1 = (D ++ [x]).length
          simp
theorem psum_spec (l : List Mv) (hok : prOk l) : Sp 45 [.sl (l.map mvV)] (.tup [stV (sumS l), I 0]) := sp_of Tryd.func45 (by kernel_rfl) (by kernel_rfl) (psum_vc l hok)
theorem psum_no (l : List Mv) (hl : l.length ≤ 1000000) (hn : ¬ prOk l) : Sp 45 [.sl (l.map mvV)] (.tup [stZ, I 1]) := sp_of Tryd.func45 (by kernel_rfl) (by kernel_rfl) (psum_no_vc l hl hn)
theorem rsum_no (l : List Mv) (hl : l.length ≤ 1000000) (hn : ¬ prOk l) : Sp 46 [.sl (l.map mvV)] (.tup [stZ, I 1]) := sp_of Tryd.func46 (by kernel_rfl) (by kernel_rfl) (rsum_no_vc l hl hn)
end Go.Proofs.Cost58
namespace Go.Proofs.Cost58
open Go Go.Proofs Go.Ab
set_option maxRecDepth 100000

theorem rsum_vc (l : List Mv) (hok : prOk l) : fnVC T Tryd.prog Tryd.f46 [.sl (l.map mvV)] (.tup [stV (sumS l), I 0]) := by
  have hll : (l.map mvV).length = l.length := by simp
  obtain ⟨hl, hm⟩ := id hok
  repeat' ((conv => whnf); first
    | (refine call_i (rvalid49_spec l (by omega)) false ?_ rfl ?_; focus ((repeat' (first | exact trivial | refine And.intro ?_ ?_ | with_reducible rfl | exact (fun h => by cases h) | exact rfl)); done))
    | (exact (hd hok).elim)
    | refine seq_go ?_
    | refine draw_i (by kernel_rfl) ?_
    | refine arith_half (by omega) ?_
    | refine arith_in (by omega) ?_
    | refine arith_u (by omega) ?_
    | refine need_i (p := (T.row _).eq = true) (by kernel_rfl) ?_
    | refine need_i (by omega) ?_
    | refine br_not ?_
    | refine br_dec (fun hd => ?_) (fun hd => ?_)
    | refine br_lt (fun hlt => ?_) (fun hlt => ?_)
    | refine br_le (fun hle => ?_) (fun hle => ?_)
    | refine br_eq (fun heq => ?_) (fun heq => ?_)
    | refine idx_map (by omega) (fun x hx => ?_)
    | refine live_i rfl (fun h => by cases h) ?_
    | refine branch_s (fun hbb => ?_) (fun hbb => ?_)
    | refine ret_i ?_)
  refine loop_3 (A := List Mv) (B := List Mv) (C := Nat) (fun D R g => mkSt [(0, .sl (l.map mvV)), (2, .box 2 0), (4, .box 4 0), (5, .arr 62 g), (6, .box 6 0), (7, I D.length)]
      [(2, [I 0, I 0, I 0, I 0, I 0, I 0, I 0, I 0, .lit (.bool false)]), (4, [I (sumS D).ra, I (sumS D).cu, I (sumS D).pi, I (sumS D).jo, I 0, I 0, I 0, I 0, .lit (.bool false)]), (6, [I (sumS D).pos.1, I (sumS D).pos.2])] [(62, ⟨g, .own, 64, (sumS D).pts.map vcV⟩)])
    (fun D R g => l = D ++ R) (fun D R g => R.length) [] l 0 ?_ rfl (fun D R g hp => ?_)
  · refine le_mk ?_ ?_ ?_ ?_
    all_goals repeat' (first | exact trivial | refine And.intro ?_ ?_ | with_reducible rfl | exact Nat.le_refl _ | omega | exact rfl)
  · have h1 : l = D ++ R := hp
    have hlen : l.length = D.length + R.length := by rw [h1]; simp
    have hB := sumB49 D (fun m h => hm m (by rw [h1]; simp [h]))
    cases R with
    | nil =>
      have e : l = D := by rw [h1]; simp
      rw [e]
      simp at hlen
      have hlD : (D.map mvV).length = D.length := by simp
      have hpl : (sumS D).pts.length ≤ 1000000 := by have := hB.2.2.2.2.2; omega
      have hbx := rbox_spec (sumS D).pts hpl
      repeat' ((conv => whnf); first
        | (exfalso; omega)
        | (refine call_i (hbx) false ?_ rfl ?_; focus ((repeat' (first | exact trivial | refine And.intro ?_ ?_ | with_reducible rfl | exact (fun h => by cases h) | exact rfl)); done))
        | refine seq_go ?_
        | refine draw_i (by kernel_rfl) ?_
        | refine arith_half (by omega) ?_
        | refine arith_in (by omega) ?_
        | refine arith_u (by omega) ?_
        | refine need_i (p := (T.row _).eq = true) (by kernel_rfl) ?_
        | refine need_i (by omega) ?_
        | refine br_not ?_
        | refine br_dec (fun hd => ?_) (fun hd => ?_)
        | refine br_lt (fun hlt => ?_) (fun hlt => ?_)
        | refine br_le (fun hle => ?_) (fun hle => ?_)
        | refine br_eq (fun heq => ?_) (fun heq => ?_)
        | refine idx_map (by omega) (fun x hx => ?_)
        | refine live_i rfl (fun h => by cases h) ?_
        | refine branch_s (fun hbb => ?_) (fun hbb => ?_)
        | refine ret_i ?_)
      conv => whnf
      exact ret_two ⟨rfl, rfl, rfl, rfl, rfl, rfl, rfl, rfl, rfl, trivial⟩ rfl rfl
    | cons x R =>
      rw [List.length_cons] at hlen
      have hx := hm x (by rw [h1]; simp)
      have hxs := mv_small hx
      obtain ⟨b1, b2, b3, b4, b5, b6⟩ := id hB
      have hn := normB (subB hxs b5)
      have hes : sumS (D ++ [x]) = stepS (sumS D) x := sumS_snoc D x
      generalize sumS D = s at *
      have next : ∀ {σ : St} {g' : Nat}, Le T σ (mkSt [(0, .sl (l.map mvV)), (2, .box 2 0), (4, .box 4 0), (5, .arr 62 g'), (6, .box 6 0), (7, I (D ++ [x]).length)]
          [(2, [I 0, I 0, I 0, I 0, I 0, I 0, I 0, I 0, .lit (.bool false)]), (4, [I (stepS s x).ra, I (stepS s x).cu, I (stepS s x).pi, I (stepS s x).jo, I 0, I 0, I 0, I 0, .lit (.bool false)]), (6, [I (stepS s x).pos.1, I (stepS s x).pos.2])] [(62, ⟨g', .own, 64, (stepS s x).pts.map vcV⟩)]) →
          ∃ p' : List Mv × List Mv × Nat, Le T σ ((fun D R g => mkSt [(0, .sl (l.map mvV)), (2, .box 2 0), (4, .box 4 0), (5, .arr 62 g), (6, .box 6 0), (7, I D.length)]
      [(2, [I 0, I 0, I 0, I 0, I 0, I 0, I 0, I 0, .lit (.bool false)]), (4, [I (sumS D).ra, I (sumS D).cu, I (sumS D).pi, I (sumS D).jo, I 0, I 0, I 0, I 0, .lit (.bool false)]), (6, [I (sumS D).pos.1, I (sumS D).pos.2])] [(62, ⟨g, .own, 64, (sumS D).pts.map vcV⟩)]) p'.1 p'.2.1 p'.2.2) ∧ (l = p'.1 ++ p'.2.1) ∧ p'.2.1.length < (x :: R).length := by
        intro σ g' h
        refine ⟨(D ++ [x], R, g'), ?_, by rw [h1]; simp, by simp⟩
        show Le T σ (mkSt _ [(2, _), (4, [I (sumS (D ++ [x])).ra, I (sumS (D ++ [x])).cu, I (sumS (D ++ [x])).pi, I (sumS (D ++ [x])).jo, I 0, I 0, I 0, I 0, _]), (6, [I (sumS (D ++ [x])).pos.1, I (sumS (D ++ [x])).pos.2])] [(62, ⟨g', .own, 64, (sumS (D ++ [x])).pts.map vcV⟩)])
        rw [hes]; exact h
      repeat' ((conv => whnf); first
        | (exfalso; omega)
        | refine idx_mid (l := l) (A := D) (x := x) (B := R) h1 (by omega) ?_
        | (refine call_i (rsub_spec x.2 s.pos (hxs.big (by decide)) (b5.big (by decide))) false ?_ rfl ?_; focus ((repeat' (first | exact trivial | refine And.intro ?_ ?_ | with_reducible rfl | exact (fun h => by cases h) | exact rfl)); done))
        | (refine call_i (rnorm_spec (subV x.2 s.pos) ((subB hxs b5).big (by decide))) false ?_ rfl ?_; focus ((repeat' (first | exact trivial | refine And.intro ?_ ?_ | with_reducible rfl | exact (fun h => by cases h) | exact rfl)); done))
        | refine need_app rfl (.inl rfl) rfl (of_decide_eq_true rfl) (two_cells rfl rfl) (by show (List.map vcV s.pts).length + 2 ≤ _; rw [List.length_map]; omega) ?_
        | refine seq_go ?_
        | refine draw_i (by kernel_rfl) ?_
        | refine arith_half (by omega) ?_
        | refine arith_in (by omega) ?_
        | refine arith_u (by omega) ?_
        | refine need_i (p := (T.row _).eq = true) (by kernel_rfl) ?_
        | refine need_i (by omega) ?_
        | refine br_not ?_
        | refine br_dec (fun hd => ?_) (fun hd => ?_)
        | refine br_lt (fun hlt => ?_) (fun hlt => ?_)
        | refine br_le (fun hle => ?_) (fun hle => ?_)
        | refine br_eq (fun heq => ?_) (fun heq => ?_)
        | refine idx_map (by omega) (fun x hx => ?_)
        | refine live_i rfl (fun h => by cases h) ?_
        | refine branch_s (fun hbb => ?_) (fun hbb => ?_)
        | refine ret_i ?_)
      · have hst : stepS s x = { s with ra := s.ra + normV (subV x.2 s.pos), pos := x.2 } := by unfold stepS; rw [if_pos heq]
        conv => whnf
        refine next (g' := g) ?_
        rw [hst]
        refine le_mk ?_ ?_ ?_ ?_
        all_goals repeat' (first | exact trivial | refine And.intro ?_ ?_ | with_reducible rfl | exact Nat.le_refl _ | omega | exact rfl)
        · show (D.length : Int) + 1 = (D ++ [x]).length
          simp
      · have hst : stepS s x = { s with cu := s.cu + normV (subV x.2 s.pos), pts := s.pts ++ [s.pos, x.2], pos := x.2 } := by unfold stepS; rw [if_neg (by omega), if_pos heq]
        conv => whnf
        refine next (g' := g + 1) ?_
        rw [hst]
        refine le_mk ?_ ?_ ?_ ?_
        all_goals repeat' (first | exact trivial | refine And.intro ?_ ?_ | with_reducible rfl | exact Nat.le_refl _ | omega | exact rfl)
        · show List.map vcV s.pts ++ [vcV s.pos, vcV x.2] = List.map vcV (s.pts ++ [s.pos, x.2])
          simp
        · show (D.length : Int) + 1 = (D ++ [x]).length
          simp
      · have hst : stepS s x = { s with pi := s.pi + 1 } := by unfold stepS; rw [if_neg (by omega), if_neg (by omega), if_pos heq]
        conv => whnf
        refine next (g' := g) ?_
        rw [hst]
        refine le_mk ?_ ?_ ?_ ?_
        all_goals repeat' (first | exact trivial | refine And.intro ?_ ?_ | with_reducible rfl | exact Nat.le_refl _ | omega | exact rfl)
        · show (D.length : Int) + 1 = (D ++ [x]).length
          simp
      · have hst : stepS s x = { s with jo := s.jo + 1 } := by unfold stepS; rw [if_neg (by omega), if_neg (by omega), if_neg (by omega), if_pos heq]
        conv => whnf
        refine next (g' := g) ?_
        rw [hst]
        refine le_mk ?_ ?_ ?_ ?_
        all_goals repeat' (first | exact trivial | refine And.intro ?_ ?_ | with_reducible rfl | exact Nat.le_refl _ | omega | exact rfl)
        · show (D.length : Int) + 1 = (D ++ [x]).length
          simp
      · have hst : stepS s x = s := by unfold stepS; rw [if_neg (by omega), if_neg (by omega), if_neg (by omega), if_neg (by omega)]
        conv => whnf
        refine next (g' := g) ?_
        rw [hst]
        refine le_mk ?_ ?_ ?_ ?_
        all_goals repeat' (first | exact trivial | refine And.intro ?_ ?_ | with_reducible rfl | exact Nat.le_refl _ | omega | exact rfl)
        · show (D.length : Int) + 1 = (D ++ [x]).length
          simp
theorem rsum_spec (l : List Mv) (hok : prOk l) : Sp 46 [.sl (l.map mvV)] (.tup [stV (sumS l), I 0]) := sp_of Tryd.func46 (by kernel_rfl) (by kernel_rfl) (rsum_vc l hok)

/-- the program's own moves -/
theorem own_vc (l : List Mv) (hl : l.length ≤ 1000000) : fnVC T Tryd.prog Tryd.f18 [.sl (l.map mvV)] (.own 67 (l.map mvV)) := by
  have hll : (l.map mvV).length = l.length := by simp
  repeat' ((conv => whnf); first
    | refine seq_go ?_
    | refine draw_i (by kernel_rfl) ?_
    | refine arith_half (by omega) ?_
    | refine arith_in (by omega) ?_
    | refine arith_u (by omega) ?_
    | refine need_i (p := (T.row _).eq = true) (by kernel_rfl) ?_
    | refine need_i (by omega) ?_
    | refine br_not ?_
    | refine br_dec (fun hd => ?_) (fun hd => ?_)
    | refine br_lt (fun hlt => ?_) (fun hlt => ?_)
    | refine br_le (fun hle => ?_) (fun hle => ?_)
    | refine br_eq (fun heq => ?_) (fun heq => ?_)
    | refine idx_map (by omega) (fun x hx => ?_)
    | refine live_i rfl (fun h => by cases h) ?_
    | refine branch_s (fun hbb => ?_) (fun hbb => ?_)
    | refine ret_i ?_)
  refine loop_2 (A := List Mv) (B := List Mv) (fun D R => mkSt [(0, .sl (l.map mvV)), (3, .arr 17 D.length), (4, I D.length)] [] [(17, ⟨D.length, .own, 67, D.map mvV⟩)])
    (fun D R => l = D ++ R) (fun D R => R.length) [] l ?_ rfl (fun D R hp => ?_)
  · refine le_mk ?_ ?_ ?_ ?_
    all_goals repeat' (first | exact trivial | refine And.intro ?_ ?_ | with_reducible rfl | exact Nat.le_refl _ | omega | exact rfl)
  · have h1 : l = D ++ R := hp
    have hlen : l.length = D.length + R.length := by rw [h1]; simp
    cases R with
    | nil =>
      have e : l = D := by rw [h1]; simp
      simp at hlen
      repeat' ((conv => whnf); first
        | (exfalso; omega)
        | refine seq_go ?_
        | refine draw_i (by kernel_rfl) ?_
        | refine arith_half (by omega) ?_
        | refine arith_in (by omega) ?_
        | refine arith_u (by omega) ?_
        | refine need_i (p := (T.row _).eq = true) (by kernel_rfl) ?_
        | refine need_i (by omega) ?_
        | refine br_not ?_
        | refine br_dec (fun hd => ?_) (fun hd => ?_)
        | refine br_lt (fun hlt => ?_) (fun hlt => ?_)
        | refine br_le (fun hle => ?_) (fun hle => ?_)
        | refine br_eq (fun heq => ?_) (fun heq => ?_)
        | refine idx_map (by omega) (fun x hx => ?_)
        | refine live_i rfl (fun h => by cases h) ?_
        | refine branch_s (fun hbb => ?_) (fun hbb => ?_)
        | refine ret_i ?_)
      conv => whnf
      refine ⟨⟨⟨rfl, rfl, rfl, ?_⟩, trivial⟩, rfl, fun _ h => by cases h⟩
      show List.map mvV D = List.map mvV l
      rw [e]
    | cons x R =>
      rw [List.length_cons] at hlen
      repeat' ((conv => whnf); first
        | (exfalso; omega)
        | refine idx_mid (l := l) (A := D) (x := x) (B := R) h1 (by omega) ?_
        | refine need_app rfl (.inl rfl) rfl (of_decide_eq_true rfl) (one_cells rfl) (by show (List.map mvV D).length + 1 ≤ _; rw [List.length_map]; omega) ?_
        | refine seq_go ?_
        | refine draw_i (by kernel_rfl) ?_
        | refine arith_half (by omega) ?_
        | refine arith_in (by omega) ?_
        | refine arith_u (by omega) ?_
        | refine need_i (p := (T.row _).eq = true) (by kernel_rfl) ?_
        | refine need_i (by omega) ?_
        | refine br_not ?_
        | refine br_dec (fun hd => ?_) (fun hd => ?_)
        | refine br_lt (fun hlt => ?_) (fun hlt => ?_)
        | refine br_le (fun hle => ?_) (fun hle => ?_)
        | refine br_eq (fun heq => ?_) (fun heq => ?_)
        | refine idx_map (by omega) (fun x hx => ?_)
        | refine live_i rfl (fun h => by cases h) ?_
        | refine branch_s (fun hbb => ?_) (fun hbb => ?_)
        | refine ret_i ?_)
      conv => whnf
      refine ⟨(D ++ [x], R), ?_, ?_, ?_⟩
      · refine le_mk ?_ ?_ ?_ ?_
        all_goals repeat' (first | exact trivial | refine And.intro ?_ ?_ | with_reducible rfl | exact Nat.le_refl _ | omega | exact rfl)
        all_goals first
          | (show D.length + 1 = (D ++ [x]).length; simp; done)
          | (show List.map mvV D ++ [mvV x] = List.map mvV (D ++ [x]); simp; done)
          | (show (D.length : Int) + 1 = (D ++ [x]).length; simp; done)
      · show l = D ++ [x] ++ R
        rw [h1]; simp
      · show R.length < (x :: R).length
        simp
theorem own_spec (l : List Mv) (hl : l.length ≤ 1000000) : Sp 18 [.sl (l.map mvV)] (.own 67 (l.map mvV)) := sp_of Tryd.func18 (by kernel_rfl) (by kernel_rfl) (own_vc l hl)

theorem rvalid_vc (r : Rt) : fnVC T Tryd.prog Tryd.f21 [rtV r] (.lit (.bool (decB (rtOk r)))) := by
  have hrl : r.l.length = 7 := rfl
  repeat' ((conv => whnf); first
    | refine seq_go ?_
    | refine draw_i (by kernel_rfl) ?_
    | refine arith_half (by omega) ?_
    | refine arith_in (by omega) ?_
    | refine arith_u (by omega) ?_
    | refine need_i (p := (T.row _).eq = true) (by kernel_rfl) ?_
    | refine need_i (by omega) ?_
    | refine br_not ?_
    | refine br_dec (fun hd => ?_) (fun hd => ?_)
    | refine br_lt (fun hlt => ?_) (fun hlt => ?_)
    | refine br_le (fun hle => ?_) (fun hle => ?_)
    | refine br_eq (fun heq => ?_) (fun heq => ?_)
    | refine idx_map (by omega) (fun x hx => ?_)
    | refine live_i rfl (fun h => by cases h) ?_
    | refine branch_s (fun hbb => ?_) (fun hbb => ?_)
    | refine ret_i ?_)
  refine loop_i (A := Nat) (fun k => mkSt [(3, .arr 19 0), (4, I k)] [] [(19, ⟨0, .own, 3, r.l.map I⟩)]) (fun k => k ≤ 7 ∧ ∀ i (h : i < r.l.length), i < k → 0 ≤ r.l[i] ∧ r.l[i] ≤ 1000) (fun k => 7 - k) 0 ?_ ⟨by omega, fun i h hi => by omega⟩ (fun k hk => ?_)
  · refine le_mk ?_ ?_ ?_ ?_
    all_goals repeat' (first | exact trivial | refine And.intro ?_ ?_ | with_reducible rfl | exact Nat.le_refl _ | omega | exact rfl)
  · obtain ⟨hk1, hk2⟩ := hk
    rcases Nat.lt_or_ge k 7 with hk7 | hk7
    · have hkr : k < r.l.length := by omega
      have bad : ¬ (0 ≤ r.l[k] ∧ r.l[k] ≤ 1000) → ¬ rtOk r := fun hn h => hn (h _ (List.getElem_mem hkr))
      repeat' ((conv => whnf); first
        | (exfalso; change (7 : Int) ≤ k at hlt; omega)
        | (refine need_mid (l := r.l) rfl (fun h => by cases h) rfl ?_ ?_; focus (constructor <;> omega))
        | refine idx_get (f := I) (l := r.l) (by omega) ?_
        | refine seq_go ?_
        | refine draw_i (by kernel_rfl) ?_
        | refine arith_half (by omega) ?_
        | refine arith_in (by omega) ?_
        | refine arith_u (by omega) ?_
        | refine need_i (p := (T.row _).eq = true) (by kernel_rfl) ?_
        | refine need_i (by omega) ?_
        | refine br_not ?_
        | refine br_dec (fun hd => ?_) (fun hd => ?_)
        | refine br_lt (fun hlt => ?_) (fun hlt => ?_)
        | refine br_le (fun hle => ?_) (fun hle => ?_)
        | refine br_eq (fun heq => ?_) (fun heq => ?_)
        | refine idx_map (by omega) (fun x hx => ?_)
        | refine live_i rfl (fun h => by cases h) ?_
        | refine branch_s (fun hbb => ?_) (fun hbb => ?_)
        | refine ret_i ?_)
      · conv => whnf
        exact ret_boolD (dec_retf (bad (fun h => by change r.l[k] < 0 at hlt; omega)))
      · conv => whnf
        exact ret_boolD (dec_retf (bad (fun h => by change 1000 < r.l[k] at hlt; omega)))
      · rename_i h0
        conv => whnf
        refine ⟨k + 1, ?_, ⟨by omega, fun i h hi => ?_⟩, by omega⟩
        · refine le_mk ?_ ?_ ?_ ?_
          all_goals repeat' (first | exact trivial | refine And.intro ?_ ?_ | with_reducible rfl | exact Nat.le_refl _ | omega | exact rfl)
        · rcases Nat.lt_or_ge i k with hik | hik
          · exact hk2 i h hik
          · obtain rfl : i = k := by omega
            exact ⟨h0, hlt⟩
    · repeat' ((conv => whnf); first
        | (exfalso; change (k : Int) < 7 at hlt; omega)
        | refine seq_go ?_
        | refine draw_i (by kernel_rfl) ?_
        | refine arith_half (by omega) ?_
        | refine arith_in (by omega) ?_
        | refine arith_u (by omega) ?_
        | refine need_i (p := (T.row _).eq = true) (by kernel_rfl) ?_
        | refine need_i (by omega) ?_
        | refine br_not ?_
        | refine br_dec (fun hd => ?_) (fun hd => ?_)
        | refine br_lt (fun hlt => ?_) (fun hlt => ?_)
        | refine br_le (fun hle => ?_) (fun hle => ?_)
        | refine br_eq (fun heq => ?_) (fun heq => ?_)
        | refine idx_map (by omega) (fun x hx => ?_)
        | refine live_i rfl (fun h => by cases h) ?_
        | refine branch_s (fun hbb => ?_) (fun hbb => ?_)
        | refine ret_i ?_)
      conv => whnf
      refine ret_boolD (dec_ret (fun x hx => ?_))
      obtain ⟨i, hi, rfl⟩ := List.mem_iff_getElem.1 hx
      exact hk2 i hi (by omega)
theorem rvalid_spec (r : Rt) : Sp 21 [rtV r] (.lit (.bool (decB (rtOk r)))) := sp_of Tryd.func21 (by kernel_rfl) (by kernel_rfl) (rvalid_vc r)

/-- the bill -/
noncomputable def billL (r : Rt) (s : Sm) : List Int := [s.cu * r.cut, s.ra * r.rapid, s.pi * r.pierce, s.jo * r.joint, r.setup, s.cu * r.cut + s.ra * r.rapid + s.pi * r.pierce + s.jo * r.joint + r.setup]
def biV (l : List Int) : V := .agg (l.map I)
open Classical in
noncomputable def billR (r : Rt) (l : List Mv) : List Int × Int := if rtOk r ∧ prOk l then (billL r (sumS l), 0) else ([0, 0, 0, 0, 0, 0], 1)
theorem billR_ok {r : Rt} {l : List Mv} (h : rtOk r) (h' : prOk l) : billR r l = (billL r (sumS l), 0) := by unfold billR; rw [if_pos ⟨h, h'⟩]
theorem billR_no {r : Rt} {l : List Mv} (h : ¬ (rtOk r ∧ prOk l)) : billR r l = ([0, 0, 0, 0, 0, 0], 1) := by unfold billR; rw [if_neg h]
theorem pprog_vc (r : Rt) (l : List Mv) (hl : l.length ≤ 1000000) : fnVC T Tryd.prog Tryd.f17 [rtV r, .sl (l.map mvV)] (.tup [biV (billR r l).1, I (billR r l).2]) := by
  by_cases hp : prOk l
  · by_cases hr : rtOk r
    · rw [billR_ok hr hp]
      have hB := sumB49 l hp.2
      have hl2 := hp.1
      obtain ⟨b1, b2, b3, b4, b5, b6⟩ := id hB
      have q0 := hr r.sheet (by simp [Rt.l])
      have q1 := hr r.cut (by simp [Rt.l])
      have q2 := hr r.rapid (by simp [Rt.l])
      have q3 := hr r.pierce (by simp [Rt.l])
      have q4 := hr r.joint (by simp [Rt.l])
      have q5 := hr r.setup (by simp [Rt.l])
      have m1 := mulB (a := (sumS l).cu) (b := r.cut) (A := 8000000) (B := 1000) (by omega) q1
      have m2 := mulB (a := (sumS l).ra) (b := r.rapid) (A := 8000000) (B := 1000) (by omega) q2
      have m3 := mulB (a := (sumS l).pi) (b := r.pierce) (A := 8000000) (B := 1000) (by omega) q3
      have m4 := mulB (a := (sumS l).jo) (b := r.joint) (A := 8000000) (B := 1000) (by omega) q4
      have hs := psum_spec l hp
      repeat' ((conv => whnf); first
        | (refine call_i (hs) false ?_ rfl ?_; focus ((repeat' (first | exact trivial | refine And.intro ?_ ?_ | with_reducible rfl | exact (fun h => by cases h) | exact rfl)); done))
        | (refine call_i (valid_spec r) false ?_ rfl ?_; focus ((repeat' (first | exact trivial | refine And.intro ?_ ?_ | with_reducible rfl | exact (fun h => by cases h) | exact rfl)); done))
        | (exact (hd hr).elim)
        | (exfalso; exact heq rfl)
        | (exfalso; omega)
        | refine seq_go ?_
        | refine draw_i (by kernel_rfl) ?_
        | refine arith_half (by omega) ?_
        | refine arith_in (by omega) ?_
        | refine arith_u (by omega) ?_
        | refine need_i (p := (T.row _).eq = true) (by kernel_rfl) ?_
        | refine need_i (by omega) ?_
        | refine br_not ?_
        | refine br_dec (fun hd => ?_) (fun hd => ?_)
        | refine br_lt (fun hlt => ?_) (fun hlt => ?_)
        | refine br_le (fun hle => ?_) (fun hle => ?_)
        | refine br_eq (fun heq => ?_) (fun heq => ?_)
        | refine idx_map (by omega) (fun x hx => ?_)
        | refine live_i rfl (fun h => by cases h) ?_
        | refine branch_s (fun hbb => ?_) (fun hbb => ?_)
        | refine ret_i ?_)
      conv => whnf
      exact ret_two ⟨rfl, rfl, rfl, rfl, rfl, rfl, trivial⟩ rfl rfl
    · rw [billR_no (fun h => hr h.1)]
      have hs := psum_spec l hp
      repeat' ((conv => whnf); first
        | (refine call_i (hs) false ?_ rfl ?_; focus ((repeat' (first | exact trivial | refine And.intro ?_ ?_ | with_reducible rfl | exact (fun h => by cases h) | exact rfl)); done))
        | (refine call_i (valid_spec r) false ?_ rfl ?_; focus ((repeat' (first | exact trivial | refine And.intro ?_ ?_ | with_reducible rfl | exact (fun h => by cases h) | exact rfl)); done))
        | (exact (hr hd).elim)
        | refine seq_go ?_
        | refine draw_i (by kernel_rfl) ?_
        | refine arith_half (by omega) ?_
        | refine arith_in (by omega) ?_
        | refine arith_u (by omega) ?_
        | refine need_i (p := (T.row _).eq = true) (by kernel_rfl) ?_
        | refine need_i (by omega) ?_
        | refine br_not ?_
        | refine br_dec (fun hd => ?_) (fun hd => ?_)
        | refine br_lt (fun hlt => ?_) (fun hlt => ?_)
        | refine br_le (fun hle => ?_) (fun hle => ?_)
        | refine br_eq (fun heq => ?_) (fun heq => ?_)
        | refine idx_map (by omega) (fun x hx => ?_)
        | refine live_i rfl (fun h => by cases h) ?_
        | refine branch_s (fun hbb => ?_) (fun hbb => ?_)
        | refine ret_i ?_)
      conv => whnf
      exact ret_two ⟨rfl, rfl, rfl, rfl, rfl, rfl, trivial⟩ rfl rfl
  · rw [billR_no (fun h => hp h.2)]
    have hs := psum_no l hl hp
    repeat' ((conv => whnf); first
      | (refine call_i (hs) false ?_ rfl ?_; focus ((repeat' (first | exact trivial | refine And.intro ?_ ?_ | with_reducible rfl | exact (fun h => by cases h) | exact rfl)); done))
      | (refine call_i (valid_spec r) false ?_ rfl ?_; focus ((repeat' (first | exact trivial | refine And.intro ?_ ?_ | with_reducible rfl | exact (fun h => by cases h) | exact rfl)); done))
      | (exfalso; omega)
      | refine seq_go ?_
      | refine draw_i (by kernel_rfl) ?_
      | refine arith_half (by omega) ?_
      | refine arith_in (by omega) ?_
      | refine arith_u (by omega) ?_
      | refine need_i (p := (T.row _).eq = true) (by kernel_rfl) ?_
      | refine need_i (by omega) ?_
      | refine br_not ?_
      | refine br_dec (fun hd => ?_) (fun hd => ?_)
      | refine br_lt (fun hlt => ?_) (fun hlt => ?_)
      | refine br_le (fun hle => ?_) (fun hle => ?_)
      | refine br_eq (fun heq => ?_) (fun heq => ?_)
      | refine idx_map (by omega) (fun x hx => ?_)
      | refine live_i rfl (fun h => by cases h) ?_
      | refine branch_s (fun hbb => ?_) (fun hbb => ?_)
      | refine ret_i ?_)
    all_goals (conv => whnf)
    all_goals exact ret_two ⟨rfl, rfl, rfl, rfl, rfl, rfl, trivial⟩ rfl rfl
theorem pprog_spec (r : Rt) (l : List Mv) (hl : l.length ≤ 1000000) : Sp 17 [rtV r, .sl (l.map mvV)] (.tup [biV (billR r l).1, I (billR r l).2]) := sp_of Tryd.func17 (by kernel_rfl) (by kernel_rfl) (pprog_vc r l hl)
theorem rprog_vc (r : Rt) (l : List Mv) (hl : l.length ≤ 1000000) : fnVC T Tryd.prog Tryd.f19 [rtV r, .sl (l.map mvV)] (.tup [biV (billR r l).1, I (billR r l).2]) := by
  by_cases hp : prOk l
  · by_cases hr : rtOk r
    · rw [billR_ok hr hp]
      have hB := sumB49 l hp.2
      have hl2 := hp.1
      obtain ⟨b1, b2, b3, b4, b5, b6⟩ := id hB
      have q0 := hr r.sheet (by simp [Rt.l])
      have q1 := hr r.cut (by simp [Rt.l])
      have q2 := hr r.rapid (by simp [Rt.l])
      have q3 := hr r.pierce (by simp [Rt.l])
      have q4 := hr r.joint (by simp [Rt.l])
      have q5 := hr r.setup (by simp [Rt.l])
      have m1 := mulB (a := (sumS l).cu) (b := r.cut) (A := 8000000) (B := 1000) (by omega) q1
      have m2 := mulB (a := (sumS l).ra) (b := r.rapid) (A := 8000000) (B := 1000) (by omega) q2
      have m3 := mulB (a := (sumS l).pi) (b := r.pierce) (A := 8000000) (B := 1000) (by omega) q3
      have m4 := mulB (a := (sumS l).jo) (b := r.joint) (A := 8000000) (B := 1000) (by omega) q4
      have hs := rsum_spec l hp
      repeat' ((conv => whnf); first
        | (refine call_i (hs) false ?_ rfl ?_; focus ((repeat' (first | exact trivial | refine And.intro ?_ ?_ | with_reducible rfl | exact (fun h => by cases h) | exact rfl)); done))
        | (refine call_i (rvalid_spec r) false ?_ rfl ?_; focus ((repeat' (first | exact trivial | refine And.intro ?_ ?_ | with_reducible rfl | exact (fun h => by cases h) | exact rfl)); done))
        | (exact (hd hr).elim)
        | (exfalso; exact heq rfl)
        | (exfalso; omega)
        | refine seq_go ?_
        | refine draw_i (by kernel_rfl) ?_
        | refine arith_half (by omega) ?_
        | refine arith_in (by omega) ?_
        | refine arith_u (by omega) ?_
        | refine need_i (p := (T.row _).eq = true) (by kernel_rfl) ?_
        | refine need_i (by omega) ?_
        | refine br_not ?_
        | refine br_dec (fun hd => ?_) (fun hd => ?_)
        | refine br_lt (fun hlt => ?_) (fun hlt => ?_)
        | refine br_le (fun hle => ?_) (fun hle => ?_)
        | refine br_eq (fun heq => ?_) (fun heq => ?_)
        | refine idx_map (by omega) (fun x hx => ?_)
        | refine live_i rfl (fun h => by cases h) ?_
        | refine branch_s (fun hbb => ?_) (fun hbb => ?_)
        | refine ret_i ?_)
      conv => whnf
      exact ret_two ⟨rfl, rfl, rfl, rfl, rfl, rfl, trivial⟩ rfl rfl
    · rw [billR_no (fun h => hr h.1)]
      have hs := rsum_spec l hp
      repeat' ((conv => whnf); first
        | (refine call_i (hs) false ?_ rfl ?_; focus ((repeat' (first | exact trivial | refine And.intro ?_ ?_ | with_reducible rfl | exact (fun h => by cases h) | exact rfl)); done))
        | (refine call_i (rvalid_spec r) false ?_ rfl ?_; focus ((repeat' (first | exact trivial | refine And.intro ?_ ?_ | with_reducible rfl | exact (fun h => by cases h) | exact rfl)); done))
        | (exact (hr hd).elim)
        | refine seq_go ?_
        | refine draw_i (by kernel_rfl) ?_
        | refine arith_half (by omega) ?_
        | refine arith_in (by omega) ?_
        | refine arith_u (by omega) ?_
        | refine need_i (p := (T.row _).eq = true) (by kernel_rfl) ?_
        | refine need_i (by omega) ?_
        | refine br_not ?_
        | refine br_dec (fun hd => ?_) (fun hd => ?_)
        | refine br_lt (fun hlt => ?_) (fun hlt => ?_)
        | refine br_le (fun hle => ?_) (fun hle => ?_)
        | refine br_eq (fun heq => ?_) (fun heq => ?_)
        | refine idx_map (by omega) (fun x hx => ?_)
        | refine live_i rfl (fun h => by cases h) ?_
        | refine branch_s (fun hbb => ?_) (fun hbb => ?_)
        | refine ret_i ?_)
      conv => whnf
      exact ret_two ⟨rfl, rfl, rfl, rfl, rfl, rfl, trivial⟩ rfl rfl
  · rw [billR_no (fun h => hp h.2)]
    have hs := rsum_no l hl hp
    repeat' ((conv => whnf); first
      | (refine call_i (hs) false ?_ rfl ?_; focus ((repeat' (first | exact trivial | refine And.intro ?_ ?_ | with_reducible rfl | exact (fun h => by cases h) | exact rfl)); done))
      | (refine call_i (rvalid_spec r) false ?_ rfl ?_; focus ((repeat' (first | exact trivial | refine And.intro ?_ ?_ | with_reducible rfl | exact (fun h => by cases h) | exact rfl)); done))
      | (exfalso; omega)
      | refine seq_go ?_
      | refine draw_i (by kernel_rfl) ?_
      | refine arith_half (by omega) ?_
      | refine arith_in (by omega) ?_
      | refine arith_u (by omega) ?_
      | refine need_i (p := (T.row _).eq = true) (by kernel_rfl) ?_
      | refine need_i (by omega) ?_
      | refine br_not ?_
      | refine br_dec (fun hd => ?_) (fun hd => ?_)
      | refine br_lt (fun hlt => ?_) (fun hlt => ?_)
      | refine br_le (fun hle => ?_) (fun hle => ?_)
      | refine br_eq (fun heq => ?_) (fun heq => ?_)
      | refine idx_map (by omega) (fun x hx => ?_)
      | refine live_i rfl (fun h => by cases h) ?_
      | refine branch_s (fun hbb => ?_) (fun hbb => ?_)
      | refine ret_i ?_)
    all_goals (conv => whnf)
    all_goals exact ret_two ⟨rfl, rfl, rfl, rfl, rfl, rfl, trivial⟩ rfl rfl
theorem rprog_spec (r : Rt) (l : List Mv) (hl : l.length ≤ 1000000) : Sp 19 [rtV r, .sl (l.map mvV)] (.tup [biV (billR r l).1, I (billR r l).2]) := sp_of Tryd.func19 (by kernel_rfl) (by kernel_rfl) (rprog_vc r l hl)
end Go.Proofs.Cost58
namespace Go.Proofs.Cost58
open Go Go.Proofs Go.Ab
set_option maxRecDepth 100000

theorem six_of (r : Rt) (l : List Mv) : ∃ a b c d e f : Int, (billR r l).1 = [a, b, c, d, e, f] := by
  by_cases h : rtOk r ∧ prOk l
  · rw [billR_ok h.1 h.2]; exact ⟨_, _, _, _, _, _, rfl⟩
  · rw [billR_no h]; exact ⟨_, _, _, _, _, _, rfl⟩
theorem law_prog_vc (r : Rt) (l : List Mv) : fnVC T Tryd.prog Tryd.f5 [rtV r, .sl (l.map mvV)] (.lit (.bool true)) := by
  have hll : (l.map mvV).length = l.length := by simp
  rcases Nat.lt_or_ge 60 l.length with hbig | hsm
  · repeat' ((conv => whnf); first
      | (refine call_i (awake_spec) false ?_ rfl ?_; focus ((repeat' (first | exact trivial | refine And.intro ?_ ?_ | with_reducible rfl | exact (fun h => by cases h) | exact rfl)); done))
      | (exfalso; omega)
      | refine seq_go ?_
      | refine draw_i (by kernel_rfl) ?_
      | refine arith_half (by omega) ?_
      | refine arith_in (by omega) ?_
      | refine arith_u (by omega) ?_
      | refine need_i (p := (T.row _).eq = true) (by kernel_rfl) ?_
      | refine need_i (by omega) ?_
      | refine br_not ?_
      | refine br_dec (fun hd => ?_) (fun hd => ?_)
      | refine br_lt (fun hlt => ?_) (fun hlt => ?_)
      | refine br_le (fun hle => ?_) (fun hle => ?_)
      | refine br_eq (fun heq => ?_) (fun heq => ?_)
      | refine idx_map (by omega) (fun x hx => ?_)
      | refine live_i rfl (fun h => by cases h) ?_
      | refine branch_s (fun hbb => ?_) (fun hbb => ?_)
      | refine ret_i ?_)
    conv => whnf
    exact ret_bool rfl
  · have hp := pprog_spec r l (by omega)
    have hr := rprog_spec r l (by omega)
    obtain ⟨a, b, c, d, e, f, he⟩ := six_of r l
    rw [he] at hp hr
    generalize (billR r l).2 = er at hp hr
    repeat' ((conv => whnf); first
      | (refine call_i (awake_spec) false ?_ rfl ?_; focus ((repeat' (first | exact trivial | refine And.intro ?_ ?_ | with_reducible rfl | exact (fun h => by cases h) | exact rfl)); done))
      | (exfalso; omega)
      | (refine call_i (own_spec l (by omega)) false ?_ rfl ?_; focus ((repeat' (first | exact trivial | refine And.intro ?_ ?_ | with_reducible rfl | exact (fun h => by cases h) | exact rfl)); done))
      | (refine call_i (hp) true ?_ rfl ?_; focus ((repeat' (first | exact trivial | refine And.intro ?_ ?_ | with_reducible rfl | exact (fun h => by cases h) | exact rfl)); done))
      | (refine call_i (hr) false ?_ rfl ?_; focus ((repeat' (first | exact trivial | refine And.intro ?_ ?_ | with_reducible rfl | exact (fun h => by cases h) | exact rfl)); done))
      | (refine call_i (valid_spec r) false ?_ rfl ?_; focus ((repeat' (first | exact trivial | refine And.intro ?_ ?_ | with_reducible rfl | exact (fun h => by cases h) | exact rfl)); done))
      | (refine call_i (rvalid_spec r) false ?_ rfl ?_; focus ((repeat' (first | exact trivial | refine And.intro ?_ ?_ | with_reducible rfl | exact (fun h => by cases h) | exact rfl)); done))
      | refine seq_go ?_
      | refine draw_i (by kernel_rfl) ?_
      | refine arith_half (by omega) ?_
      | refine arith_in (by omega) ?_
      | refine arith_u (by omega) ?_
      | refine need_i (p := (T.row _).eq = true) (by kernel_rfl) ?_
      | refine need_i (by omega) ?_
      | refine br_not ?_
      | refine br_dec (fun hd => ?_) (fun hd => ?_)
      | refine br_lt (fun hlt => ?_) (fun hlt => ?_)
      | refine br_le (fun hle => ?_) (fun hle => ?_)
      | refine br_eq (fun heq => ?_) (fun heq => ?_)
      | refine idx_map (by omega) (fun x hx => ?_)
      | refine live_i rfl (fun h => by cases h) ?_
      | refine branch_s (fun hbb => ?_) (fun hbb => ?_)
      | refine ret_i ?_)
    · conv => whnf
      exact ret_bool (eqB_t.2 rfl)
    · exfalso
      simp only [andB_eq, eqB_t.2 rfl, Bool.true_and, Bool.and_true] at hbb
      cases hbb
    · exfalso
      rw [eqBB_eq, beq_self_eq_true] at hbb
      cases hbb
theorem law_prog_spec (r : Rt) (l : List Mv) : Sp 5 [rtV r, .sl (l.map mvV)] (.lit (.bool true)) := sp_of Tryd.func5 (by kernel_rfl) (by kernel_rfl) (law_prog_vc r l)
end Go.Proofs.Cost58
