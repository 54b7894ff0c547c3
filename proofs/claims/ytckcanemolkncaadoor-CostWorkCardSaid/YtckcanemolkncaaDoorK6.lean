/-
  The program's work, walked.
  The statement on work orders, walked.
-/
import Derived.Test.YtckcanemolkncaaDoorK5
set_option linter.unusedVariables false
set_option linter.unusedSimpArgs false
namespace Go.Proofs.Cost58
open Go Go.Proofs Go.Ab Pz
set_option maxRecDepth 100000

def srtL (L : List Pl) : List Pl := isortP (fun x y => cmpI (plK x) (plK y)) L
theorem work_same (nm : ByteArray) (ps : List Pt) (L : List Pl) (tot : Int) (hq : ∀ x ∈ L, plQ x) : [progB ++ nm] ++ (runs plK (srtL L)).map (fun p => lineB ps p.2 p.1) ++ [totalB ++ itoaB tot] = workB nm ps L tot := by
  have h := runs_kinds plK kz (fun _ => rfl) (L := L) (s := srtL L) (fun x hx y hy e => by obtain ⟨h1, h2⟩ := (plK_inj (hq x hx) (hq y hy)).1 e; unfold kz; rw [h1, h2]) (isortP_perm L) (isortP_pw (key := plK) (c := fun x y => cmpI (plK x) (plK y)) (fun a b => cmpI_neg _ _) L)
  have e : (runs plK (srtL L)).map (fun p => lineB ps p.2 p.1) = ((runs plK (srtL L)).map (fun p => (kz p.1, p.2))).map (fun q => lineB ps q.2 q.1) := by rw [List.map_map]; rfl
  unfold workB
  rw [e, h, List.map_map]; rfl
set_option maxHeartbeats 2000000 in
theorem work_vc (nm : ByteArray) (ps : List Pt) (L : List Pl) (t0 t1 t2 t3 t4 tot : Int) (hnm : nm.size ≤ 1000) (hps : ∀ p ∈ ps, p.nm.size ≤ 1000) (hpl : ps.length ≤ 1000) (hq : ∀ x ∈ L, plQ x) (ht : 0 ≤ tot ∧ tot ≤ 1000000) :
    fnVC T Tryd.prog Tryd.f14 [S nm, .sl (ps.map ptV), .agg [.sl (L.map plV)], .agg [I t0, I t1, I t2, I t3, I t4, I tot]] (.tup [.own 9 ((workR nm ps L tot).1.map S), I (workR nm ps L tot).2]) := by
  have hll : (L.map plV).length = L.length := by simp
  have hpp : (ps.map ptV).length = ps.length := by simp
  rcases Nat.lt_or_ge 60 L.length with hbig | hsm
  · have hw : workR nm ps L tot = ([], 9) := by unfold workR; rw [if_pos hbig]
    repeat' ((conv => whnf); first
      | (exfalso; omega)
      | refine seq_go ?_
      | refine draw_i (by kernel_rfl) ?_
      | refine arith_half (by omega) ?_
      | refine arith_in (by omega) ?_
      | refine arith_u (by omega) ?_
      | refine need_i (p := (T.row _).eq = true) (by kernel_rfl) ?_
      | refine need_i (by omega) ?_
      | refine br_not ?_
      | refine br_dec (fun hd => ?_) (fun hd => ?_)
      | refine br_lt (fun hlt => ?_) (fun hlt => ?_)
      | refine br_le (fun hle => ?_) (fun hle => ?_)
      | refine br_eq (fun heq => ?_) (fun heq => ?_)
      | refine idx_map (by omega) (fun x hx => ?_)
      | refine live_i rfl (fun h => by cases h) ?_
      | refine branch_s (fun hbb => ?_) (fun hbb => ?_)
      | refine ret_i ?_)
    conv => whnf
    exact rwork_ret hw
  have hcon := pcontains_spec (g := 36) (cs := [.sl (ps.map ptV)]) (Q := outP (ps.map ptV).length) (out_spec (ps.map ptV)) L (by omega)
  rw [hpp] at hcon
  by_cases hok : workOk nm ps L
  case neg =>
    have hw : workR nm ps L tot = ([], 6) := by unfold workR; rw [if_neg (by omega), if_neg hok]
    repeat' ((conv => whnf); first
      | (exfalso; omega)
      | (refine call_i (name_spec nm) false ?_ rfl ?_; focus ((repeat' (first | exact trivial | refine And.intro ?_ ?_ | with_reducible rfl | exact (fun h => by cases h) | exact rfl)); done))
      | (refine call_i (hcon) false ?_ rfl ?_; focus ((repeat' (first | exact trivial | refine And.intro ?_ ?_ | with_reducible rfl | exact (fun h => by cases h) | exact rfl)); done))
      | refine seq_go ?_
      | refine draw_i (by kernel_rfl) ?_
      | refine arith_half (by omega) ?_
      | refine arith_in (by omega) ?_
      | refine arith_u (by omega) ?_
      | refine need_i (p := (T.row _).eq = true) (by kernel_rfl) ?_
      | refine need_i (by omega) ?_
      | refine br_not ?_
      | refine br_dec (fun hd => ?_) (fun hd => ?_)
      | refine br_lt (fun hlt => ?_) (fun hlt => ?_)
      | refine br_le (fun hle => ?_) (fun hle => ?_)
      | refine br_eq (fun heq => ?_) (fun heq => ?_)
      | refine idx_map (by omega) (fun x hx => ?_)
      | refine live_i rfl (fun h => by cases h) ?_
      | refine branch_s (fun hbb => ?_) (fun hbb => ?_)
      | refine ret_i ?_)
    all_goals first
      | (exfalso; exact hok ⟨‹isName nm›, fun x hx ho => ‹¬ ∃ m, m ∈ L ∧ outP ps.length m› ⟨x, hx, ho⟩⟩)
      | ((conv => whnf); exact rwork_ret hw)
  obtain ⟨hn, h2⟩ := hok
  have hw : workR nm ps L tot = (workB nm ps L tot, 0) := by unfold workR; rw [if_neg (by omega), if_pos ⟨hn, h2⟩]
  repeat' ((conv => whnf); first
    | (exfalso; omega)
    | (refine call_i (name_spec nm) false ?_ rfl ?_; focus ((repeat' (first | exact trivial | refine And.intro ?_ ?_ | with_reducible rfl | exact (fun h => by cases h) | exact rfl)); done))
    | (refine call_i (hcon) false ?_ rfl ?_; focus ((repeat' (first | exact trivial | refine And.intro ?_ ?_ | with_reducible rfl | exact (fun h => by cases h) | exact rfl)); done))
    | (exact (hd hn).elim)
    | (exact absurd hd (fun ⟨m, hm, ho⟩ => h2 m hm ho))
    | (refine call_i (clone_spec L (by omega)) false ?_ rfl ?_; focus ((repeat' (first | exact trivial | refine And.intro ?_ ?_ | with_reducible rfl | exact (fun h => by cases h) | exact rfl)); done))
    | (refine call_io_i (plSort_spec L hq (by omega)) rfl rfl ?_ rfl rfl ?_; focus ((repeat' (first | exact trivial | refine And.intro ?_ ?_ | with_reducible rfl | exact (fun h => by cases h) | exact rfl)); done))
    | refine need_cat (a := progB) (by decide) (by omega) ?_
    | refine seq_go ?_
    | refine draw_i (by kernel_rfl) ?_
    | refine arith_half (by omega) ?_
    | refine arith_in (by omega) ?_
    | refine arith_u (by omega) ?_
    | refine need_i (p := (T.row _).eq = true) (by kernel_rfl) ?_
    | refine need_i (by omega) ?_
    | refine br_not ?_
    | refine br_dec (fun hd => ?_) (fun hd => ?_)
    | refine br_lt (fun hlt => ?_) (fun hlt => ?_)
    | refine br_le (fun hle => ?_) (fun hle => ?_)
    | refine br_eq (fun heq => ?_) (fun heq => ?_)
    | refine idx_map (by omega) (fun x hx => ?_)
    | refine live_i rfl (fun h => by cases h) ?_
    | refine branch_s (fun hbb => ?_) (fun hbb => ?_)
    | refine ret_i ?_)
  have hsl : (srtL L).length = L.length := isortP_len L
  have hws := work_same nm ps L tot hq
  have hsq : ∀ x ∈ srtL L, plQ x ∧ ¬ outP ps.length x := fun x hx => ⟨hq x (isortP_mem.1 hx), h2 x (isortP_mem.1 hx)⟩
  change LoopVC T _ _ _
  refine loop_3 (A := List Pl) (B := List Pl) (C := List (Pl × Nat)) (fun D R X => mkSt [(5, .fp [.sl (ps.map ptV)]), (7, .box 7 0), (11, .sl ((srtL L).map plV)), (12, .fn 40 []), (13, .arr 39 X.length), (14, I D.length)] [(7, [I t0, I t1, I t2, I t3, I t4, I tot])] [(39, ⟨X.length, .own, 9, ([progB ++ nm] ++ X.map (fun p => lineB ps p.2 p.1)).map S⟩)])
    (fun D R X => srtL L = D ++ R ∧ X ++ runs plK R = runs plK (srtL L) ∧ X.length ≤ D.length) (fun D R X => R.length) [] (srtL L) [] ?_ ⟨rfl, rfl, Nat.le_refl _⟩ (fun D R X hp => ?_)
  · refine Le.trans (le_frz (k := 33) rfl (.inl rfl)) ?_
    refine le_mk ?_ ?_ ?_ ?_
    all_goals repeat' (first | exact trivial | refine And.intro ?_ ?_ | with_reducible rfl | exact Nat.le_refl _ | omega | exact rfl)
  generalize srtL L = s at hsl hws hsq hp ⊢
  obtain ⟨h1, hX, hXl⟩ := hp
  have hlen : s.length = D.length + R.length := by rw [h1]; simp
  have hsm' : (s.map plV).length = s.length := by simp
  cases R with
  | nil =>
    simp at hlen
    rw [runs_nil, List.append_nil] at hX
    have hz := itoaB_size tot (by omega) (by omega)
    repeat' ((conv => whnf); first
      | (exfalso; omega)
      | (refine call_i (itoa_spec tot (by omega) (by omega)) false ?_ rfl ?_; focus ((repeat' (first | exact trivial | refine And.intro ?_ ?_ | with_reducible rfl | exact (fun h => by cases h) | exact rfl)); done))
      | refine need_cat (a := totalB) (by decide) (by omega) ?_
      | refine need_app rfl (.inl rfl) rfl (of_decide_eq_true rfl) (one_cells rfl) (by show (List.map S ([progB ++ nm] ++ List.map _ X)).length + 1 ≤ _; rw [List.length_map, List.length_append, List.length_map, List.length_singleton]; omega) ?_
      | refine seq_go ?_
      | refine draw_i (by kernel_rfl) ?_
      | refine arith_half (by omega) ?_
      | refine arith_in (by omega) ?_
      | refine arith_u (by omega) ?_
      | refine need_i (p := (T.row _).eq = true) (by kernel_rfl) ?_
      | refine need_i (by omega) ?_
      | refine br_not ?_
      | refine br_dec (fun hd => ?_) (fun hd => ?_)
      | refine br_lt (fun hlt => ?_) (fun hlt => ?_)
      | refine br_le (fun hle => ?_) (fun hle => ?_)
      | refine br_eq (fun heq => ?_) (fun heq => ?_)
      | refine idx_map (by omega) (fun x hx => ?_)
      | refine live_i rfl (fun h => by cases h) ?_
      | refine branch_s (fun hbb => ?_) (fun hbb => ?_)
      | refine ret_i ?_)
    conv => whnf
    rw [hw]
    refine ⟨_, rfl, ⟨⟨rfl, rfl, rfl, ?_⟩, rfl, trivial⟩, rfl⟩
    show List.map S ([progB ++ nm] ++ List.map (fun p => lineB ps p.2 p.1) X) ++ [S (totalB ++ itoaB tot)] = List.map S (workB nm ps L tot)
    rw [← hws, hX, List.map_append (l₂ := [totalB ++ itoaB tot])]; rfl
  | cons x R =>
    rw [List.length_cons] at hlen
    obtain ⟨hqx, hox⟩ := hsq x (by rw [h1]; simp)
    unfold outP at hox
    repeat' ((conv => whnf); first
      | (exfalso; omega)
      | refine idx_mid (l := s) (A := D) (x := x) (B := R) h1 (by omega) ?_
      | refine seq_go ?_
      | refine draw_i (by kernel_rfl) ?_
      | refine arith_half (by omega) ?_
      | refine arith_in (by omega) ?_
      | refine arith_u (by omega) ?_
      | refine need_i (p := (T.row _).eq = true) (by kernel_rfl) ?_
      | refine need_i (by omega) ?_
      | refine br_not ?_
      | refine br_dec (fun hd => ?_) (fun hd => ?_)
      | refine br_lt (fun hlt => ?_) (fun hlt => ?_)
      | refine br_le (fun hle => ?_) (fun hle => ?_)
      | refine br_eq (fun heq => ?_) (fun heq => ?_)
      | refine idx_map (by omega) (fun x hx => ?_)
      | refine live_i rfl (fun h => by cases h) ?_
      | refine branch_s (fun hbb => ?_) (fun hbb => ?_)
      | refine ret_i ?_)
    refine loop_2 (A := List Pl) (B := List Pl) (fun P Y => mkSt [(5, .fp [.sl (ps.map ptV)]), (7, .box 7 0), (11, .sl (s.map plV)), (12, .fn 40 []), (13, .arr 39 X.length), (14, I D.length), (15, I ((P.length : Int) + 1)), (16, .box 16 0)] [(7, [I t0, I t1, I t2, I t3, I t4, I tot]), (16, [I x.1, I x.2.1, I x.2.2.1, I x.2.2.2])] [(39, ⟨X.length, .own, 9, ([progB ++ nm] ++ X.map (fun p => lineB ps p.2 p.1)).map S⟩)])
      (fun P Y => R = P ++ Y ∧ ∀ a ∈ P, plK a = plK x) (fun P Y => Y.length) [] R ?_ ⟨rfl, by simp⟩ (fun P Y hp => ?_)
    · refine le_mk ?_ ?_ ?_ ?_
      all_goals repeat' (first | exact trivial | refine And.intro ?_ ?_ | with_reducible rfl | exact Nat.le_refl _ | omega | exact rfl)
    obtain ⟨e1, hP⟩ := hp
    have hRl : R.length = P.length + Y.length := by rw [e1]; simp
    have hz1 := itoaB_size ((P.length : Int) + 1) (by omega) (by omega)
    have hz2 := itoaB_size x.2.1 (by unfold plQ at hqx; omega) (by unfold plQ at hqx; omega)
    have hz3 := ptN_size hps x.1
    have z1 : (itoaB ((P.length : Int) + 1) ++ timesB).size ≤ 100 := sz_app hz1 (n := 3) (by decide) 100 (by decide)
    have z2 : (itoaB ((P.length : Int) + 1) ++ timesB ++ ptN ps x.1).size ≤ 2000 := sz_app z1 hz3 2000 (by decide)
    have z3 : (itoaB ((P.length : Int) + 1) ++ timesB ++ ptN ps x.1 ++ turnB).size ≤ 3000 := sz_app z2 (n := 6) (by decide) 3000 (by decide)
    cases Y with
    | nil =>
      simp at hRl
      repeat' ((conv => whnf); first
        | (exfalso; omega)
        | (refine call_i (itoa_spec ((P.length : Int) + 1) (by omega) (by omega)) false ?_ rfl ?_; focus ((repeat' (first | exact trivial | refine And.intro ?_ ?_ | with_reducible rfl | exact (fun h => by cases h) | exact rfl)); done))
        | (refine call_i (itoa_spec x.2.1 (by unfold plQ at hqx; omega) (by unfold plQ at hqx; omega)) false ?_ rfl ?_; focus ((repeat' (first | exact trivial | refine And.intro ?_ ?_ | with_reducible rfl | exact (fun h => by cases h) | exact rfl)); done))
        | refine idx_pt (ps := ps) (i := x.1) (by omega) (by omega) rfl (fun _ _ _ _ _ => ?_)
        | refine need_cat (a := itoaB ((P.length : Int) + 1)) (b := timesB) (by omega) (by decide) ?_
        | refine need_cat (b := ptN ps x.1) (Nat.le_trans z1 (by decide)) (by omega) ?_
        | refine need_cat (b := turnB) (Nat.le_trans z2 (by decide)) (by decide) ?_
        | refine need_cat (b := itoaB x.2.1) (Nat.le_trans z3 (by decide)) (by omega) ?_
        | refine need_app rfl (.inl rfl) rfl (of_decide_eq_true rfl) (one_cells rfl) (by show (List.map S ([progB ++ nm] ++ List.map _ X)).length + 1 ≤ _; rw [List.length_map, List.length_append, List.length_map, List.length_singleton]; omega) ?_
        | refine seq_go ?_
        | refine draw_i (by kernel_rfl) ?_
        | refine arith_half (by omega) ?_
        | refine arith_in (by omega) ?_
        | refine arith_u (by omega) ?_
        | refine need_i (p := (T.row _).eq = true) (by kernel_rfl) ?_
        | refine need_i (by omega) ?_
        | refine br_not ?_
        | refine br_dec (fun hd => ?_) (fun hd => ?_)
        | refine br_lt (fun hlt => ?_) (fun hlt => ?_)
        | refine br_le (fun hle => ?_) (fun hle => ?_)
        | refine br_eq (fun heq => ?_) (fun heq => ?_)
        | refine idx_map (by omega) (fun x hx => ?_)
        | refine live_i rfl (fun h => by cases h) ?_
        | refine branch_s (fun hbb => ?_) (fun hbb => ?_)
        | refine ret_i ?_)
      conv => whnf
      · refine ⟨(D ++ x :: P, [], X ++ [(x, P.length + 1)]), ?_, ⟨?_, ?_, ?_⟩, ?_⟩
        · refine le_mk ?_ ?_ ?_ ?_
          all_goals repeat' (first | exact trivial | refine And.intro ?_ ?_ | with_reducible rfl | exact Nat.le_refl _ | omega | exact rfl)
          all_goals first
            | (show X.length + 1 = (X ++ [(x, P.length + 1)]).length; simp; done)
            | (show (D.length : Int) + ((P.length : Int) + 1) = (D ++ x :: P).length; simp; omega; done)
            | (show (D.length : Int) + ((P.length : Int) + 1) = (D ++ x :: P).length; simp; done)
            | (show List.map S ([progB ++ nm] ++ List.map (fun p => lineB ps p.2 p.1) X) ++ [S (lineB ps (P.length + 1) x)] = List.map S ([progB ++ nm] ++ List.map (fun p => lineB ps p.2 p.1) (X ++ [(x, P.length + 1)])); simp; done)
        · show s = (D ++ x :: P) ++ []
          rw [h1, e1]; simp
        · show (X ++ [(x, P.length + 1)]) ++ runs plK [] = runs plK s
          rw [← hX, e1, runs_cut plK hP (fun b hb => by cases hb)]; simp
        · show (X ++ [(x, P.length + 1)]).length ≤ (D ++ x :: P).length
          simp; omega
        · show ([]).length < (x :: R).length
          rw [e1]; simp; try omega
    | cons y Y =>
      rw [List.length_cons] at hRl
      obtain ⟨hqy, _⟩ := hsq y (by rw [h1, e1]; simp)
      have hsam := sam_zero (x := x) (y := y)
      have keq := plK_inj hqy hqx
      have hs2 : s = (D ++ x :: P) ++ y :: Y := by rw [h1, e1]; simp
      have hl2 : (D ++ x :: P).length = D.length + (P.length + 1) := by simp
      repeat' ((conv => whnf); first
        | (exfalso; omega)
        | refine idx_mid (l := s) (A := D ++ x :: P) (x := y) (B := Y) hs2 (by rw [hl2]; omega) ?_
        | (refine call_i (sam_spec x y) false ?_ rfl ?_; focus ((repeat' (first | exact trivial | refine And.intro ?_ ?_ | with_reducible rfl | exact (fun h => by cases h) | exact rfl)); done))
        | (refine call_i (itoa_spec ((P.length : Int) + 1) (by omega) (by omega)) false ?_ rfl ?_; focus ((repeat' (first | exact trivial | refine And.intro ?_ ?_ | with_reducible rfl | exact (fun h => by cases h) | exact rfl)); done))
        | (refine call_i (itoa_spec x.2.1 (by unfold plQ at hqx; omega) (by unfold plQ at hqx; omega)) false ?_ rfl ?_; focus ((repeat' (first | exact trivial | refine And.intro ?_ ?_ | with_reducible rfl | exact (fun h => by cases h) | exact rfl)); done))
        | refine idx_pt (ps := ps) (i := x.1) (by omega) (by omega) rfl (fun _ _ _ _ _ => ?_)
        | refine need_cat (a := itoaB ((P.length : Int) + 1)) (b := timesB) (by omega) (by decide) ?_
        | refine need_cat (b := ptN ps x.1) (Nat.le_trans z1 (by decide)) (by omega) ?_
        | refine need_cat (b := turnB) (Nat.le_trans z2 (by decide)) (by decide) ?_
        | refine need_cat (b := itoaB x.2.1) (Nat.le_trans z3 (by decide)) (by omega) ?_
        | refine need_app rfl (.inl rfl) rfl (of_decide_eq_true rfl) (one_cells rfl) (by show (List.map S ([progB ++ nm] ++ List.map _ X)).length + 1 ≤ _; rw [List.length_map, List.length_append, List.length_map, List.length_singleton]; omega) ?_
        | refine seq_go ?_
        | refine draw_i (by kernel_rfl) ?_
        | refine arith_half (by omega) ?_
        | refine arith_in (by omega) ?_
        | refine arith_u (by omega) ?_
        | refine need_i (p := (T.row _).eq = true) (by kernel_rfl) ?_
        | refine need_i (by omega) ?_
        | refine br_not ?_
        | refine br_dec (fun hd => ?_) (fun hd => ?_)
        | refine br_lt (fun hlt => ?_) (fun hlt => ?_)
        | refine br_le (fun hle => ?_) (fun hle => ?_)
        | refine br_eq (fun heq => ?_) (fun heq => ?_)
        | refine idx_map (by omega) (fun x hx => ?_)
        | refine live_i rfl (fun h => by cases h) ?_
        | refine branch_s (fun hbb => ?_) (fun hbb => ?_)
        | refine ret_i ?_)
      all_goals (conv => whnf)
      · refine ⟨(P ++ [y], Y), ?_, ⟨?_, ?_⟩, ?_⟩
        · refine le_mk ?_ ?_ ?_ ?_
          all_goals repeat' (first | exact trivial | refine And.intro ?_ ?_ | with_reducible rfl | exact Nat.le_refl _ | omega | exact rfl)
          all_goals (show (P.length : Int) + 1 + 1 = ((P ++ [y]).length : Nat) + 1; simp)
        · show R = P ++ [y] ++ Y
          rw [e1]; simp
        · intro m hm
          rcases List.mem_append.1 hm with hm | hm
          · exact hP m hm
          · rw [List.mem_singleton.1 hm]
            have := hsam.1 heq
            exact keq.2 ⟨this.1.symm, this.2.symm⟩
        · show Y.length < (y :: Y).length
          simp
      · refine ⟨(D ++ x :: P, (y :: Y), X ++ [(x, P.length + 1)]), ?_, ⟨?_, ?_, ?_⟩, ?_⟩
        · refine le_mk ?_ ?_ ?_ ?_
          all_goals repeat' (first | exact trivial | refine And.intro ?_ ?_ | with_reducible rfl | exact Nat.le_refl _ | omega | exact rfl)
          all_goals first
            | (show X.length + 1 = (X ++ [(x, P.length + 1)]).length; simp; done)
            | (show (D.length : Int) + ((P.length : Int) + 1) = (D ++ x :: P).length; simp; omega; done)
            | (show (D.length : Int) + ((P.length : Int) + 1) = (D ++ x :: P).length; simp; done)
            | (show List.map S ([progB ++ nm] ++ List.map (fun p => lineB ps p.2 p.1) X) ++ [S (lineB ps (P.length + 1) x)] = List.map S ([progB ++ nm] ++ List.map (fun p => lineB ps p.2 p.1) (X ++ [(x, P.length + 1)])); simp; done)
        · show s = (D ++ x :: P) ++ (y :: Y)
          rw [h1, e1]; simp
        · show (X ++ [(x, P.length + 1)]) ++ runs plK (y :: Y) = runs plK s
          rw [← hX, e1, runs_cut plK hP (fun b hb => by cases hb; exact fun e => heq (hsam.2 ⟨(keq.1 e).1.symm, (keq.1 e).2.symm⟩))]; simp
        · show (X ++ [(x, P.length + 1)]).length ≤ (D ++ x :: P).length
          simp; omega
        · show ((y :: Y)).length < (x :: R).length
          rw [e1]; simp; try omega
theorem work_spec (nm : ByteArray) (ps : List Pt) (L : List Pl) (t0 t1 t2 t3 t4 tot : Int) (hnm : nm.size ≤ 1000) (hps : ∀ p ∈ ps, p.nm.size ≤ 1000) (hpl : ps.length ≤ 1000) (hq : ∀ x ∈ L, plQ x) (ht : 0 ≤ tot ∧ tot ≤ 1000000) :
    Sp 14 [S nm, .sl (ps.map ptV), .agg [.sl (L.map plV)], .agg [I t0, I t1, I t2, I t3, I t4, I tot]] (.tup [.own 9 ((workR nm ps L tot).1.map S), I (workR nm ps L tot).2]) := sp_of Tryd.func14 (by kernel_rfl) (by kernel_rfl) (work_vc nm ps L t0 t1 t2 t3 t4 tot hnm hps hpl hq ht)
end Go.Proofs.Cost58
namespace Go.Proofs.Cost58
open Go Go.Proofs Go.Ab Pz
set_option maxRecDepth 100000

set_option maxHeartbeats 2000000 in
theorem law_work_vc (nm : ByteArray) (ps : List Pt) (L : List Pl) (hq : ∀ x ∈ L, plQ x) : fnVC T Tryd.prog Tryd.f4 [S nm, .sl (ps.map ptV), .agg [.sl (L.map plV)]] (.lit (.bool true)) := by
  have hll : (L.map plV).length = L.length := by simp
  have hpp : (ps.map ptV).length = ps.length := by simp
  by_cases hbig : 40 < nm.size ∨ 10 < ps.length ∨ 70 < L.length
  · repeat' ((conv => whnf); first
      | (refine call_i (awake_spec) false ?_ rfl ?_; focus ((repeat' (first | exact trivial | refine And.intro ?_ ?_ | with_reducible rfl | exact (fun h => by cases h) | exact rfl)); done))
      | (exfalso; omega)
      | refine seq_go ?_
      | refine draw_i (by kernel_rfl) ?_
      | refine arith_half (by omega) ?_
      | refine arith_in (by omega) ?_
      | refine arith_u (by omega) ?_
      | refine need_i (p := (T.row _).eq = true) (by kernel_rfl) ?_
      | refine need_i (by omega) ?_
      | refine br_not ?_
      | refine br_dec (fun hd => ?_) (fun hd => ?_)
      | refine br_lt (fun hlt => ?_) (fun hlt => ?_)
      | refine br_le (fun hle => ?_) (fun hle => ?_)
      | refine br_eq (fun heq => ?_) (fun heq => ?_)
      | refine idx_map (by omega) (fun x hx => ?_)
      | refine live_i rfl (fun h => by cases h) ?_
      | refine branch_s (fun hbb => ?_) (fun hbb => ?_)
      | refine ret_i ?_)
    all_goals (conv => whnf)
    all_goals exact ret_bool rfl
  repeat' ((conv => whnf); first
    | (refine call_i (awake_spec) false ?_ rfl ?_; focus ((repeat' (first | exact trivial | refine And.intro ?_ ?_ | with_reducible rfl | exact (fun h => by cases h) | exact rfl)); done))
    | (exfalso; omega)
    | refine seq_go ?_
    | refine draw_i (by kernel_rfl) ?_
    | refine arith_half (by omega) ?_
    | refine arith_in (by omega) ?_
    | refine arith_u (by omega) ?_
    | refine need_i (p := (T.row _).eq = true) (by kernel_rfl) ?_
    | refine need_i (by omega) ?_
    | refine br_not ?_
    | refine br_dec (fun hd => ?_) (fun hd => ?_)
    | refine br_lt (fun hlt => ?_) (fun hlt => ?_)
    | refine br_le (fun hle => ?_) (fun hle => ?_)
    | refine br_eq (fun heq => ?_) (fun heq => ?_)
    | refine idx_map (by omega) (fun x hx => ?_)
    | refine live_i rfl (fun h => by cases h) ?_
    | refine branch_s (fun hbb => ?_) (fun hbb => ?_)
    | refine ret_i ?_)
  refine loop_2 (A := List Pt) (B := List Pt) (fun D R => mkSt [(0, S nm), (1, .sl (ps.map ptV)), (5, .box 5 0), (33, .sl (ps.map ptV)), (34, I ps.length), (35, I D.length)] [(5, [.sl (L.map plV)])] [])
    (fun D R => ps = D ++ R ∧ ∀ p ∈ D, p.nm.size ≤ 40) (fun D R => R.length) [] ps ?_ ⟨rfl, by simp⟩ (fun D R hp => ?_)
  · refine le_mk ?_ ?_ ?_ ?_
    all_goals repeat' (first | exact trivial | refine And.intro ?_ ?_ | with_reducible rfl | exact Nat.le_refl _ | omega | exact rfl)
  obtain ⟨h1, h2⟩ := hp
  have hlen : ps.length = D.length + R.length := by rw [h1]; simp
  cases R with
  | cons x R =>
    rw [List.length_cons] at hlen
    repeat' ((conv => whnf); first
      | (exfalso; omega)
      | refine idx_mid (l := ps) (A := D) (x := x) (B := R) h1 (by omega) ?_
      | refine seq_go ?_
      | refine draw_i (by kernel_rfl) ?_
      | refine arith_half (by omega) ?_
      | refine arith_in (by omega) ?_
      | refine arith_u (by omega) ?_
      | refine need_i (p := (T.row _).eq = true) (by kernel_rfl) ?_
      | refine need_i (by omega) ?_
      | refine br_not ?_
      | refine br_dec (fun hd => ?_) (fun hd => ?_)
      | refine br_lt (fun hlt => ?_) (fun hlt => ?_)
      | refine br_le (fun hle => ?_) (fun hle => ?_)
      | refine br_eq (fun heq => ?_) (fun heq => ?_)
      | refine idx_map (by omega) (fun x hx => ?_)
      | refine live_i rfl (fun h => by cases h) ?_
      | refine branch_s (fun hbb => ?_) (fun hbb => ?_)
      | refine ret_i ?_)
    all_goals (conv => whnf)
    · exact ret_bool rfl
    · refine ⟨(D ++ [x], R), ?_, ⟨?_, ?_⟩, ?_⟩
      · refine le_mk ?_ ?_ ?_ ?_
        all_goals repeat' (first | exact trivial | refine And.intro ?_ ?_ | with_reducible rfl | exact Nat.le_refl _ | omega | exact rfl)
        all_goals (show (D.length : Int) + 1 = (D ++ [x]).length; simp)
      · show ps = D ++ [x] ++ R
        rw [h1]; simp
      · intro m hm
        rcases List.mem_append.1 hm with hm | hm
        · exact h2 m hm
        · rw [List.mem_singleton.1 hm]; omega
      · show R.length < (x :: R).length
        simp
  | nil =>
    have e : ps = D := by rw [h1]; simp
    simp at hlen
    have hps : ∀ p ∈ ps, p.nm.size ≤ 1000 := fun p hp => by have := h2 p (by rw [← e]; exact hp); omega
    have hA := work_spec nm ps L 0 0 0 0 0 (100 * ((L.map plV).length : Int)) (by omega) hps (by omega) hq (by omega)
    have hB := rwork_spec nm ps L 0 0 0 0 0 (100 * ((L.map plV).length : Int)) (by omega) hps (by omega) hq (by omega)
    have hwl : (workR nm ps L (100 * ((L.map plV).length : Int))).1.length ≤ 1000 := by
      unfold workR
      split
      · simp
      · split
        · unfold workB
          have := kinds_le plK kz L
          simp; omega
        · simp
    generalize workR nm ps L (100 * ((L.map plV).length : Int)) = w at hA hB hwl
    repeat' ((conv => whnf); first
      | (exfalso; omega)
      | (refine call_i (hA) false ?_ rfl ?_; focus ((repeat' (first | exact trivial | refine And.intro ?_ ?_ | with_reducible rfl | exact (fun h => by cases h) | exact rfl)); done))
      | (refine call_i (hB) false ?_ rfl ?_; focus ((repeat' (first | exact trivial | refine And.intro ?_ ?_ | with_reducible rfl | exact (fun h => by cases h) | exact rfl)); done))
      | (refine call_i (sameLines_spec w.1 w.1 (by omega)) false ?_ rfl ?_; focus ((repeat' (first | exact trivial | refine And.intro ?_ ?_ | with_reducible rfl | exact (fun h => by cases h) | exact rfl)); done))
      | refine seq_go ?_
      | refine draw_i (by kernel_rfl) ?_
      | refine arith_half (by omega) ?_
      | refine arith_in (by omega) ?_
      | refine arith_u (by omega) ?_
      | refine need_i (p := (T.row _).eq = true) (by kernel_rfl) ?_
      | refine need_i (by omega) ?_
      | refine br_not ?_
      | refine br_dec (fun hd => ?_) (fun hd => ?_)
      | refine br_lt (fun hlt => ?_) (fun hlt => ?_)
      | refine br_le (fun hle => ?_) (fun hle => ?_)
      | refine br_eq (fun heq => ?_) (fun heq => ?_)
      | refine idx_map (by omega) (fun x hx => ?_)
      | refine live_i rfl (fun h => by cases h) ?_
      | refine branch_s (fun hbb => ?_) (fun hbb => ?_)
      | refine ret_i ?_)
    · conv => whnf
      exact ret_bool (eqB_t.2 rfl)
    · exact absurd rfl hd
theorem law_work_spec (nm : ByteArray) (ps : List Pt) (L : List Pl) (hq : ∀ x ∈ L, plQ x) : Sp 4 [S nm, .sl (ps.map ptV), .agg [.sl (L.map plV)]] (.lit (.bool true)) := sp_of Tryd.func4 (by kernel_rfl) (by kernel_rfl) (law_work_vc nm ps L hq)
end Go.Proofs.Cost58
