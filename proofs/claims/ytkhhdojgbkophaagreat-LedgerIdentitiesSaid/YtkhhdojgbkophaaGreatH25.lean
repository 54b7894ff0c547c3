/-
  Sorting few rings, walked.
-/
import Derived.Test.YtkhhdojgbkophaaGreatH24
set_option linter.unusedVariables false
set_option linter.unusedSimpArgs false
namespace Go.Proofs.Led
open Go Go.Proofs Go.Ab
set_option maxRecDepth 100000
set_option maxHeartbeats 4000000
def U64 (n : Int) : V := .lit (.int .u64 n)
def lenT (n : Nat) : Int := match n with
  | 0 => 0
  | 1 => 1
  | 2 => 2
  | 3 => 2
  | _ => 3
theorem len64_0 : Sp 335 [U64 0] (I 0) := by
  refine zsp Tryz.func335 ?_
  repeat' ((conv=>whnf);first|(exfalso; omega)|refine arith_eq (k := .u8) (n := 0) (m := 0) (by decide) ?_|refine need_i (of_decide_eq_true (by kernel_rfl)) ?_|refine arith_eq (k := .i64) (m := 0) (by kernel_rfl) ?_|refine zg ?_|refine zz (fun _=>?_) fun _=>?_|refine zr ?_)
  all_goals conv=>whnf
  all_goals exact ret_int (by kernel_rfl)
theorem len_0 : Sp 280 [U64 0] (I 0) := by
  refine zsp Tryz.func280 ?_
  repeat' ((conv=>whnf);first|refine zc len64_0 ?_|refine zg ?_|refine zr ?_)
  all_goals conv=>whnf
  all_goals exact ret_int rfl
theorem len64_1 : Sp 335 [U64 1] (I 1) := by
  refine zsp Tryz.func335 ?_
  repeat' ((conv=>whnf);first|(exfalso; omega)|refine arith_eq (k := .u8) (n := 1) (m := 1) (by decide) ?_|refine need_i (of_decide_eq_true (by kernel_rfl)) ?_|refine arith_eq (k := .i64) (m := 1) (by kernel_rfl) ?_|refine zg ?_|refine zz (fun _=>?_) fun _=>?_|refine zr ?_)
  all_goals conv=>whnf
  all_goals exact ret_int (by kernel_rfl)
theorem len_1 : Sp 280 [U64 1] (I 1) := by
  refine zsp Tryz.func280 ?_
  repeat' ((conv=>whnf);first|refine zc len64_1 ?_|refine zg ?_|refine zr ?_)
  all_goals conv=>whnf
  all_goals exact ret_int rfl
theorem len64_2 : Sp 335 [U64 2] (I 2) := by
  refine zsp Tryz.func335 ?_
  repeat' ((conv=>whnf);first|(exfalso; omega)|refine arith_eq (k := .u8) (n := 2) (m := 2) (by decide) ?_|refine need_i (of_decide_eq_true (by kernel_rfl)) ?_|refine arith_eq (k := .i64) (m := 2) (by kernel_rfl) ?_|refine zg ?_|refine zz (fun _=>?_) fun _=>?_|refine zr ?_)
  all_goals conv=>whnf
  all_goals exact ret_int (by kernel_rfl)
theorem len_2 : Sp 280 [U64 2] (I 2) := by
  refine zsp Tryz.func280 ?_
  repeat' ((conv=>whnf);first|refine zc len64_2 ?_|refine zg ?_|refine zr ?_)
  all_goals conv=>whnf
  all_goals exact ret_int rfl
theorem len64_3 : Sp 335 [U64 3] (I 2) := by
  refine zsp Tryz.func335 ?_
  repeat' ((conv=>whnf);first|(exfalso; omega)|refine arith_eq (k := .u8) (n := 3) (m := 3) (by decide) ?_|refine need_i (of_decide_eq_true (by kernel_rfl)) ?_|refine arith_eq (k := .i64) (m := 2) (by kernel_rfl) ?_|refine zg ?_|refine zz (fun _=>?_) fun _=>?_|refine zr ?_)
  all_goals conv=>whnf
  all_goals exact ret_int (by kernel_rfl)
theorem len_3 : Sp 280 [U64 3] (I 2) := by
  refine zsp Tryz.func280 ?_
  repeat' ((conv=>whnf);first|refine zc len64_3 ?_|refine zg ?_|refine zr ?_)
  all_goals conv=>whnf
  all_goals exact ret_int rfl
theorem len64_4 : Sp 335 [U64 4] (I 3) := by
  refine zsp Tryz.func335 ?_
  repeat' ((conv=>whnf);first|(exfalso; omega)|refine arith_eq (k := .u8) (n := 4) (m := 4) (by decide) ?_|refine need_i (of_decide_eq_true (by kernel_rfl)) ?_|refine arith_eq (k := .i64) (m := 3) (by kernel_rfl) ?_|refine zg ?_|refine zz (fun _=>?_) fun _=>?_|refine zr ?_)
  all_goals conv=>whnf
  all_goals exact ret_int (by kernel_rfl)
theorem len_4 : Sp 280 [U64 4] (I 3) := by
  refine zsp Tryz.func280 ?_
  repeat' ((conv=>whnf);first|refine zc len64_4 ?_|refine zg ?_|refine zr ?_)
  all_goals conv=>whnf
  all_goals exact ret_int rfl
theorem len64_5 : Sp 335 [U64 5] (I 3) := by
  refine zsp Tryz.func335 ?_
  repeat' ((conv=>whnf);first|(exfalso; omega)|refine arith_eq (k := .u8) (n := 5) (m := 5) (by decide) ?_|refine need_i (of_decide_eq_true (by kernel_rfl)) ?_|refine arith_eq (k := .i64) (m := 3) (by kernel_rfl) ?_|refine zg ?_|refine zz (fun _=>?_) fun _=>?_|refine zr ?_)
  all_goals conv=>whnf
  all_goals exact ret_int (by kernel_rfl)
theorem len_5 : Sp 280 [U64 5] (I 3) := by
  refine zsp Tryz.func280 ?_
  repeat' ((conv=>whnf);first|refine zc len64_5 ?_|refine zg ?_|refine zr ?_)
  all_goals conv=>whnf
  all_goals exact ret_int rfl
theorem len64_6 : Sp 335 [U64 6] (I 3) := by
  refine zsp Tryz.func335 ?_
  repeat' ((conv=>whnf);first|(exfalso; omega)|refine arith_eq (k := .u8) (n := 6) (m := 6) (by decide) ?_|refine need_i (of_decide_eq_true (by kernel_rfl)) ?_|refine arith_eq (k := .i64) (m := 3) (by kernel_rfl) ?_|refine zg ?_|refine zz (fun _=>?_) fun _=>?_|refine zr ?_)
  all_goals conv=>whnf
  all_goals exact ret_int (by kernel_rfl)
theorem len_6 : Sp 280 [U64 6] (I 3) := by
  refine zsp Tryz.func280 ?_
  repeat' ((conv=>whnf);first|refine zc len64_6 ?_|refine zg ?_|refine zr ?_)
  all_goals conv=>whnf
  all_goals exact ret_int rfl
theorem len_any (n : Nat) (h : n <= 6) : ∃ b, Sp 280 [U64 (n : Int)] (I b) := by
  match n, h with
  | 0, _ => exact ⟨_, len_0⟩
  | 1, _ => exact ⟨_, len_1⟩
  | 2, _ => exact ⟨_, len_2⟩
  | 3, _ => exact ⟨_, len_3⟩
  | 4, _ => exact ⟨_, len_4⟩
  | 5, _ => exact ⟨_, len_5⟩
  | 6, _ => exact ⟨_, len_6⟩
theorem pdq_spec {g : FuncId} {c : Rg -> Rg -> Int} {Q : Rg -> Prop} (hc : CmpOk g c Q) (xs : List Rg) (hq : ∀ x ∈ xs, Q x) (hl : xs.length <= 12) (lim : Int) :
    SpIO 279 [.own 39 (xs.map rgV), I 0, I xs.length, I lim, .fn g []] (.tup []) 39 ((isortP c xs).map rgV) := by
  refine io_of rfl Tryz.func279 (by kernel_rfl) (by kernel_rfl) ?_
  have hi := ins_spec hc xs hq (by omega)
  repeat' ((conv=>whnf);first|refine zg ?_)
  refine loop_i (A := Unit) (fun _ => mkSt [(0, .arr 0 0), (1, I 0), (2, I xs.length), (3, I lim), (4, .fn g []), (10, .lit (.bool true)), (11, .lit (.bool true))] [] [(0, ⟨0, .own, 39, xs.map rgV⟩)]) (fun _ => True) (fun _ => 0) () ?_ trivial (fun _ _ => ?_)
  · exact zj
  repeat' ((conv=>whnf);first|(exfalso; omega)|(refine call_io_i (hi) rfl rfl ?_ rfl rfl ?_; focus ((repeat' (first | exact trivial | refine And.intro ?_ ?_ | with_reducible rfl | exact (fun h => by cases h) | exact rfl)); done))|refine zg ?_|refine za ?_|refine zz (fun _=>?_) fun _=>?_)
  all_goals conv=>whnf
  refine retIO_i ?_
  conv => whnf
  exact ⟨[], rfl, ⟨⟨rfl, rfl, rfl, rfl⟩, trivial⟩, rfl⟩
theorem u64_in {n : Int} (h : 0 <= n /\ n <= 1000000) : IntKind.u64.wrap n = n := by
  simp [IntKind.wrap, IntKind.signed, IntKind.bits]
  omega
theorem sortF_spec {g : FuncId} {c : Rg -> Rg -> Int} {Q : Rg -> Prop} (hc : CmpOk g c Q) (xs : List Rg) (hq : ∀ x ∈ xs, Q x) (hl : xs.length <= 6) :
    SpIO 217 [.own 39 (xs.map rgV), .fn g []] (.tup []) 39 ((isortP c xs).map rgV) := by
  refine io_of rfl Tryz.func217 (by kernel_rfl) (by kernel_rfl) ?_
  have hmm : (xs.map rgV).length = xs.length := by simp
  obtain ⟨b, hb⟩ := len_any xs.length hl
  have hp := pdq_spec hc xs hq (by omega) b
  rw [<- hmm] at hb hp
  repeat' ((conv=>whnf);first|refine arith_eq (k := .u64) (n := ((xs.map rgV).length : Int)) (m := ((xs.map rgV).length : Int)) (u64_in (by omega)) ?_|refine zc hb ?_|(refine call_io_i (hp) rfl rfl ?_ rfl rfl ?_; focus ((repeat' (first | exact trivial | refine And.intro ?_ ?_ | with_reducible rfl | exact (fun h => by cases h) | exact rfl)); done))|refine zg ?_|refine zv ?_)
  all_goals conv=>whnf
  refine retIO_i ?_
  conv => whnf
  exact ⟨[], rfl, ⟨⟨rfl, rfl, rfl, rfl⟩, trivial⟩, rfl⟩
theorem insN_spec (g : FuncId) : Sp 326 [nilV, I 0, I 0, .fn g []] (.tup []) := by
  refine zsp Tryz.func326 ?_
  repeat' ((conv=>whnf);first|refine zg ?_|refine za ?_)
  refine loop_i (A := Unit) (fun _ => mkSt [(1, I 0), (2, I 0), (8, I 1)] [] []) (fun _ => True) (fun _ => 0) () ?_ trivial (fun _ _ => ?_)
  · exact zj
  repeat' ((conv=>whnf);first|(exfalso; omega)|refine zg ?_|refine zz (fun _=>?_) fun _=>?_|refine zr ?_)
  all_goals conv=>whnf
  all_goals exact ⟨[], rfl, trivial, rfl⟩
theorem pdqN_spec (g : FuncId) (lim : Int) : Sp 279 [nilV, I 0, I 0, I lim, .fn g []] (.tup []) := by
  refine zsp Tryz.func279 ?_
  repeat' ((conv=>whnf);first|refine zg ?_)
  refine loop_i (A := Unit) (fun _ => mkSt [(0, nilV), (1, I 0), (2, I 0), (3, I lim), (4, .fn g [])] [] []) (fun _ => True) (fun _ => 0) () ?_ trivial (fun _ _ => ?_)
  · exact zj
  repeat' ((conv=>whnf);first|(exfalso; omega)|refine zc (insN_spec g) ?_|refine zg ?_|refine za ?_|refine zz (fun _=>?_) fun _=>?_|refine zr ?_)
  all_goals conv=>whnf
  all_goals exact ⟨[], rfl, trivial, rfl⟩
theorem sortN_spec (g : FuncId) : Sp 217 [nilV, .fn g []] (.tup []) := by
  refine zsp Tryz.func217 ?_
  repeat' ((conv=>whnf);first|refine arith_eq (k := .u64) (n := 0) (m := 0) (by decide) ?_|refine zc len_0 ?_|refine zc (pdqN_spec g 0) ?_|refine zg ?_|refine zr ?_)
  all_goals conv=>whnf
  all_goals exact ⟨[], rfl, trivial, rfl⟩
theorem canonR_Q {r : Rg} (h : ringOk r) (hl : r.length <= 1000000) : Qr (canonR r) := by
  rw [canonR_t h]
  have h3 := h.1
  have e : (beginR r).length = r.length := by unfold beginR; rw [List.length_append, List.length_drop, List.length_take]; omega
  refine ⟨fun q => ?_, by omega⟩
  rw [q] at e
  simp at e
  omega
noncomputable def canonH (s : Sh) : List Rg := isortP cR (s.holes.map canonR)
noncomputable def canonS (s : Sh) : Sh := open Classical in if shapeOk s then ⟨canonR s.outer, canonH s⟩ else sh0
theorem canonS_t {s : Sh} (h : shapeOk s) : canonS s = ⟨canonR s.outer, canonH s⟩ := if_pos h
theorem canonS_f {s : Sh} (h : ¬ shapeOk s) : canonS s = sh0 := if_neg h
noncomputable def canSt (s : Sh) (D : List Rg) : St := match D with
  | [] => mkSt [(1, .box 1 0), (2, .box 2 0), (3, .box 3 0), (15, .sl (s.holes.map rgV)), (16, I s.holes.length), (17, I 0)] [(1, (shV s).cells), (2, (shV sh0).cells), (3, [rgV (canonR s.outer), nilV])] []
  | d :: D => mkSt [(1, .box 1 0), (2, .box 2 0), (3, .box 3 0), (15, .sl (s.holes.map rgV)), (16, I s.holes.length), (17, I ((D.length : Int) + 1))] [(1, (shV s).cells), (2, (shV sh0).cells), (3, [rgV (canonR s.outer), .arr 26 D.length])] [(26, ⟨D.length, .own, 39, ((d :: D).map canonR).map rgV⟩)]
theorem canonS_spec (s : Sh) (hs : Sized s) : Sp 160 [shV s] (shV (canonS s)) := by
  refine zsp Tryz.func160 ?_
  have h1 := canonS_t (s := s)
  have h2 := canonS_f (s := s)
  generalize canonS s = A at *
  have hmm : (s.holes.map rgV).length = s.holes.length := by simp
  repeat' ((conv=>whnf);first|refine zc (shapeOk_spec s hs) ?_|refine zc (canonR_spec s.outer hs.1) ?_|refine zg ?_|refine zn ?_|refine zd (fun hd=>?_) (fun hd=>?_)|refine zr ?_)
  all_goals conv=>whnf
  · rw [h1 hd]
    have hok := hd
    unfold shapeOk at hok
    obtain ⟨h6, hro, _, _⟩ := hok
    have hQ : ∀ x ∈ s.holes.map canonR, Qr x := fun x hx => by
      obtain ⟨r, hr, rfl⟩ := List.mem_map.1 hx
      exact canonR_Q (hro r (List.mem_cons_of_mem _ hr)) (hs.2.2 r hr)
    have hcl : (s.holes.map canonR).length = s.holes.length := by simp
    refine loop_2 (A := List Rg) (B := List Rg) (fun D R => canSt s D) (fun D R => s.holes = D ++ R) (fun D R => R.length) [] s.holes ?_ rfl (fun D R hp => ?_)
    · refine le_mk ?_ ?_ ?_ ?_
      all_goals repeat' (first | exact trivial | refine And.intro ?_ ?_ | with_reducible rfl | exact (fun h => by cases h) | exact Nat.le_refl _ | omega | exact rfl)
      all_goals (try rw [List.length_map])
    cases R with
    | nil =>
      have e : D = s.holes := by rw [hp]; simp
      subst e
      clear hp
      cases hh : s.holes with
      | nil =>
        have hcn : canonH s = [] := by unfold canonH; rw [hh]; rfl
        rw [hcn]
        have hz : s.holes.length = 0 := by rw [hh]; rfl
        repeat' ((conv=>whnf);first|(exfalso; omega)|refine zc (sortN_spec 218) ?_|refine zg ?_|refine zl (fun hlt=>?_) (fun hlt=>?_)|refine zr ?_)
        all_goals conv=>whnf
        refine ⟨?_, rfl, fun rs h => V.noConfusion h⟩
        (repeat' (first | exact trivial | refine And.intro ?_ ?_ | with_reducible rfl | exact (fun h => by cases h) | exact rfl)); done
      | cons d D =>
        have hcl2 : (d :: D).length = D.length + 1 := rfl
        have hso := sortF_spec cR_ok ((d :: D).map canonR) (by rw [<- hh]; exact hQ) (by rw [<- hh]; omega)
        have hcn : canonH s = isortP cR ((d :: D).map canonR) := by unfold canonH; rw [hh]
        rw [hcn]
        generalize isortP cR ((d :: D).map canonR) = Z at hso
        have hhl : s.holes.length = D.length + 1 := by rw [hh]; rfl
        repeat' ((conv=>whnf);first|(exfalso; omega)|(refine call_io_i (hso) rfl rfl ?_ rfl rfl ?_; focus ((repeat' (first | exact trivial | refine And.intro ?_ ?_ | with_reducible rfl | exact (fun h => by cases h) | exact rfl)); done))|refine zg ?_|refine zl (fun hlt=>?_) (fun hlt=>?_)|refine zr ?_)
        all_goals conv=>whnf
        refine ⟨?_, rfl, fun rs h => V.noConfusion h⟩
        (repeat' (first | exact trivial | refine And.intro ?_ ?_ | with_reducible rfl | exact (fun h => by cases h) | exact rfl)); done
    | cons h R =>
      have hlen := mid_len hp
      have hl : h.length <= 1000000 := hs.2.2 h (by rw [hp]; simp)
      have hcs := canonR_spec h hl
      cases D with
      | nil =>
        have h0 : ([] : List Rg).length = 0 := rfl
        repeat' ((conv=>whnf);first|(exfalso; omega)|refine idx_mid (l := s.holes) (A := []) (x := h) (B := R) hp (by omega) ?_|refine zc hcs ?_|refine need_nil (of_decide_eq_true rfl) (one_cells rfl) (of_decide_eq_true rfl) ?_|refine zg ?_|refine zi ?_|refine za ?_|refine zo ?_|refine zl (fun hlt=>?_) (fun hlt=>?_)|refine zv ?_)
        all_goals conv=>whnf
        refine ⟨([h], R), ?_, hp, by simp⟩
        show Le T _ (mkSt [(1, .box 1 0), (2, .box 2 0), (3, .box 3 0), (15, .sl (s.holes.map rgV)), (16, I s.holes.length), (17, I (0 + 1))] [(1, (shV s).cells), (2, (shV sh0).cells), (3, [rgV (canonR s.outer), .arr 26 0])] [(26, ⟨0, .own, 39, [rgV (canonR h)]⟩)])
        exact zj
      | cons d D =>
        have h0 : (d :: D).length = D.length + 1 := rfl
        have hfl : (((d :: D).map canonR).map rgV).length = D.length + 1 := by simp
        repeat' ((conv=>whnf);first|(exfalso; omega)|refine idx_mid (l := s.holes) (A := d :: D) (x := h) (B := R) hp (by omega) ?_|refine zc hcs ?_|refine need_app rfl (.inl rfl) rfl (of_decide_eq_true rfl) (one_cells rfl) (show (((d :: D).map canonR).map rgV).length + 1 <= 1000000000 by omega) ?_|refine zg ?_|refine zi ?_|refine za ?_|refine zo ?_|refine zl (fun hlt=>?_) (fun hlt=>?_)|refine zv ?_)
        all_goals conv=>whnf
        refine ⟨(d :: D ++ [h], R), ?_, by rw [hp]; simp, by simp⟩
        show Le T _ (mkSt [(1, .box 1 0), (2, .box 2 0), (3, .box 3 0), (15, .sl (s.holes.map rgV)), (16, I s.holes.length), (17, I (((D ++ [h]).length : Int) + 1))] [(1, (shV s).cells), (2, (shV sh0).cells), (3, [rgV (canonR s.outer), .arr 26 (D ++ [h]).length])] [(26, ⟨(D ++ [h]).length, .own, 39, (((d :: D) ++ [h]).map canonR).map rgV⟩)])
        rw [show (((d :: D) ++ [h]).map canonR).map rgV = ((d :: D).map canonR).map rgV ++ [rgV (canonR h)] by simp, List.length_append, List.length_singleton]
        exact zj
  · rw [h2 hd]
    refine ⟨?_, rfl, fun rs h => V.noConfusion h⟩
    (repeat' (first | exact trivial | refine And.intro ?_ ?_ | with_reducible rfl | exact (fun h => by cases h) | exact rfl)); done
theorem fst_eq {n : Int} {D R : List Int} (h : ∀ y ∈ D, ¬ n = y) : fst (fun y => n = y) (D ++ n :: R) = D.length := tw_stop (fun y hy => by rw [decB_f.2 (h y hy)]; rfl) (by rw [decB_t.2 rfl]; rfl)
theorem indexI64_spec (l : List Int) (n : Int) (hl : l.length <= 1000000) : Sp 336 [.sl (l.map I), I n] (I (fstI (fun y => n = y) l)) := by
  refine zsp Tryz.func336 ?_
  have hll : (l.map I).length = l.length := by simp
  repeat' ((conv=>whnf);first|refine zg ?_)
  refine loop_2 (A := List Int) (B := List Int) (fun D R => mkSt [(0, .sl (l.map I)), (1, I n), (6, .sl (l.map I)), (7, I l.length), (8, I D.length)] [] []) (fun D R => l = D ++ R /\ ∀ y ∈ D, ¬ n = y) (fun D R => R.length) [] l ?_ ⟨rfl, by simp⟩ (fun D R hp => ?_)
  · exact zj
  obtain ⟨hp, hD⟩ := hp
  cases R with
  | nil =>
    have hlen : l.length = D.length := by rw [hp]; simp
    repeat' ((conv=>whnf);first|(exfalso; omega)|refine zg ?_|refine zl (fun hlt=>?_) (fun hlt=>?_)|refine zr ?_)
    all_goals conv=>whnf
    refine ret_int ?_
    unfold fstI
    rw [if_neg (fst_none.2 (by rw [hp, List.append_nil]; exact hD))]
  | cons y R =>
    have hlen := mid_len hp
    repeat' ((conv=>whnf);first|(exfalso; omega)|refine need_len (l := l) (by omega) ?_|refine idx_mid (l := l) (A := D) (x := y) (B := R) hp (by omega) ?_|refine zg ?_|refine za ?_|refine zl (fun hlt=>?_) (fun hlt=>?_)|refine ze (fun heq=>?_) (fun heq=>?_)|refine zr ?_)
    all_goals conv=>whnf
    · subst heq
      refine ret_int ?_
      unfold fstI
      rw [hp, fst_eq hD, if_pos (by simp)]
    · refine ⟨(D ++ [y], R), ?_, ⟨by rw [hp]; simp, fun z hz => ?_⟩, by simp⟩
      · simp only [List.length_append, List.length_singleton]
        exact zj
      · rcases List.mem_append.1 hz with hz | hz
        · exact hD z hz
        · rw [List.mem_singleton.1 hz]; assumption
theorem hasI_spec (l : List Int) (n : Int) (hl : l.length <= 1000000) : Sp 283 [.sl (l.map I), I n] (DB (n ∈ l)) := by
  refine zsp Tryz.func283 ?_
  repeat' ((conv=>whnf);first|refine zc (indexI64_spec l n hl) ?_|refine zg ?_|refine zr ?_)
  all_goals conv=>whnf
  all_goals refine ret_boolD (le_dec ?_)
  have h := fst_none (Q := fun y => n = y) (l := l)
  unfold fstI
  constructor
  · intro h0
    split at h0
    · rename_i hlt
      exact Classical.byContradiction fun hn => (h.2 (fun m hm hq => hn (by rw [hq]; exact hm))) hlt
    · omega
  · intro hm
    split
    · omega
    · rename_i hlt
      exact (h.1 hlt n hm rfl).elim
theorem edgesS_le {s : Sh} (hs : Sized s) (h7 : s.holes.length <= 6) : (edgesS s).length <= 7000000 := flat_bound hs h7 (D := rings s) (R := []) (by simp)
def meetingC (a b : Sh) (ways : List Int) : Prop := ∃ x ∈ edgesS a, ∃ y ∈ edgesS b, meetK x y ∈ ways
theorem meeting_spec (a b : Sh) (ways : List Int) (ha : Sized a) (ha7 : a.holes.length <= 6) (hb : Sized b) (hb7 : b.holes.length <= 6) (hw : ways.length <= 1000000) : Sp 221 [shV a, shV b, .sl (ways.map I)] (DB (meetingC a b ways)) := by
  refine zsp Tryz.func221 ?_
  have hea := edgesS_spec a ha ha7
  have heb := edgesS_spec b hb hb7
  have hla := edgesS_le ha ha7
  have hlb := edgesS_le hb hb7
  generalize hP : meetingC a b ways = P
  have hr : P ↔ meetingC a b ways := by rw [hP]
  clear hP
  unfold meetingC at hr
  generalize edgesS a = A at *
  generalize edgesS b = B at *
  repeat' ((conv=>whnf);first|refine zc heb ?_|refine zc hea ?_|refine zg ?_|refine zv ?_)
  conv => whnf
  refine loop_2 (A := List Sg) (B := List Sg) (fun D R => mkSt [(2, .sl (ways.map I)), (7, .lit (.bool false)), (8, .arr 14 0), (16, .arr 16 0), (17, I A.length), (18, I D.length)] [] [(14, ⟨0, .own, 298, B.map sgV⟩), (16, ⟨0, .own, 298, A.map sgV⟩)]) (fun D R => A = D ++ R /\ ∀ x ∈ D, ∀ y ∈ B, ¬ meetK x y ∈ ways) (fun D R => R.length) [] A ?_ ⟨rfl, by simp⟩ (fun D R hp => ?_)
  · refine le_mk ?_ ?_ ?_ ?_
    all_goals repeat' (first | exact trivial | refine And.intro ?_ ?_ | with_reducible rfl | exact (fun h => by cases h) | exact Nat.le_refl _ | omega | exact rfl)
    all_goals (rw [List.length_map])
  obtain ⟨hp, hD⟩ := hp
  cases R with
  | nil =>
    have hlen : A.length = D.length := by rw [hp]; simp
    repeat' ((conv=>whnf);first|(exfalso; omega)|refine zg ?_|refine zz (fun _=>?_) fun _=>?_|refine zr ?_)
    all_goals conv=>whnf
    refine ret_boolD (dec_retf ?_)
    rw [hr, hp, List.append_nil]
    rintro ⟨x, hx, y, hy, hm⟩
    exact hD x hx y hy hm
  | cons x R =>
    have hlen := mid_len hp
    repeat' ((conv=>whnf);first|(exfalso; omega)|refine need_own rfl rfl (by show 0 <= _ /\ _ < ((A.map sgV).length : Int); rw [List.length_map]; omega) ?_|refine idx_mid (l := A) (A := D) (x := x) (B := R) hp (by omega) ?_|refine zg ?_|refine zv ?_|refine zz (fun _=>?_) fun _=>?_)
    refine loop_2 (A := List Sg) (B := List Sg) (fun E S => mkSt [(2, .sl (ways.map I)), (7, .lit (.bool false)), (8, .arr 14 0), (10, .box 10 0), (16, .arr 16 0), (17, I A.length), (18, I D.length), (22, .arr 14 0), (23, I B.length), (24, I E.length)] [(10, (sgV x).cells)] [(14, ⟨0, .own, 298, B.map sgV⟩), (16, ⟨0, .own, 298, A.map sgV⟩)]) (fun E S => B = E ++ S /\ ∀ y ∈ E, ¬ meetK x y ∈ ways) (fun E S => S.length) [] B ?_ ⟨rfl, by simp⟩ (fun E S hq => ?_)
    · refine le_mk ?_ ?_ ?_ ?_
      all_goals repeat' (first | exact trivial | refine And.intro ?_ ?_ | with_reducible rfl | exact (fun h => by cases h) | exact Nat.le_refl _ | omega | exact rfl)
      all_goals (rw [List.length_map])
    obtain ⟨hq, hE⟩ := hq
    cases S with
    | nil =>
      have hlen2 : B.length = E.length := by rw [hq]; simp
      have hBE : B = E := by rw [hq]; simp
      repeat' ((conv=>whnf);first|(exfalso; omega)|refine zg ?_|refine za ?_|refine zz (fun _=>?_) fun _=>?_)
      all_goals conv=>whnf
      refine ⟨(D ++ [x], R), ?_, ⟨by rw [hp]; simp, fun z hz => ?_⟩, by simp⟩
      · simp only [List.length_append, List.length_singleton]
        exact zj
      · rcases List.mem_append.1 hz with hz | hz
        · exact hD z hz
        · rw [List.mem_singleton.1 hz, hBE]
          exact hE
    | cons y S =>
      have hlen2 := mid_len hq
      repeat' ((conv=>whnf);first|(exfalso; omega)|refine need_own rfl rfl (by show 0 <= _ /\ _ < ((B.map sgV).length : Int); rw [List.length_map]; omega) ?_|refine idx_mid (l := B) (A := E) (x := y) (B := S) hq (by omega) ?_|refine zc (Meet_spec x y) ?_|refine zc (hasI_spec ways (meetK x y) hw) ?_|refine zg ?_|refine za ?_|refine zv ?_|refine zz (fun _=>?_) fun _=>?_|refine zr ?_)
      all_goals conv=>whnf
      all_goals first
        | exact ret_boolD (dec_ret (hr.2 ⟨x, by rw [hp]; simp, y, by rw [hq]; simp, by assumption⟩))
        | skip
      refine ⟨(E ++ [y], S), ?_, ⟨by rw [hq]; simp, fun z hz => ?_⟩, by simp⟩
      · simp only [List.length_append, List.length_singleton]
        exact zj
      · rcases List.mem_append.1 hz with hz | hz
        · exact hE z hz
        · rw [List.mem_singleton.1 hz]
          assumption
def arN (i : Nat) (r : Rg) (k : Nat) : Vc := if 0 < i then lastV r k else nextV r k
def arL (i : Nat) (r : Rg) (k : Nat) : Vc := if 0 < i then nextV r k else lastV r k
noncomputable def aroundV (i : Nat) (r : Rg) (p : Vc) (k : Nat) : Option Sg :=
  open Classical in if r.getD k z0 = p then some (vsub (arN i r k) p, vsub (arL i r k) p)
  else if arN i r k ≠ p /\ segOn (r.getD k z0, arN i r k) p then some (vsub (arN i r k) p, vsub (r.getD k z0) p) else none
noncomputable def aroundR (i : Nat) (r : Rg) (p : Vc) : Option Sg := (List.range r.length).findSome? (aroundV i r p)
noncomputable def aroundL (p : Vc) : Nat -> List Rg -> Option Sg
  | _, [] => none
  | i, r :: R => (aroundR i r p).or (aroundL p (i + 1) R)
noncomputable def aroundS (s : Sh) (p : Vc) : Sg := (aroundL p 0 (rings s)).getD ((0, 0), (0, 0))
theorem aroundR_none {i : Nat} {r : Rg} {p : Vc} (h : ∀ k, k < r.length -> aroundV i r p k = none) : aroundR i r p = none := by
  unfold aroundR
  rw [List.findSome?_eq_none_iff]
  intro k hk
  exact h k (List.mem_range.1 hk)
theorem range_split {n k : Nat} (h : k < n) : List.range n = List.range k ++ k :: (List.range n).drop (k + 1) := by
  apply List.ext_getElem?
  intro j
  by_cases h1 : j < k
  · rw [List.getElem?_append_left (by simpa using h1), List.getElem?_range (by omega), List.getElem?_range h1]
  · rw [List.getElem?_append_right (by simp; omega), List.length_range]
    by_cases h2 : j = k
    · subst h2; simp [h]
    · obtain ⟨t, ht⟩ : ∃ t, j - k = t + 1 := ⟨j - k - 1, by omega⟩
      rw [ht, List.getElem?_cons_succ, List.getElem?_drop]
      congr 1
      omega
theorem aroundR_some {i : Nat} {r : Rg} {p : Vc} {k : Nat} {x : Sg} (hk : k < r.length) (h : ∀ j, j < k -> aroundV i r p j = none) (hx : aroundV i r p k = some x) : aroundR i r p = some x := by
  unfold aroundR
  rw [range_split hk, List.findSome?_append, List.findSome?_eq_none_iff.2 (fun j hj => h j (List.mem_range.1 hj)), List.findSome?_cons, hx]
  rfl
theorem aroundL_at {p : Vc} {i : Nat} {r : Rg} {R : List Rg} {x : Sg} (h : aroundR i r p = some x) : aroundL p i (r :: R) = some x := by
  rw [aroundL, h]; rfl
theorem aroundL_on {p : Vc} {i : Nat} {r : Rg} {R : List Rg} (h : aroundR i r p = none) : aroundL p i (r :: R) = aroundL p (i + 1) R := by
  rw [aroundL, h]; rfl
theorem around_spec (s : Sh) (p : Vc) (hs : Sized s) (h7 : s.holes.length <= 6) : Sp 288 [shV s, vcV p] (sgV (aroundS s p)) := by
  refine zsp Tryz.func288 ?_
  have hrs := ringsS_spec s hs
  have hmem : ∀ r ∈ rings s, r.length <= 1000000 := fun r hr => hs.mem hr
  have hlr : (rings s).length <= 7 := by unfold rings; simp; omega
  have hX : ∀ x : Sg, aroundL p 0 (rings s) = some x -> sgV (aroundS s p) = sgV x := fun x h => by unfold aroundS; rw [h]; rfl
  have hX0 : aroundL p 0 (rings s) = none -> sgV (aroundS s p) = sgV ((0, 0), (0, 0)) := fun h => by unfold aroundS; rw [h]; rfl
  generalize sgV (aroundS s p) = X at *
  generalize rings s = rs at *
  have hmm : (rs.map rgV).length = rs.length := by simp
  repeat' ((conv=>whnf);first|refine zc hrs ?_|refine zg ?_|refine zv ?_)
  refine loop_2 (A := List Rg) (B := List Rg) (fun D R => mkSt [(2, .box 2 0), (3, .box 3 0), (4, .box 4 0), (13, .arr 13 0), (14, I rs.length), (15, I D.length)] [(2, (shV s).cells), (3, (vcV p).cells), (4, [I 0, I 0, I 0, I 0])] [(13, ⟨0, .own, 39, rs.map rgV⟩)]) (fun D R => rs = D ++ R /\ aroundL p 0 rs = aroundL p D.length R) (fun D R => R.length) [] rs ?_ ⟨rfl, rfl⟩ (fun D R hp => ?_)
  · refine le_mk ?_ ?_ ?_ ?_
    all_goals repeat' (first | exact trivial | refine And.intro ?_ ?_ | with_reducible rfl | exact (fun h => by cases h) | exact Nat.le_refl _ | omega | exact rfl)
    all_goals (try rw [List.length_map])
  obtain ⟨hp, hL⟩ := hp
  cases R with
  | nil =>
    have hlen : rs.length = D.length := by rw [hp]; simp
    have hx := hX0 (by rw [hL]; rfl)
    subst hx
    repeat' ((conv=>whnf);first|(exfalso; omega)|refine zg ?_|refine zz (fun _=>?_) fun _=>?_|refine zr ?_)
    all_goals conv=>whnf
    all_goals conv=>whnf
    all_goals first|exact ret_int rfl|exact ret_bool rfl|exact ret_lit rfl|exact zt|exact zu
  | cons r R =>
    have hlen := mid_len hp
    have hrl := hmem r (by rw [hp]; simp)
    have hrm : (r.map vcV).length = r.length := by simp
    repeat' ((conv=>whnf);first|(exfalso; omega)|refine need_own rfl rfl (by show 0 <= _ /\ _ < ((rs.map rgV).length : Int); omega) ?_|refine idx_mid (l := rs) (A := D) (x := r) (B := R) hp (by omega) ?_|refine zg ?_|refine zv ?_|refine zz (fun _=>?_) fun _=>?_)
    refine loop_i (A := Nat) (fun k => mkSt [(2, .box 2 0), (3, .box 3 0), (4, .box 4 0), (5, I D.length), (6, rgV r), (13, .arr 13 0), (14, I rs.length), (15, I D.length), (20, rgV r), (21, I r.length), (22, I k)] [(2, (shV s).cells), (3, (vcV p).cells), (4, [I 0, I 0, I 0, I 0])] [(13, ⟨0, .own, 39, rs.map rgV⟩)]) (fun k => k <= r.length /\ ∀ j, j < k -> aroundV D.length r p j = none) (fun k => r.length - k) 0 ?_ ⟨by omega, fun j hj => absurd hj (by omega)⟩ (fun k hk => ?_)
    · exact zj
    obtain ⟨hk, hN⟩ := hk
    by_cases hkr : k < r.length
    · have hm1 : (k + 1) % r.length < r.length := Nat.mod_lt _ (by omega)
      have hm2 : (k + r.length - 1) % r.length < r.length := Nat.mod_lt _ (by omega)
      have hF : ∀ x, aroundV D.length r p k = some x -> aroundL p 0 rs = some x := fun x hx => by rw [hL]; exact aroundL_at (aroundR_some hkr hN hx)
      by_cases h0 : 0 < D.length
      · have eN : arN D.length r k = lastV r k := if_pos h0
        have eL : arL D.length r k = nextV r k := if_pos h0
        repeat' ((conv=>whnf);first|(exfalso; omega)|refine draw_c [(6, 999), (27, 999), (30, 999), (32, 999), (33, 999), (35, 999), (37, 999), (41, 999), (43, 999), (44, 999), (9, 9), (10, 10)] (by repeat' (first | exact trivial | exact rfl | refine And.intro ?_ ?_)) (by kernel_rfl) ?_|refine need_rem (by omega) ?_|refine need_len (l := r) (by rw [tmod_len (a := k + 1) (by omega)]; omega) ?_|refine need_len (l := r) (by rw [tmod_len (a := k + r.length - 1) (by omega)]; omega) ?_|refine need_len (l := r) (by omega) ?_|refine idx_mod (k := (k + 1) % r.length) (tmod_len (by omega)) hm1 ?_|refine idx_mod (k := (k + r.length - 1) % r.length) (tmod_len (by omega)) hm2 ?_|refine idx_mod (k := k) (by omega) hkr ?_|refine eqVc_i ?_|refine br_veq (fun hv => ?_) (fun hv => ?_)|refine zc (vsub_spec (lastV r k) p) ?_|refine zc (vsub_spec (nextV r k) p) ?_|refine zc (vsub_spec (r.getD k z0) p) ?_|refine zc (segOn_spec (r.getD k z0, lastV r k) p) ?_|refine zg ?_|refine za ?_|refine zy ?_|refine zn ?_|refine zz (fun _=>?_) fun _=>?_|refine zr ?_)
        all_goals conv=>whnf
        · have hx := hX (vsub (lastV r k) p, vsub (nextV r k) p) (hF _ (by unfold aroundV; rw [if_pos ‹r.getD k z0 = p›, eN, eL]))
          subst hx
          all_goals conv=>whnf
          all_goals first|exact ret_int rfl|exact ret_bool rfl|exact ret_lit rfl|exact zt|exact zu
        · refine ⟨k + 1, ?_, ⟨by omega, fun j hj => ?_⟩, by omega⟩
          · exact zj
          · rcases Nat.lt_or_ge j k with h | h
            · exact hN j h
            · have : j = k := by omega
              subst this
              unfold aroundV
              rw [if_neg ‹¬ r.getD j z0 = p›, eN, if_neg (fun h => h.1 (by assumption))]
        · have hx := hX (vsub (lastV r k) p, vsub (r.getD k z0) p) (hF _ (by unfold aroundV; rw [if_neg ‹¬ r.getD k z0 = p›, eN, if_pos ⟨by assumption, by assumption⟩]))
          subst hx
          all_goals conv=>whnf
          all_goals first|exact ret_int rfl|exact ret_bool rfl|exact ret_lit rfl|exact zt|exact zu
        · refine ⟨k + 1, ?_, ⟨by omega, fun j hj => ?_⟩, by omega⟩
          · exact zj
          · rcases Nat.lt_or_ge j k with h | h
            · exact hN j h
            · have : j = k := by omega
              subst this
              unfold aroundV
              rw [if_neg ‹¬ r.getD j z0 = p›, eN, if_neg (fun h => absurd h.2 (by assumption))]
      · have eN : arN D.length r k = nextV r k := if_neg h0
        have eL : arL D.length r k = lastV r k := if_neg h0
        repeat' ((conv=>whnf);first|(exfalso; omega)|refine draw_c [(6, 999), (27, 999), (30, 999), (32, 999), (33, 999), (35, 999), (37, 999), (41, 999), (43, 999), (44, 999), (9, 9), (10, 10)] (by repeat' (first | exact trivial | exact rfl | refine And.intro ?_ ?_)) (by kernel_rfl) ?_|refine need_rem (by omega) ?_|refine need_len (l := r) (by rw [tmod_len (a := k + 1) (by omega)]; omega) ?_|refine need_len (l := r) (by rw [tmod_len (a := k + r.length - 1) (by omega)]; omega) ?_|refine need_len (l := r) (by omega) ?_|refine idx_mod (k := (k + 1) % r.length) (tmod_len (by omega)) hm1 ?_|refine idx_mod (k := (k + r.length - 1) % r.length) (tmod_len (by omega)) hm2 ?_|refine idx_mod (k := k) (by omega) hkr ?_|refine eqVc_i ?_|refine br_veq (fun hv => ?_) (fun hv => ?_)|refine zc (vsub_spec (nextV r k) p) ?_|refine zc (vsub_spec (lastV r k) p) ?_|refine zc (vsub_spec (r.getD k z0) p) ?_|refine zc (segOn_spec (r.getD k z0, nextV r k) p) ?_|refine zg ?_|refine za ?_|refine zy ?_|refine zn ?_|refine zz (fun _=>?_) fun _=>?_|refine zr ?_)
        all_goals conv=>whnf
        · have hx := hX (vsub (nextV r k) p, vsub (lastV r k) p) (hF _ (by unfold aroundV; rw [if_pos ‹r.getD k z0 = p›, eN, eL]))
          subst hx
          all_goals conv=>whnf
          all_goals first|exact ret_int rfl|exact ret_bool rfl|exact ret_lit rfl|exact zt|exact zu
        · refine ⟨k + 1, ?_, ⟨by omega, fun j hj => ?_⟩, by omega⟩
          · exact zj
          · rcases Nat.lt_or_ge j k with h | h
            · exact hN j h
            · have : j = k := by omega
              subst this
              unfold aroundV
              rw [if_neg ‹¬ r.getD j z0 = p›, eN, if_neg (fun h => h.1 (by assumption))]
        · have hx := hX (vsub (nextV r k) p, vsub (r.getD k z0) p) (hF _ (by unfold aroundV; rw [if_neg ‹¬ r.getD k z0 = p›, eN, if_pos ⟨by assumption, by assumption⟩]))
          subst hx
          all_goals conv=>whnf
          all_goals first|exact ret_int rfl|exact ret_bool rfl|exact ret_lit rfl|exact zt|exact zu
        · refine ⟨k + 1, ?_, ⟨by omega, fun j hj => ?_⟩, by omega⟩
          · exact zj
          · rcases Nat.lt_or_ge j k with h | h
            · exact hN j h
            · have : j = k := by omega
              subst this
              unfold aroundV
              rw [if_neg ‹¬ r.getD j z0 = p›, eN, if_neg (fun h => absurd h.2 (by assumption))]
    · have e : k = r.length := by omega
      subst e
      repeat' ((conv=>whnf);first|(exfalso; omega)|refine zg ?_|refine za ?_|refine zz (fun _=>?_) fun _=>?_)
      all_goals conv=>whnf
      refine ⟨(D ++ [r], R), ?_, ⟨by rw [hp]; simp, by rw [hL, aroundL_on (aroundR_none hN)]; simp⟩, by simp⟩
      simp only [List.length_append, List.length_singleton]
      exact zj
abbrev SecOk (g : FuncId) (Q : Sg -> Sg -> Prop) : Prop := ∀ x y, Sp g [sgV x, sgV y] (DB (Q x y))
def touchAt (a b : Sh) (Q : Sg -> Sg -> Prop) (p : Vc) : Prop := whereS a p = 1 -> whereS b p = 1 -> Q (aroundS a p) (aroundS b p)
def touchC (a b : Sh) (Q : Sg -> Sg -> Prop) : Prop := ∀ p ∈ verts a ++ verts b, touchAt a b Q p
theorem touch_spec {g : FuncId} {Q : Sg -> Sg -> Prop} (hg : SecOk g Q) (a b : Sh) (ha : Sized a) (ha7 : a.holes.length <= 6) (hb : Sized b) (hb7 : b.holes.length <= 6) : Sp 223 [shV a, shV b, .fn g []] (DB (touchC a b Q)) := by
  refine zsp Tryz.func223 ?_
  have hva := vertS_spec a ha ha7
  have hvb := vertS_spec b hb hb7
  have hla := verts_le ha ha7
  have hlb := verts_le hb hb7
  change Sp _ _ (.own 76 ((verts a).map vcV)) at hva
  change Sp _ _ (.own 76 ((verts b).map vcV)) at hvb
  generalize hP : touchC a b Q = P
  have hr : P ↔ ∀ p ∈ verts a ++ verts b, touchAt a b Q p := by rw [<- hP]; exact Iff.rfl
  clear hP
  generalize verts a = A at *
  generalize verts b = B at *
  have hAm : (A.map vcV).length = A.length := by simp
  have hBm : (B.map vcV).length = B.length := by simp
  repeat' ((conv=>whnf);first|refine zc hva ?_|refine zc hvb ?_|refine need_app rfl (.inl rfl) rfl (of_decide_eq_true rfl) (vc_cells _) (show (A.map vcV).length + (B.map vcV).length <= 1000000000 by omega) ?_|refine zg ?_|refine zi ?_|refine zv ?_)
  all_goals conv=>whnf
  have hCm : (A ++ B).length = A.length + B.length := List.length_append
  have hmap : A.map vcV ++ B.map vcV = (A ++ B).map vcV := by simp
  generalize hC : A ++ B = C at *
  have hCl : (C.map vcV).length = C.length := by simp
  refine loop_2 (A := List Vc) (B := List Vc) (fun D R => mkSt [(2, .fn g []), (3, .box 3 0), (4, .box 4 0), (13, .arr 10 1), (14, I C.length), (15, I D.length)] [(3, (shV a).cells), (4, (shV b).cells)] [(10, ⟨1, .own, 76, C.map vcV⟩)]) (fun D R => C = D ++ R /\ ∀ q ∈ D, touchAt a b Q q) (fun D R => R.length) [] C ?_ ⟨rfl, by simp⟩ (fun D R hp => ?_)
  · rw [<- hmap]
    refine le_mk ?_ ?_ ?_ ?_
    all_goals repeat' (first | exact trivial | refine And.intro ?_ ?_ | with_reducible rfl | exact (fun h => by cases h) | exact Nat.le_refl _ | omega | exact rfl)
    all_goals (try rw [hmap, List.length_map])
  obtain ⟨hp, hD⟩ := hp
  cases R with
  | nil =>
    have hlen : C.length = D.length := by rw [hp]; simp
    repeat' ((conv=>whnf);first|(exfalso; omega)|refine zg ?_|refine zz (fun _=>?_) fun _=>?_|refine zr ?_)
    all_goals conv=>whnf
    refine ret_boolD (dec_ret (hr.2 fun q hq => ?_))
    rw [hp, List.append_nil] at hq
    exact hD q hq
  | cons q R =>
    have hlen := mid_len hp
    have ha1 := whereS_spec a q ha
    have hb1 := whereS_spec b q hb
    have ha2 := around_spec a q ha ha7
    have hb2 := around_spec b q hb hb7
    have hgg := hg (aroundS a q) (aroundS b q)
    have hT : touchAt a b Q q ↔ (whereS a q = 1 -> whereS b q = 1 -> Q (aroundS a q) (aroundS b q)) := Iff.rfl
    have hqC : q ∈ C := by rw [hp]; simp
    repeat' ((conv=>whnf);first|(exfalso; omega)|refine need_own rfl rfl (by show 0 <= _ /\ _ < ((C.map vcV).length : Int); omega) ?_|refine idx_mid (l := C) (A := D) (x := q) (B := R) hp (by omega) ?_|refine zc ha1 ?_|refine zc hb1 ?_|refine zc ha2 ?_|refine zc hb2 ?_|refine zc hgg ?_|refine zg ?_|refine zi ?_|refine za ?_|refine zn ?_|refine zv ?_|refine zz (fun _=>?_) fun _=>?_|refine zr ?_)
    all_goals conv=>whnf
    all_goals first
      | exact ret_boolD (dec_retf (fun h => absurd ((hr.1 h) q hqC (by assumption) (by assumption)) (by assumption)))
      | skip
    all_goals refine ⟨(D ++ [q], R), ?_, ⟨by rw [hp]; simp, fun z hz => ?_⟩, by simp⟩
    all_goals first
      | (rcases List.mem_append.1 hz with hz | hz
         · exact hD z hz
         · rw [List.mem_singleton.1 hz]
           exact fun h1 h2 => by first | assumption | exact absurd h1 (by assumption) | exact absurd h2 (by assumption))
      | skip
    all_goals simp only [List.length_append, List.length_singleton]
    · exact zj
    · exact zj
    · exact zj
def insideC (c s : Sh) : Prop := ¬ meetingC c s [2] /\ ¬ someC s c 0 /\ ¬ someC c s 2 /\ touchC c s (fun x y => ¬ meetsC y (x.2, x.1))
theorem insF_spec (x y : Sg) : Sp 224 [sgV x, sgV y] (DB (¬ meetsC y (x.2, x.1))) := by
  refine zsp Tryz.func224 ?_
  have h1 := secRest_spec x
  have h2 := meets_spec y (x.2, x.1)
  repeat' ((conv=>whnf);first|refine zc h1 ?_|refine zc h2 ?_|refine zg ?_|refine zi ?_|refine zr ?_)
  all_goals conv=>whnf
  all_goals exact ret_boolD (not_dec decB_f)
theorem insF_ok : SecOk 224 (fun x y => ¬ meetsC y (x.2, x.1)) := fun x y => insF_spec x y
theorem verts_ok {s : Sh} (h : shapeOk s) : (verts s).length <= 80 := by
  unfold verts
  rw [List.length_flatten]
  exact h.2.2.1
theorem ok_holes {s : Sh} (h : shapeOk s) : s.holes.length <= 6 := h.1
theorem ok_sized {s : Sh} (h : shapeOk s) : Sized s := by
  have h1 : ∀ r ∈ rings s, r.length <= 40 := fun r hr => (h.2.1 r hr).2.1
  refine ⟨?_, ?_, fun r hr => ?_⟩
  · have := h1 s.outer (by unfold rings; simp)
    omega
  · have := h.1
    omega
  · have := h1 r (by unfold rings; simp [hr])
    omega
theorem inside_spec (c s : Sh) (hc : shapeOk c) (hs : shapeOk s) : Sp 162 [shV c, shV s] (DB (insideC c s)) := by
  refine zsp Tryz.func162 ?_
  have v1 := verts_ok hc
  have v2 := verts_ok hs
  have m1 := meeting_spec c s [2] (ok_sized hc) (ok_holes hc) (ok_sized hs) (ok_holes hs) (by decide)
  have m2 := someS_spec s c 0 (ok_sized hs) (ok_holes hs) (ok_sized hc) (by omega)
  have m3 := someS_spec c s 2 (ok_sized hc) (ok_holes hc) (ok_sized hs) (by omega)
  have m4 := touch_spec insF_ok c s (ok_sized hc) (ok_holes hc) (ok_sized hs) (ok_holes hs)
  have hr : insideC c s ↔ ¬ meetingC c s [2] /\ ¬ someC s c 0 /\ ¬ someC c s 2 /\ touchC c s (fun x y => ¬ meetsC y (x.2, x.1)) := Iff.rfl
  generalize insideC c s = P at *
  generalize meetingC c s [2] = p1 at *
  generalize someC s c 0 = p2 at *
  generalize someC c s 2 = p3 at *
  generalize touchC c s (fun x y => ¬ meetsC y (x.2, x.1)) = p4 at *
  repeat' ((conv=>whnf);first|refine zc m1 ?_|refine zc m2 ?_|refine zc m3 ?_|refine zc m4 ?_|refine zg ?_|refine zn ?_|refine zz (fun _=>?_) fun _=>?_|refine zr ?_)
  all_goals conv=>whnf
  all_goals first
    | exact ret_boolD (dec_retf (fun h => absurd (by assumption) (hr.1 h).1))
    | exact ret_boolD (dec_retf (fun h => absurd (by assumption) (hr.1 h).2.1))
    | exact ret_boolD (dec_retf (fun h => absurd (by assumption) (hr.1 h).2.2.1))
    | exact ret_boolD (dec_dec ⟨fun h => hr.2 ⟨by assumption, by assumption, by assumption, h⟩, fun h => (hr.1 h).2.2.2⟩)
    | skip
noncomputable def InsideB (c s : Sh) : Prop := shapeOk c /\ shapeOk s /\ insideC c s
noncomputable def InsideE (c s : Sh) : Int := open Classical in if shapeOk c /\ shapeOk s then 0 else 11
theorem Inside_spec (c s : Sh) (hc : Sized c) (hs : Sized s) : Sp 96 [shV c, shV s] (.tup [DB (InsideB c s), I (InsideE c s)]) := by
  refine zsp Tryz.func96 ?_
  have m1 := shapeOk_spec c hc
  have m2 := shapeOk_spec s hs
  by_cases h1 : shapeOk c
  · by_cases h2 : shapeOk s
    · have e1 : DB (InsideB c s) = DB (insideC c s) := congrArg (fun b => V.lit (.bool b)) (dec_dec ⟨fun h => h.2.2, fun h => ⟨h1, h2, h⟩⟩)
      have e2 : InsideE c s = 0 := if_pos ⟨h1, h2⟩
      have m3 := inside_spec c s h1 h2
      rw [e1, e2]
      repeat' ((conv=>whnf);first|(exfalso; contradiction)|refine zc m1 ?_|refine zc m2 ?_|refine zc m3 ?_|refine zg ?_|refine zn ?_|refine zz (fun _=>?_) fun _=>?_|refine zr ?_)
      all_goals conv=>whnf
      all_goals first|exact ret_int rfl|exact ret_bool rfl|exact ret_lit rfl|exact zt|exact zu
    · have e1 : DB (InsideB c s) = .lit (.bool false) := congrArg (fun b => V.lit (.bool b)) (decB_f.2 (fun h => h2 h.2.1))
      have e2 : InsideE c s = 11 := if_neg (fun h => h2 h.2)
      rw [e1, e2]
      repeat' ((conv=>whnf);first|(exfalso; contradiction)|refine zc m1 ?_|refine zc m2 ?_|refine zg ?_|refine zn ?_|refine zz (fun _=>?_) fun _=>?_|refine zr ?_)
      all_goals conv=>whnf
      all_goals first|exact ret_int rfl|exact ret_bool rfl|exact ret_lit rfl|exact zt|exact zu
  · have e1 : DB (InsideB c s) = .lit (.bool false) := congrArg (fun b => V.lit (.bool b)) (decB_f.2 (fun h => h1 h.1))
    have e2 : InsideE c s = 11 := if_neg (fun h => h1 h.1)
    rw [e1, e2]
    repeat' ((conv=>whnf);first|(exfalso; contradiction)|refine zc m1 ?_|refine zg ?_|refine zn ?_|refine zz (fun _=>?_) fun _=>?_|refine zr ?_)
    all_goals conv=>whnf
    all_goals first|exact ret_int rfl|exact ret_bool rfl|exact ret_lit rfl|exact zt|exact zu
end Go.Proofs.Led
