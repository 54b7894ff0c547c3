/-
  The statement on the names of an invoice, walked.
-/
import Derived.Test.YtckcanemolkncaaDoorH26
import Derived.Test.YtckcanemolkncaaDoorH27
set_option linter.unusedVariables false
set_option linter.unusedSimpArgs false
namespace Go.Proofs.Cost58
open Go Go.Proofs Go.Ab
set_option maxRecDepth 100000

theorem lines_len (r r' : Rt) (o : ByteArray) (D : List Pc) : (linesI r o D).length = (linesI r' o D).length := by
  unfold linesI
  rw [List.length_map, List.length_map, (run_rates r r' o D).1]
theorem lines_short (r : Rt) (o : ByteArray) (D : List Pc) (h : D.length ≤ 1000000) : (linesI r o D).length ≤ D.length := by
  unfold linesI
  rw [List.length_map, (sortB_perm _).length_eq]
  exact (names_ok r o D h).len
def rt0 : Rt := ⟨0, 0, 0, 0, 0, 0, 0⟩
def rt1 : Rt := ⟨1, 1, 0, 0, 0, 0, 0⟩
theorem law_names_vc (s : Ls) (o : ByteArray) : fnVC T Tryd.prog Tryd.f7 [lsV s, S o] (.lit (.bool true)) := by
  have hfw := few_spec s
  have hst := state_spec s
  have hin0 := fun ho hs hn => invoice_spec rt0 s o (by intro x hx; simp [Rt.l, rt0] at hx; omega) ho hs hn
  have hin1 := fun ho hs hn => invoice_spec rt1 s o (by intro x hx; simp [Rt.l, rt1] at hx; omega) ho hs hn
  have hz := run_zero rt0 ⟨rfl, rfl⟩ o s.pieces
  have hll := lines_len rt0 rt1 o s.pieces
  have has := lines_asc rt0 o s.pieces
  by_cases hs : fewP s
  rotate_left
  · repeat' ((conv => whnf); first
      | (refine call_i (awake_spec) false ?_ rfl ?_; focus ((repeat' (first | exact trivial | refine And.intro ?_ ?_ | with_reducible rfl | exact (fun h => by cases h) | exact rfl)); done))
      | (refine call_i (hfw) false ?_ rfl ?_; focus ((repeat' (first | exact trivial | refine And.intro ?_ ?_ | with_reducible rfl | exact (fun h => by cases h) | exact rfl)); done))
      | (exfalso; contradiction)
      | refine seq_go ?_
      | refine draw_i (by kernel_rfl) ?_
      | refine arith_half (by omega) ?_
      | refine arith_in (by omega) ?_
      | refine arith_u (by omega) ?_
      | refine need_i (p := (T.row _).eq = true) (by kernel_rfl) ?_
      | refine need_i (by omega) ?_
      | refine br_not ?_
      | refine br_dec (fun hd => ?_) (fun hd => ?_)
      | refine br_lt (fun hlt => ?_) (fun hlt => ?_)
      | refine br_le (fun hle => ?_) (fun hle => ?_)
      | refine br_eq (fun heq => ?_) (fun heq => ?_)
      | refine idx_map (by omega) (fun x hx => ?_)
      | refine live_i rfl (fun h => by cases h) ?_
      | refine branch_s (fun hbb => ?_) (fun hbb => ?_)
      | refine ret_i ?_
      | refine retB_i ?_)
    all_goals (conv => whnf)
    all_goals exact ret_bool rfl
  by_cases ho : isName o
  rotate_left
  · repeat' ((conv => whnf); first
      | (refine call_i (awake_spec) false ?_ rfl ?_; focus ((repeat' (first | exact trivial | refine And.intro ?_ ?_ | with_reducible rfl | exact (fun h => by cases h) | exact rfl)); done))
      | (refine call_i (hfw) false ?_ rfl ?_; focus ((repeat' (first | exact trivial | refine And.intro ?_ ?_ | with_reducible rfl | exact (fun h => by cases h) | exact rfl)); done))
      | (refine call_i (rname_spec o) false ?_ rfl ?_; focus ((repeat' (first | exact trivial | refine And.intro ?_ ?_ | with_reducible rfl | exact (fun h => by cases h) | exact rfl)); done))
      | (exfalso; contradiction)
      | refine seq_go ?_
      | refine draw_i (by kernel_rfl) ?_
      | refine arith_half (by omega) ?_
      | refine arith_in (by omega) ?_
      | refine arith_u (by omega) ?_
      | refine need_i (p := (T.row _).eq = true) (by kernel_rfl) ?_
      | refine need_i (by omega) ?_
      | refine br_not ?_
      | refine br_dec (fun hd => ?_) (fun hd => ?_)
      | refine br_lt (fun hlt => ?_) (fun hlt => ?_)
      | refine br_le (fun hle => ?_) (fun hle => ?_)
      | refine br_eq (fun heq => ?_) (fun heq => ?_)
      | refine idx_map (by omega) (fun x hx => ?_)
      | refine live_i rfl (fun h => by cases h) ?_
      | refine branch_s (fun hbb => ?_) (fun hbb => ?_)
      | refine ret_i ?_
      | refine retB_i ?_)
    all_goals (conv => whnf)
    all_goals exact ret_bool rfl
  have hsh := lines_short rt0 o s.pieces (by have := hs.2; omega)
  replace hst := hst hs
  replace hin0 := hin0 ho hs
  replace hin1 := hin1 ho hs
  generalize linesI rt0 o s.pieces = L at *
  generalize linesI rt1 o s.pieces = L' at *
  generalize (runI rt0 o s.pieces).sum = n0 at *
  generalize (runI rt1 o s.pieces).sum = n1 at *
  obtain ⟨sk, pc, us, r0, r1, s0, s1⟩ := s
  have hs' := hs
  obtain ⟨hs1, hs2⟩ := hs'
  simp only at hs1 hs2 hsh
  have h2 : (pc.map pcV).length = pc.length := by simp
  have hLL : (L.map S).length = L.length := by simp
  have hLL' : (L'.map S).length = L'.length := by simp
  repeat' ((conv => whnf); first
    | (refine call_i (awake_spec) false ?_ rfl ?_; focus ((repeat' (first | exact trivial | refine And.intro ?_ ?_ | with_reducible rfl | exact (fun h => by cases h) | exact rfl)); done))
    | (refine call_i (hfw) false ?_ rfl ?_; focus ((repeat' (first | exact trivial | refine And.intro ?_ ?_ | with_reducible rfl | exact (fun h => by cases h) | exact rfl)); done))
    | (refine call_i (rname_spec o) false ?_ rfl ?_; focus ((repeat' (first | exact trivial | refine And.intro ?_ ?_ | with_reducible rfl | exact (fun h => by cases h) | exact rfl)); done))
    | (exfalso; contradiction)
    | refine seq_go ?_
    | refine draw_i (by kernel_rfl) ?_
    | refine arith_half (by omega) ?_
    | refine arith_in (by omega) ?_
    | refine arith_u (by omega) ?_
    | refine need_i (p := (T.row _).eq = true) (by kernel_rfl) ?_
    | refine need_i (by omega) ?_
    | refine br_not ?_
    | refine br_dec (fun hd => ?_) (fun hd => ?_)
    | refine br_lt (fun hlt => ?_) (fun hlt => ?_)
    | refine br_le (fun hle => ?_) (fun hle => ?_)
    | refine br_eq (fun heq => ?_) (fun heq => ?_)
    | refine idx_map (by omega) (fun x hx => ?_)
    | refine live_i rfl (fun h => by cases h) ?_
    | refine branch_s (fun hbb => ?_) (fun hbb => ?_)
    | refine ret_i ?_
    | refine retB_i ?_)
  refine loop_2 (A := List Pc) (B := List Pc) (fun D R => mkSt [(1, S o), (2, .box 2 0), (28, .sl (pc.map pcV)), (29, I (pc.map pcV).length), (30, I D.length)] [(2, (lsV ⟨sk, pc, us, r0, r1, s0, s1⟩).cells)] [])
    (fun D R => pc = D ++ R ∧ ∀ p ∈ D, isName p.part) (fun D R => R.length) [] pc ?_ ⟨rfl, by simp⟩ (fun D R hp => ?_)
  · refine le_mk ?_ ?_ ?_ ?_
    all_goals repeat' (first | exact trivial | refine And.intro ?_ ?_ | with_reducible rfl | exact (fun h => by cases h) | exact Nat.le_refl _ | omega | exact rfl)
  obtain ⟨hp, hD⟩ := hp
  have hlen : pc.length = D.length + R.length := by rw [hp]; simp
  cases R with
  | cons p R =>
    rw [List.length_cons] at hlen
    repeat' ((conv => whnf); first
      | (exfalso; omega)
      | refine idx_mid (l := pc) (A := D) (x := p) (B := R) hp (by omega) ?_
      | (refine call_i (rname_spec p.part) false ?_ rfl ?_; focus ((repeat' (first | exact trivial | refine And.intro ?_ ?_ | with_reducible rfl | exact (fun h => by cases h) | exact rfl)); done))
      | refine seq_go ?_
      | refine draw_i (by kernel_rfl) ?_
      | refine arith_half (by omega) ?_
      | refine arith_in (by omega) ?_
      | refine arith_u (by omega) ?_
      | refine need_i (p := (T.row _).eq = true) (by kernel_rfl) ?_
      | refine need_i (by omega) ?_
      | refine br_not ?_
      | refine br_dec (fun hd => ?_) (fun hd => ?_)
      | refine br_lt (fun hlt => ?_) (fun hlt => ?_)
      | refine br_le (fun hle => ?_) (fun hle => ?_)
      | refine br_eq (fun heq => ?_) (fun heq => ?_)
      | refine idx_map (by omega) (fun x hx => ?_)
      | refine live_i rfl (fun h => by cases h) ?_
      | refine branch_s (fun hbb => ?_) (fun hbb => ?_)
      | refine ret_i ?_
      | refine retB_i ?_)
    all_goals (conv => whnf)
    · refine ⟨(D ++ [p], R), ?_, ⟨by rw [hp]; simp, fun q hq => ?_⟩, by simp⟩
      · simp only [List.length_append]
        refine le_mk ?_ ?_ ?_ ?_
        all_goals repeat' (first | exact trivial | refine And.intro ?_ ?_ | with_reducible rfl | exact (fun h => by cases h) | exact Nat.le_refl _ | omega | exact rfl)
      · rcases List.mem_append.1 hq with hq | hq
        · exact hD q hq
        · rw [List.mem_singleton.1 hq]; assumption
    · exact ret_bool rfl
  | nil =>
    have e : pc = D := by rw [hp]; simp
    subst e
    have hn : ∀ p ∈ pc, p.part.size ≤ 1000 := fun p hp => by have := (hD p hp).2.1; omega
    have h0 := hin0 hn
    have h1 := hin1 hn
    have hpw := has (by show pc.length ≤ 1000000; omega) hD
    subst hz
    repeat' ((conv => whnf); first
      | (exfalso; omega)
      | (refine call_i (hst) false ?_ rfl ?_; focus ((repeat' (first | exact trivial | refine And.intro ?_ ?_ | with_reducible rfl | exact (fun h => by cases h) | exact rfl)); done))
      | (refine call_i (h0) false ?_ rfl ?_; focus ((repeat' (first | exact trivial | refine And.intro ?_ ?_ | with_reducible rfl | exact (fun h => by cases h) | exact rfl)); done))
      | (refine call_i (h1) false ?_ rfl ?_; focus ((repeat' (first | exact trivial | refine And.intro ?_ ?_ | with_reducible rfl | exact (fun h => by cases h) | exact rfl)); done))
      | refine seq_go ?_
      | refine draw_i (by kernel_rfl) ?_
      | refine arith_half (by omega) ?_
      | refine arith_in (by omega) ?_
      | refine arith_u (by omega) ?_
      | refine need_i (p := (T.row _).eq = true) (by kernel_rfl) ?_
      | refine need_i (by omega) ?_
      | refine br_not ?_
      | refine br_dec (fun hd => ?_) (fun hd => ?_)
      | refine br_lt (fun hlt => ?_) (fun hlt => ?_)
      | refine br_le (fun hle => ?_) (fun hle => ?_)
      | refine br_eq (fun heq => ?_) (fun heq => ?_)
      | refine idx_map (by omega) (fun x hx => ?_)
      | refine live_i rfl (fun h => by cases h) ?_
      | refine branch_s (fun hbb => ?_) (fun hbb => ?_)
      | refine ret_i ?_
      | refine retB_i ?_)
    refine loop_i (A := Nat) (fun k => mkSt [(7, .sl (L.map S)), (13, I ((k : Int) + 1))] [] []) (fun k => k ≤ L.length + 1) (fun k => L.length + 1 - k) 0 ?_ (Nat.zero_le _) (fun k hk => ?_)
    · refine le_mk ?_ ?_ ?_ ?_
      all_goals repeat' (first | exact trivial | refine And.intro ?_ ?_ | with_reducible rfl | exact (fun h => by cases h) | exact Nat.le_refl _ | omega | exact rfl)
    by_cases hkl : k + 1 < L.length
    · have hx1 : (L.map S)[((k : Int) + 1 - 1).toNat]? = some (S L[k]) := by
        have : ((k : Int) + 1 - 1).toNat = k := by omega
        rw [this, List.getElem?_map, List.getElem?_eq_getElem (by omega)]; rfl
      have hx2 : (L.map S)[((k : Int) + 1).toNat]? = some (S L[k + 1]) := by
        have : ((k : Int) + 1).toNat = k + 1 := by omega
        rw [this, List.getElem?_map, List.getElem?_eq_getElem hkl]; rfl
      have hlt2 : ltS L[k] L[k + 1] = true := List.pairwise_iff_getElem.1 hpw k (k + 1) (by omega) hkl (by omega)
      generalize L[k] = x at *
      generalize L[k + 1] = y at *
      repeat' ((conv => whnf); first
        | (exfalso; omega)
        | refine need_len (l := L) (by omega) ?_
        | refine idx_i (S x) hx1 ?_
        | refine idx_i (S y) hx2 ?_
        | refine branch_t hlt2 ?_
        | refine seq_go ?_
        | refine draw_i (by kernel_rfl) ?_
        | refine arith_half (by omega) ?_
        | refine arith_in (by omega) ?_
        | refine arith_u (by omega) ?_
        | refine need_i (p := (T.row _).eq = true) (by kernel_rfl) ?_
        | refine need_i (by omega) ?_
        | refine br_not ?_
        | refine br_dec (fun hd => ?_) (fun hd => ?_)
        | refine br_lt (fun hlt => ?_) (fun hlt => ?_)
        | refine br_le (fun hle => ?_) (fun hle => ?_)
        | refine br_eq (fun heq => ?_) (fun heq => ?_)
        | refine idx_map (by omega) (fun x hx => ?_)
        | refine live_i rfl (fun h => by cases h) ?_
        | refine branch_s (fun hbb => ?_) (fun hbb => ?_)
        | refine ret_i ?_
        | refine retB_i ?_)
      all_goals (conv => whnf)
      refine ⟨k + 1, ?_, by omega, by omega⟩
      refine le_mk ?_ ?_ ?_ ?_
      all_goals repeat' (first | exact trivial | refine And.intro ?_ ?_ | with_reducible rfl | exact (fun h => by cases h) | exact Nat.le_refl _ | omega | exact rfl)
    · repeat' ((conv => whnf); first
        | (exfalso; omega)
        | refine seq_go ?_
        | refine draw_i (by kernel_rfl) ?_
        | refine arith_half (by omega) ?_
        | refine arith_in (by omega) ?_
        | refine arith_u (by omega) ?_
        | refine need_i (p := (T.row _).eq = true) (by kernel_rfl) ?_
        | refine need_i (by omega) ?_
        | refine br_not ?_
        | refine br_dec (fun hd => ?_) (fun hd => ?_)
        | refine br_lt (fun hlt => ?_) (fun hlt => ?_)
        | refine br_le (fun hle => ?_) (fun hle => ?_)
        | refine br_eq (fun heq => ?_) (fun heq => ?_)
        | refine idx_map (by omega) (fun x hx => ?_)
        | refine live_i rfl (fun h => by cases h) ?_
        | refine branch_s (fun hbb => ?_) (fun hbb => ?_)
        | refine ret_i ?_
        | refine retB_i ?_)
      all_goals (conv => whnf)
      all_goals exact ret_bool rfl
theorem law_names_spec (s : Ls) (o : ByteArray) : Sp 7 [lsV s, S o] (.lit (.bool true)) := sp_of Tryd.func7 (by kernel_rfl) (by kernel_rfl) (law_names_vc s o)
end Go.Proofs.Cost58
