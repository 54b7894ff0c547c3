/-
  Labels, walked: which pieces can be labelled, and their labels.
  States of the ledger: few stocks and pieces; a state as the program has it.
-/
import Derived.Test.YtckcanemolkncaaDoorH23
set_option linter.unusedVariables false
set_option linter.unusedSimpArgs false
namespace Go.Proofs.Cost58
open Go Go.Proofs Go.Ab
set_option maxRecDepth 100000

structure Pc where
  id : Int
  par : Int
  part : ByteArray
  grade : ByteArray
  heat : ByteArray
  size : Int
  bar : Bool
  status : Int
  order : ByteArray
def pcV (p : Pc) : V := .agg [I p.id, I p.par, S p.part, S p.grade, S p.heat, I p.size, .lit (.bool p.bar), I p.status, S p.order]
def idOk (n : Int) : Prop := 1 ≤ n ∧ n ≤ 1000000
theorem id_vc (n : Int) : fnVC T Tryd.prog Tryd.f90 [I n] (.lit (.bool (decB (idOk n)))) := by
  repeat' ((conv => whnf); first
    | refine seq_go ?_
    | refine draw_i (by kernel_rfl) ?_
    | refine arith_half (by omega) ?_
    | refine arith_in (by omega) ?_
    | refine arith_u (by omega) ?_
    | refine need_i (p := (T.row _).eq = true) (by kernel_rfl) ?_
    | refine need_i (by omega) ?_
    | refine br_not ?_
    | refine br_dec (fun hd => ?_) (fun hd => ?_)
    | refine br_lt (fun hlt => ?_) (fun hlt => ?_)
    | refine br_le (fun hle => ?_) (fun hle => ?_)
    | refine br_eq (fun heq => ?_) (fun heq => ?_)
    | refine idx_map (by omega) (fun x hx => ?_)
    | refine live_i rfl (fun h => by cases h) ?_
    | refine branch_s (fun hbb => ?_) (fun hbb => ?_)
    | refine ret_i ?_
    | refine retB_i ?_)
  all_goals (conv => whnf)
  all_goals refine ret_boolD ?_
  · refine le_dec ?_
    unfold idOk; omega
  · exact dec_retf (by unfold idOk; omega)
theorem id_spec (n : Int) : Sp 90 [I n] (.lit (.bool (decB (idOk n)))) := sp_of Tryd.func90 (by kernel_rfl) (by kernel_rfl) (id_vc n)

abbrev emptyB : ByteArray := { data := #[] }
def statusOk (p : Pc) : Prop := ((p.status = 1 ∨ p.status = 2) ∧ p.order = emptyB) ∨ (p.status = 3 ∧ isName p.order)
def labelled (p : Pc) : Prop := idOk p.id ∧ idOk p.par ∧ isName p.part ∧ isName p.grade ∧ isName p.heat ∧ (1 ≤ p.size ∧ p.size ≤ 1000000000) ∧ statusOk p
theorem labelled_vc (p : Pc) : fnVC T Tryd.prog Tryd.f59 [pcV p] (.lit (.bool (decB (labelled p)))) := by
  repeat' ((conv => whnf); first
    | (refine call_i (id_spec p.id) false ?_ rfl ?_; focus ((repeat' (first | exact trivial | refine And.intro ?_ ?_ | with_reducible rfl | exact (fun h => by cases h) | exact rfl)); done))
    | (refine call_i (id_spec p.par) false ?_ rfl ?_; focus ((repeat' (first | exact trivial | refine And.intro ?_ ?_ | with_reducible rfl | exact (fun h => by cases h) | exact rfl)); done))
    | (refine call_i (name_spec p.part) false ?_ rfl ?_; focus ((repeat' (first | exact trivial | refine And.intro ?_ ?_ | with_reducible rfl | exact (fun h => by cases h) | exact rfl)); done))
    | (refine call_i (name_spec p.grade) false ?_ rfl ?_; focus ((repeat' (first | exact trivial | refine And.intro ?_ ?_ | with_reducible rfl | exact (fun h => by cases h) | exact rfl)); done))
    | (refine call_i (name_spec p.heat) false ?_ rfl ?_; focus ((repeat' (first | exact trivial | refine And.intro ?_ ?_ | with_reducible rfl | exact (fun h => by cases h) | exact rfl)); done))
    | (refine call_i (name_spec p.order) false ?_ rfl ?_; focus ((repeat' (first | exact trivial | refine And.intro ?_ ?_ | with_reducible rfl | exact (fun h => by cases h) | exact rfl)); done))
    | refine seq_go ?_
    | refine draw_i (by kernel_rfl) ?_
    | refine arith_half (by omega) ?_
    | refine arith_in (by omega) ?_
    | refine arith_u (by omega) ?_
    | refine need_i (p := (T.row _).eq = true) (by kernel_rfl) ?_
    | refine need_i (by omega) ?_
    | refine br_not ?_
    | refine br_dec (fun hd => ?_) (fun hd => ?_)
    | refine br_lt (fun hlt => ?_) (fun hlt => ?_)
    | refine br_le (fun hle => ?_) (fun hle => ?_)
    | refine br_eq (fun heq => ?_) (fun heq => ?_)
    | refine idx_map (by omega) (fun x hx => ?_)
    | refine live_i rfl (fun h => by cases h) ?_
    | refine branch_s (fun hbb => ?_) (fun hbb => ?_)
    | refine ret_i ?_
    | refine retB_i ?_)
  all_goals (conv => whnf)
  all_goals refine ret_boolD ?_
  all_goals first
    | (refine dec_retf ?_; rintro ⟨h1, h2, h3, h4, h5, h6, h7⟩; first | contradiction | omega | (rcases h7 with ⟨h8 | h8, _⟩ | ⟨h8, _⟩ <;> omega); done)
    | (refine eqS_dec ⟨fun h => ⟨by assumption, by assumption, by assumption, by assumption, by assumption, by omega, .inl ⟨by omega, h⟩⟩, fun h => ?_⟩; obtain ⟨_, _, _, _, _, _, h7⟩ := h; rcases h7 with ⟨_, h9⟩ | ⟨h8, _⟩; exact h9; omega)
    | (refine dec_dec ⟨fun h => ⟨by assumption, by assumption, by assumption, by assumption, by assumption, by omega, .inr ⟨by omega, h⟩⟩, fun h => ?_⟩; obtain ⟨_, _, _, _, _, _, h7⟩ := h; rcases h7 with ⟨h8 | h8, _⟩ | ⟨_, h9⟩; omega; omega; exact h9)
    | (exfalso; omega)
theorem labelled_spec (p : Pc) : Sp 59 [pcV p] (.lit (.bool (decB (labelled p)))) := sp_of Tryd.func59 (by kernel_rfl) (by kernel_rfl) (labelled_vc p)

/-- the words of a label -/
def fromB : ByteArray := { data := #[102, 114, 111, 109] }
def areaB : ByteArray := { data := #[97, 114, 101, 97] }
def lengthB : ByteArray := { data := #[108, 101, 110, 103, 116, 104] }
def goodB : ByteArray := { data := #[103, 111, 111, 100] }
def rejectedB : ByteArray := { data := #[114, 101, 106, 101, 99, 116, 101, 100] }
def shippedB : ByteArray := { data := #[115, 104, 105, 112, 112, 101, 100, 32, 116, 111, 32] }
def colonB : ByteArray := { data := #[58] }
def spaceB : ByteArray := { data := #[32] }
def whatB (p : Pc) : ByteArray := match p.bar with | true => lengthB | false => areaB
def statB (p : Pc) : ByteArray := if p.status = 2 then rejectedB else if p.status = 3 then shippedB ++ p.order else goodB
def labelB (p : Pc) : ByteArray := joinB [itoaB p.id, fromB, itoaB p.par ++ colonB, p.part, p.grade, p.heat, whatB p, itoaB p.size, statB p] spaceB
open Classical in
noncomputable def labelR (p : Pc) : ByteArray × Int := if labelled p then (labelB p, 0) else (emptyB, 1)
theorem labelR_ok {p : Pc} (h : labelled p) : labelR p = (labelB p, 0) := by unfold labelR; rw [if_pos h]
theorem labelR_no {p : Pc} (h : ¬ labelled p) : labelR p = (emptyB, 1) := by unfold labelR; rw [if_neg h]
theorem itoaB_size (n : Int) (h0 : -9223372036854775808 ≤ n) (h1 : n ≤ 9223372036854775807) : (itoaB n).size ≤ 21 := by
  have := Lib.itoa_length_le n h0 h1
  show (Lib.itoa n).toArray.size ≤ 21
  simpa using this
theorem cat_size (a b : ByteArray) : (a ++ b).size = a.size + b.size := ByteArray.size_append
theorem data_len (s : ByteArray) : s.data.toList.length = s.size := Array.length_toList
set_option maxRecDepth 1000 in
theorem join_len : ∀ (xs : List (List UInt8)) (n : Nat), (∀ x ∈ xs, x.length ≤ n) → (List.intercalate [32] xs).length ≤ xs.length * (n + 1)
  | [], n, _ => Nat.zero_le _
  | [x], n, h => by
    have := h x (by simp)
    rw [List.intercalate_singleton, List.length_singleton]; omega
  | x :: y :: r, n, h => by
    have ih := join_len (y :: r) n (fun z hz => h z (List.mem_cons_of_mem _ hz))
    have h1 := h x (by simp)
    rw [List.intercalate_cons_cons, List.length_append, List.length_append, List.length_singleton, List.length_cons (a := x), Nat.add_mul]
    omega
theorem label_join (p : Pc) (hl : labelled p) (what st : ByteArray) (hw : what.size ≤ 30) (hst : st.size ≤ 30) : Sp 60 [.sl ([itoaB p.id, fromB, itoaB p.par ++ colonB, p.part, p.grade, p.heat, what, itoaB p.size, st].map S), S spaceB] (S (joinB [itoaB p.id, fromB, itoaB p.par ++ colonB, p.part, p.grade, p.heat, what, itoaB p.size, st] spaceB)) := by
  obtain ⟨h1, h2, h3, h4, h5, h6, h7⟩ := id hl
  have k1 := h1.1; have k2 := h1.2; have k3 := h2.1; have k4 := h2.2
  refine join_spec _ _ (Nat.le_trans (join_len _ 40 ?_) (by simp)) (by simp)
  intro x hx
  have hz1 := itoaB_size p.id (by omega) (by omega)
  have hz2 := itoaB_size p.par (by omega) (by omega)
  have hz3 := itoaB_size p.size (by omega) (by omega)
  have hc : colonB.size = 1 := rfl
  have hf : fromB.size = 4 := rfl
  have q1 := h3.2.1
  have q2 := h4.2.1
  have q3 := h5.2.1
  simp only [List.map_cons, List.map_nil, List.mem_cons, List.not_mem_nil, or_false] at hx
  rcases hx with rfl | rfl | rfl | rfl | rfl | rfl | rfl | rfl | rfl <;> rw [data_len] <;> first | omega | (rw [cat_size]; omega)
set_option maxHeartbeats 400000 in
theorem label_t1 (p : Pc) (hl : labelled p) (hb : p.bar = true) (hst : p.status = 1) : fnVC T Tryd.prog Tryd.f28 [pcV p] (.tup [S (labelB p), I 0]) := by
  obtain ⟨h1, h2, h3, h4, h5, h6, h7⟩ := id hl
  have k1 := h1.1; have k2 := h1.2; have k3 := h2.1; have k4 := h2.2
  have ho : p.order.size ≤ 16 := by
    rcases h7 with ⟨_, h⟩ | ⟨_, h⟩
    · rw [h]; decide
    · exact h.2.1
  have hz2 := itoaB_size p.par (by omega) (by omega)
  have hs11 : shippedB.size = 11 := rfl
  have hlb : labelB p = joinB [itoaB p.id, fromB, itoaB p.par ++ colonB, p.part, p.grade, p.heat, lengthB, itoaB p.size, goodB] spaceB := by
    unfold labelB whatB statB
    rw [hb, hst]; rfl
  have hj := label_join p hl lengthB goodB (by decide) (by decide)
  rw [← hlb] at hj
  repeat' ((conv => whnf); first
    | (refine call_i (labelled_spec p) false ?_ rfl ?_; focus ((repeat' (first | exact trivial | refine And.intro ?_ ?_ | with_reducible rfl | exact (fun h => by cases h) | exact rfl)); done))
    | (exact (hd hl).elim)
    | (exfalso; omega)
    | refine branch_t hb ?_
    | (refine call_i (itoa_spec p.id (by omega) (by omega)) false ?_ rfl ?_; focus ((repeat' (first | exact trivial | refine And.intro ?_ ?_ | with_reducible rfl | exact (fun h => by cases h) | exact rfl)); done))
    | (refine call_i (itoa_spec p.par (by omega) (by omega)) false ?_ rfl ?_; focus ((repeat' (first | exact trivial | refine And.intro ?_ ?_ | with_reducible rfl | exact (fun h => by cases h) | exact rfl)); done))
    | (refine call_i (itoa_spec p.size (by omega) (by omega)) false ?_ rfl ?_; focus ((repeat' (first | exact trivial | refine And.intro ?_ ?_ | with_reducible rfl | exact (fun h => by cases h) | exact rfl)); done))
    | refine need_i (show (itoaB p.par).size + colonB.size ≤ 9223372036854775807 by have : colonB.size = 1 := rfl; omega) ?_
    | refine need_i (show shippedB.size + p.order.size ≤ 9223372036854775807 by omega) ?_
    | (refine call_i (hj) true ?_ rfl ?_; focus ((repeat' (first | exact trivial | refine And.intro ?_ ?_ | with_reducible rfl | exact (fun h => by cases h) | exact rfl)); done))
    | refine seq_go ?_
    | refine draw_i (by kernel_rfl) ?_
    | refine arith_half (by omega) ?_
    | refine arith_in (by omega) ?_
    | refine arith_u (by omega) ?_
    | refine need_i (p := (T.row _).eq = true) (by kernel_rfl) ?_
    | refine need_i (by omega) ?_
    | refine br_not ?_
    | refine br_dec (fun hd => ?_) (fun hd => ?_)
    | refine br_lt (fun hlt => ?_) (fun hlt => ?_)
    | refine br_le (fun hle => ?_) (fun hle => ?_)
    | refine br_eq (fun heq => ?_) (fun heq => ?_)
    | refine idx_map (by omega) (fun x hx => ?_)
    | refine live_i rfl (fun h => by cases h) ?_
    | refine branch_s (fun hbb => ?_) (fun hbb => ?_)
    | refine ret_i ?_
    | refine retB_i ?_)
  conv => whnf
  exact ret_two rfl rfl rfl
set_option maxHeartbeats 400000 in
theorem label_t2 (p : Pc) (hl : labelled p) (hb : p.bar = true) (hst : p.status = 2) : fnVC T Tryd.prog Tryd.f28 [pcV p] (.tup [S (labelB p), I 0]) := by
  obtain ⟨h1, h2, h3, h4, h5, h6, h7⟩ := id hl
  have k1 := h1.1; have k2 := h1.2; have k3 := h2.1; have k4 := h2.2
  have ho : p.order.size ≤ 16 := by
    rcases h7 with ⟨_, h⟩ | ⟨_, h⟩
    · rw [h]; decide
    · exact h.2.1
  have hz2 := itoaB_size p.par (by omega) (by omega)
  have hs11 : shippedB.size = 11 := rfl
  have hlb : labelB p = joinB [itoaB p.id, fromB, itoaB p.par ++ colonB, p.part, p.grade, p.heat, lengthB, itoaB p.size, rejectedB] spaceB := by
    unfold labelB whatB statB
    rw [hb, hst]; rfl
  have hj := label_join p hl lengthB rejectedB (by decide) (by decide)
  rw [← hlb] at hj
  repeat' ((conv => whnf); first
    | (refine call_i (labelled_spec p) false ?_ rfl ?_; focus ((repeat' (first | exact trivial | refine And.intro ?_ ?_ | with_reducible rfl | exact (fun h => by cases h) | exact rfl)); done))
    | (exact (hd hl).elim)
    | (exfalso; omega)
    | refine branch_t hb ?_
    | (refine call_i (itoa_spec p.id (by omega) (by omega)) false ?_ rfl ?_; focus ((repeat' (first | exact trivial | refine And.intro ?_ ?_ | with_reducible rfl | exact (fun h => by cases h) | exact rfl)); done))
    | (refine call_i (itoa_spec p.par (by omega) (by omega)) false ?_ rfl ?_; focus ((repeat' (first | exact trivial | refine And.intro ?_ ?_ | with_reducible rfl | exact (fun h => by cases h) | exact rfl)); done))
    | (refine call_i (itoa_spec p.size (by omega) (by omega)) false ?_ rfl ?_; focus ((repeat' (first | exact trivial | refine And.intro ?_ ?_ | with_reducible rfl | exact (fun h => by cases h) | exact rfl)); done))
    | refine need_i (show (itoaB p.par).size + colonB.size ≤ 9223372036854775807 by have : colonB.size = 1 := rfl; omega) ?_
    | refine need_i (show shippedB.size + p.order.size ≤ 9223372036854775807 by omega) ?_
    | (refine call_i (hj) true ?_ rfl ?_; focus ((repeat' (first | exact trivial | refine And.intro ?_ ?_ | with_reducible rfl | exact (fun h => by cases h) | exact rfl)); done))
    | refine seq_go ?_
    | refine draw_i (by kernel_rfl) ?_
    | refine arith_half (by omega) ?_
    | refine arith_in (by omega) ?_
    | refine arith_u (by omega) ?_
    | refine need_i (p := (T.row _).eq = true) (by kernel_rfl) ?_
    | refine need_i (by omega) ?_
    | refine br_not ?_
    | refine br_dec (fun hd => ?_) (fun hd => ?_)
    | refine br_lt (fun hlt => ?_) (fun hlt => ?_)
    | refine br_le (fun hle => ?_) (fun hle => ?_)
    | refine br_eq (fun heq => ?_) (fun heq => ?_)
    | refine idx_map (by omega) (fun x hx => ?_)
    | refine live_i rfl (fun h => by cases h) ?_
    | refine branch_s (fun hbb => ?_) (fun hbb => ?_)
    | refine ret_i ?_
    | refine retB_i ?_)
  conv => whnf
  exact ret_two rfl rfl rfl
set_option maxHeartbeats 400000 in
theorem label_t3 (p : Pc) (hl : labelled p) (hb : p.bar = true) (hst : p.status = 3) : fnVC T Tryd.prog Tryd.f28 [pcV p] (.tup [S (labelB p), I 0]) := by
  obtain ⟨h1, h2, h3, h4, h5, h6, h7⟩ := id hl
  have k1 := h1.1; have k2 := h1.2; have k3 := h2.1; have k4 := h2.2
  have ho : p.order.size ≤ 16 := by
    rcases h7 with ⟨_, h⟩ | ⟨_, h⟩
    · rw [h]; decide
    · exact h.2.1
  have hz2 := itoaB_size p.par (by omega) (by omega)
  have hs11 : shippedB.size = 11 := rfl
  have hlb : labelB p = joinB [itoaB p.id, fromB, itoaB p.par ++ colonB, p.part, p.grade, p.heat, lengthB, itoaB p.size, (shippedB ++ p.order)] spaceB := by
    unfold labelB whatB statB
    rw [hb, hst]; rfl
  have hj := label_join p hl lengthB (shippedB ++ p.order) (by decide) (by rw [cat_size]; omega)
  rw [← hlb] at hj
  repeat' ((conv => whnf); first
    | (refine call_i (labelled_spec p) false ?_ rfl ?_; focus ((repeat' (first | exact trivial | refine And.intro ?_ ?_ | with_reducible rfl | exact (fun h => by cases h) | exact rfl)); done))
    | (exact (hd hl).elim)
    | (exfalso; omega)
    | refine branch_t hb ?_
    | (refine call_i (itoa_spec p.id (by omega) (by omega)) false ?_ rfl ?_; focus ((repeat' (first | exact trivial | refine And.intro ?_ ?_ | with_reducible rfl | exact (fun h => by cases h) | exact rfl)); done))
    | (refine call_i (itoa_spec p.par (by omega) (by omega)) false ?_ rfl ?_; focus ((repeat' (first | exact trivial | refine And.intro ?_ ?_ | with_reducible rfl | exact (fun h => by cases h) | exact rfl)); done))
    | (refine call_i (itoa_spec p.size (by omega) (by omega)) false ?_ rfl ?_; focus ((repeat' (first | exact trivial | refine And.intro ?_ ?_ | with_reducible rfl | exact (fun h => by cases h) | exact rfl)); done))
    | refine need_i (show (itoaB p.par).size + colonB.size ≤ 9223372036854775807 by have : colonB.size = 1 := rfl; omega) ?_
    | refine need_i (show shippedB.size + p.order.size ≤ 9223372036854775807 by omega) ?_
    | (refine call_i (hj) true ?_ rfl ?_; focus ((repeat' (first | exact trivial | refine And.intro ?_ ?_ | with_reducible rfl | exact (fun h => by cases h) | exact rfl)); done))
    | refine seq_go ?_
    | refine draw_i (by kernel_rfl) ?_
    | refine arith_half (by omega) ?_
    | refine arith_in (by omega) ?_
    | refine arith_u (by omega) ?_
    | refine need_i (p := (T.row _).eq = true) (by kernel_rfl) ?_
    | refine need_i (by omega) ?_
    | refine br_not ?_
    | refine br_dec (fun hd => ?_) (fun hd => ?_)
    | refine br_lt (fun hlt => ?_) (fun hlt => ?_)
    | refine br_le (fun hle => ?_) (fun hle => ?_)
    | refine br_eq (fun heq => ?_) (fun heq => ?_)
    | refine idx_map (by omega) (fun x hx => ?_)
    | refine live_i rfl (fun h => by cases h) ?_
    | refine branch_s (fun hbb => ?_) (fun hbb => ?_)
    | refine ret_i ?_
    | refine retB_i ?_)
  conv => whnf
  exact ret_two rfl rfl rfl
set_option maxHeartbeats 400000 in
theorem label_f1 (p : Pc) (hl : labelled p) (hb : p.bar = false) (hst : p.status = 1) : fnVC T Tryd.prog Tryd.f28 [pcV p] (.tup [S (labelB p), I 0]) := by
  obtain ⟨h1, h2, h3, h4, h5, h6, h7⟩ := id hl
  have k1 := h1.1; have k2 := h1.2; have k3 := h2.1; have k4 := h2.2
  have ho : p.order.size ≤ 16 := by
    rcases h7 with ⟨_, h⟩ | ⟨_, h⟩
    · rw [h]; decide
    · exact h.2.1
  have hz2 := itoaB_size p.par (by omega) (by omega)
  have hs11 : shippedB.size = 11 := rfl
  have hlb : labelB p = joinB [itoaB p.id, fromB, itoaB p.par ++ colonB, p.part, p.grade, p.heat, areaB, itoaB p.size, goodB] spaceB := by
    unfold labelB whatB statB
    rw [hb, hst]; rfl
  have hj := label_join p hl areaB goodB (by decide) (by decide)
  rw [← hlb] at hj
  repeat' ((conv => whnf); first
    | (refine call_i (labelled_spec p) false ?_ rfl ?_; focus ((repeat' (first | exact trivial | refine And.intro ?_ ?_ | with_reducible rfl | exact (fun h => by cases h) | exact rfl)); done))
    | (exact (hd hl).elim)
    | (exfalso; omega)
    | refine branch_f hb ?_
    | (refine call_i (itoa_spec p.id (by omega) (by omega)) false ?_ rfl ?_; focus ((repeat' (first | exact trivial | refine And.intro ?_ ?_ | with_reducible rfl | exact (fun h => by cases h) | exact rfl)); done))
    | (refine call_i (itoa_spec p.par (by omega) (by omega)) false ?_ rfl ?_; focus ((repeat' (first | exact trivial | refine And.intro ?_ ?_ | with_reducible rfl | exact (fun h => by cases h) | exact rfl)); done))
    | (refine call_i (itoa_spec p.size (by omega) (by omega)) false ?_ rfl ?_; focus ((repeat' (first | exact trivial | refine And.intro ?_ ?_ | with_reducible rfl | exact (fun h => by cases h) | exact rfl)); done))
    | refine need_i (show (itoaB p.par).size + colonB.size ≤ 9223372036854775807 by have : colonB.size = 1 := rfl; omega) ?_
    | refine need_i (show shippedB.size + p.order.size ≤ 9223372036854775807 by omega) ?_
    | (refine call_i (hj) true ?_ rfl ?_; focus ((repeat' (first | exact trivial | refine And.intro ?_ ?_ | with_reducible rfl | exact (fun h => by cases h) | exact rfl)); done))
    | refine seq_go ?_
    | refine draw_i (by kernel_rfl) ?_
    | refine arith_half (by omega) ?_
    | refine arith_in (by omega) ?_
    | refine arith_u (by omega) ?_
    | refine need_i (p := (T.row _).eq = true) (by kernel_rfl) ?_
    | refine need_i (by omega) ?_
    | refine br_not ?_
    | refine br_dec (fun hd => ?_) (fun hd => ?_)
    | refine br_lt (fun hlt => ?_) (fun hlt => ?_)
    | refine br_le (fun hle => ?_) (fun hle => ?_)
    | refine br_eq (fun heq => ?_) (fun heq => ?_)
    | refine idx_map (by omega) (fun x hx => ?_)
    | refine live_i rfl (fun h => by cases h) ?_
    | refine branch_s (fun hbb => ?_) (fun hbb => ?_)
    | refine ret_i ?_
    | refine retB_i ?_)
  conv => whnf
  exact ret_two rfl rfl rfl
set_option maxHeartbeats 400000 in
theorem label_f2 (p : Pc) (hl : labelled p) (hb : p.bar = false) (hst : p.status = 2) : fnVC T Tryd.prog Tryd.f28 [pcV p] (.tup [S (labelB p), I 0]) := by
  obtain ⟨h1, h2, h3, h4, h5, h6, h7⟩ := id hl
  have k1 := h1.1; have k2 := h1.2; have k3 := h2.1; have k4 := h2.2
  have ho : p.order.size ≤ 16 := by
    rcases h7 with ⟨_, h⟩ | ⟨_, h⟩
    · rw [h]; decide
    · exact h.2.1
  have hz2 := itoaB_size p.par (by omega) (by omega)
  have hs11 : shippedB.size = 11 := rfl
  have hlb : labelB p = joinB [itoaB p.id, fromB, itoaB p.par ++ colonB, p.part, p.grade, p.heat, areaB, itoaB p.size, rejectedB] spaceB := by
    unfold labelB whatB statB
    rw [hb, hst]; rfl
  have hj := label_join p hl areaB rejectedB (by decide) (by decide)
  rw [← hlb] at hj
  repeat' ((conv => whnf); first
    | (refine call_i (labelled_spec p) false ?_ rfl ?_; focus ((repeat' (first | exact trivial | refine And.intro ?_ ?_ | with_reducible rfl | exact (fun h => by cases h) | exact rfl)); done))
    | (exact (hd hl).elim)
    | (exfalso; omega)
    | refine branch_f hb ?_
    | (refine call_i (itoa_spec p.id (by omega) (by omega)) false ?_ rfl ?_; focus ((repeat' (first | exact trivial | refine And.intro ?_ ?_ | with_reducible rfl | exact (fun h => by cases h) | exact rfl)); done))
    | (refine call_i (itoa_spec p.par (by omega) (by omega)) false ?_ rfl ?_; focus ((repeat' (first | exact trivial | refine And.intro ?_ ?_ | with_reducible rfl | exact (fun h => by cases h) | exact rfl)); done))
    | (refine call_i (itoa_spec p.size (by omega) (by omega)) false ?_ rfl ?_; focus ((repeat' (first | exact trivial | refine And.intro ?_ ?_ | with_reducible rfl | exact (fun h => by cases h) | exact rfl)); done))
    | refine need_i (show (itoaB p.par).size + colonB.size ≤ 9223372036854775807 by have : colonB.size = 1 := rfl; omega) ?_
    | refine need_i (show shippedB.size + p.order.size ≤ 9223372036854775807 by omega) ?_
    | (refine call_i (hj) true ?_ rfl ?_; focus ((repeat' (first | exact trivial | refine And.intro ?_ ?_ | with_reducible rfl | exact (fun h => by cases h) | exact rfl)); done))
    | refine seq_go ?_
    | refine draw_i (by kernel_rfl) ?_
    | refine arith_half (by omega) ?_
    | refine arith_in (by omega) ?_
    | refine arith_u (by omega) ?_
    | refine need_i (p := (T.row _).eq = true) (by kernel_rfl) ?_
    | refine need_i (by omega) ?_
    | refine br_not ?_
    | refine br_dec (fun hd => ?_) (fun hd => ?_)
    | refine br_lt (fun hlt => ?_) (fun hlt => ?_)
    | refine br_le (fun hle => ?_) (fun hle => ?_)
    | refine br_eq (fun heq => ?_) (fun heq => ?_)
    | refine idx_map (by omega) (fun x hx => ?_)
    | refine live_i rfl (fun h => by cases h) ?_
    | refine branch_s (fun hbb => ?_) (fun hbb => ?_)
    | refine ret_i ?_
    | refine retB_i ?_)
  conv => whnf
  exact ret_two rfl rfl rfl
set_option maxHeartbeats 400000 in
theorem label_f3 (p : Pc) (hl : labelled p) (hb : p.bar = false) (hst : p.status = 3) : fnVC T Tryd.prog Tryd.f28 [pcV p] (.tup [S (labelB p), I 0]) := by
  obtain ⟨h1, h2, h3, h4, h5, h6, h7⟩ := id hl
  have k1 := h1.1; have k2 := h1.2; have k3 := h2.1; have k4 := h2.2
  have ho : p.order.size ≤ 16 := by
    rcases h7 with ⟨_, h⟩ | ⟨_, h⟩
    · rw [h]; decide
    · exact h.2.1
  have hz2 := itoaB_size p.par (by omega) (by omega)
  have hs11 : shippedB.size = 11 := rfl
  have hlb : labelB p = joinB [itoaB p.id, fromB, itoaB p.par ++ colonB, p.part, p.grade, p.heat, areaB, itoaB p.size, (shippedB ++ p.order)] spaceB := by
    unfold labelB whatB statB
    rw [hb, hst]; rfl
  have hj := label_join p hl areaB (shippedB ++ p.order) (by decide) (by rw [cat_size]; omega)
  rw [← hlb] at hj
  repeat' ((conv => whnf); first
    | (refine call_i (labelled_spec p) false ?_ rfl ?_; focus ((repeat' (first | exact trivial | refine And.intro ?_ ?_ | with_reducible rfl | exact (fun h => by cases h) | exact rfl)); done))
    | (exact (hd hl).elim)
    | (exfalso; omega)
    | refine branch_f hb ?_
    | (refine call_i (itoa_spec p.id (by omega) (by omega)) false ?_ rfl ?_; focus ((repeat' (first | exact trivial | refine And.intro ?_ ?_ | with_reducible rfl | exact (fun h => by cases h) | exact rfl)); done))
    | (refine call_i (itoa_spec p.par (by omega) (by omega)) false ?_ rfl ?_; focus ((repeat' (first | exact trivial | refine And.intro ?_ ?_ | with_reducible rfl | exact (fun h => by cases h) | exact rfl)); done))
    | (refine call_i (itoa_spec p.size (by omega) (by omega)) false ?_ rfl ?_; focus ((repeat' (first | exact trivial | refine And.intro ?_ ?_ | with_reducible rfl | exact (fun h => by cases h) | exact rfl)); done))
    | refine need_i (show (itoaB p.par).size + colonB.size ≤ 9223372036854775807 by have : colonB.size = 1 := rfl; omega) ?_
    | refine need_i (show shippedB.size + p.order.size ≤ 9223372036854775807 by omega) ?_
    | (refine call_i (hj) true ?_ rfl ?_; focus ((repeat' (first | exact trivial | refine And.intro ?_ ?_ | with_reducible rfl | exact (fun h => by cases h) | exact rfl)); done))
    | refine seq_go ?_
    | refine draw_i (by kernel_rfl) ?_
    | refine arith_half (by omega) ?_
    | refine arith_in (by omega) ?_
    | refine arith_u (by omega) ?_
    | refine need_i (p := (T.row _).eq = true) (by kernel_rfl) ?_
    | refine need_i (by omega) ?_
    | refine br_not ?_
    | refine br_dec (fun hd => ?_) (fun hd => ?_)
    | refine br_lt (fun hlt => ?_) (fun hlt => ?_)
    | refine br_le (fun hle => ?_) (fun hle => ?_)
    | refine br_eq (fun heq => ?_) (fun heq => ?_)
    | refine idx_map (by omega) (fun x hx => ?_)
    | refine live_i rfl (fun h => by cases h) ?_
    | refine branch_s (fun hbb => ?_) (fun hbb => ?_)
    | refine ret_i ?_
    | refine retB_i ?_)
  conv => whnf
  exact ret_two rfl rfl rfl
theorem label_vc (p : Pc) : fnVC T Tryd.prog Tryd.f28 [pcV p] (.tup [S (labelR p).1, I (labelR p).2]) := by
  by_cases hl : labelled p
  · rw [labelR_ok hl]
    have hst : p.status = 1 ∨ p.status = 2 ∨ p.status = 3 := by
      rcases hl.2.2.2.2.2.2 with ⟨h, _⟩ | ⟨h, _⟩ <;> omega
    cases hb : p.bar <;> rcases hst with hst | hst | hst
    · exact label_f1 p hl hb hst
    · exact label_f2 p hl hb hst
    · exact label_f3 p hl hb hst
    · exact label_t1 p hl hb hst
    · exact label_t2 p hl hb hst
    · exact label_t3 p hl hb hst
  · rw [labelR_no hl]
    repeat' ((conv => whnf); first
      | (refine call_i (labelled_spec p) false ?_ rfl ?_; focus ((repeat' (first | exact trivial | refine And.intro ?_ ?_ | with_reducible rfl | exact (fun h => by cases h) | exact rfl)); done))
      | (exact (hl hd).elim)
      | refine seq_go ?_
      | refine draw_i (by kernel_rfl) ?_
      | refine arith_half (by omega) ?_
      | refine arith_in (by omega) ?_
      | refine arith_u (by omega) ?_
      | refine need_i (p := (T.row _).eq = true) (by kernel_rfl) ?_
      | refine need_i (by omega) ?_
      | refine br_not ?_
      | refine br_dec (fun hd => ?_) (fun hd => ?_)
      | refine br_lt (fun hlt => ?_) (fun hlt => ?_)
      | refine br_le (fun hle => ?_) (fun hle => ?_)
      | refine br_eq (fun heq => ?_) (fun heq => ?_)
      | refine idx_map (by omega) (fun x hx => ?_)
      | refine live_i rfl (fun h => by cases h) ?_
      | refine branch_s (fun hbb => ?_) (fun hbb => ?_)
      | refine ret_i ?_
      | refine retB_i ?_)
    conv => whnf
    exact ret_two rfl rfl rfl
theorem label_spec (p : Pc) : Sp 28 [pcV p] (.tup [S (labelR p).1, I (labelR p).2]) := sp_of Tryd.func28 (by kernel_rfl) (by kernel_rfl) (label_vc p)
end Go.Proofs.Cost58
namespace Go.Proofs.Cost58
open Go Go.Proofs Go.Ab
set_option maxRecDepth 100000

theorem mapget_i {es : List V} {s : ByteArray} {z : V} {K : V → Prop} {v : V} (h : (assocV s es).getD z = v) (k : K v) : MapVC es s z K := ⟨by rw [h]; exact k⟩

/-- a stock -/
structure Sk where
  bar : Bool
  id : Int
  grade : ByteArray
  heat : ByteArray
  grain : Int
  ring : List V
  rings : List V
  defs : List V
  bid : Int
  bgrade : ByteArray
  bheat : ByteArray
  blen : Int
  bdefs : List V
  prog : ByteArray
def skV (x : Sk) : V := .agg [.lit (.bool x.bar), I x.id, S x.grade, S x.heat, I x.grain, .sl x.ring, .sl x.rings, .sl x.defs, I x.bid, S x.bgrade, S x.bheat, I x.blen, .sl x.bdefs, S x.prog]
/-- a state -/
structure Ls where
  stocks : List Sk
  pieces : List Pc
  used : List V
  r0 : Int
  r1 : Int
  s0 : Int
  s1 : Int
def lsV (s : Ls) : V := .agg [.sl (s.stocks.map skV), .sl (s.pieces.map pcV), .sl s.used, I s.r0, I s.r1, I s.s0, I s.s1]
def fewP (s : Ls) : Prop := s.stocks.length ≤ 20 ∧ s.pieces.length ≤ 40
theorem few_vc (s : Ls) : fnVC T Tryd.prog Tryd.f24 [lsV s] (.lit (.bool (decB (fewP s)))) := by
  have h1 : (s.stocks.map skV).length = s.stocks.length := by simp
  have h2 : (s.pieces.map pcV).length = s.pieces.length := by simp
  repeat' ((conv => whnf); first
    | refine seq_go ?_
    | refine draw_i (by kernel_rfl) ?_
    | refine arith_half (by omega) ?_
    | refine arith_in (by omega) ?_
    | refine arith_u (by omega) ?_
    | refine need_i (p := (T.row _).eq = true) (by kernel_rfl) ?_
    | refine need_i (by omega) ?_
    | refine br_not ?_
    | refine br_dec (fun hd => ?_) (fun hd => ?_)
    | refine br_lt (fun hlt => ?_) (fun hlt => ?_)
    | refine br_le (fun hle => ?_) (fun hle => ?_)
    | refine br_eq (fun heq => ?_) (fun heq => ?_)
    | refine idx_map (by omega) (fun x hx => ?_)
    | refine live_i rfl (fun h => by cases h) ?_
    | refine branch_s (fun hbb => ?_) (fun hbb => ?_)
    | refine ret_i ?_
    | refine retB_i ?_)
  all_goals (conv => whnf)
  · refine ret_boolD (le_dec ?_)
    unfold fewP; omega
  · refine ret_boolD (Eq.symm (decB_f.2 ?_))
    unfold fewP; omega
theorem few_spec (s : Ls) : Sp 24 [lsV s] (.lit (.bool (decB (fewP s)))) := sp_of Tryd.func24 (by kernel_rfl) (by kernel_rfl) (few_vc s)
theorem state_vc (s : Ls) (hs : fewP s) : fnVC T Tryd.prog Tryd.f27 [lsV s] (lsV s) := by
  obtain ⟨sk, pc, us, r0, r1, s0, s1⟩ := s
  obtain ⟨hs1, hs2⟩ := hs
  simp only at hs1 hs2
  have h1 : (sk.map skV).length = sk.length := by simp
  have h2 : (pc.map pcV).length = pc.length := by simp
  repeat' ((conv => whnf); first
    | refine seq_go ?_
    | refine draw_i (by kernel_rfl) ?_
    | refine arith_half (by omega) ?_
    | refine arith_in (by omega) ?_
    | refine arith_u (by omega) ?_
    | refine need_i (p := (T.row _).eq = true) (by kernel_rfl) ?_
    | refine need_i (by omega) ?_
    | refine br_not ?_
    | refine br_dec (fun hd => ?_) (fun hd => ?_)
    | refine br_lt (fun hlt => ?_) (fun hlt => ?_)
    | refine br_le (fun hle => ?_) (fun hle => ?_)
    | refine br_eq (fun heq => ?_) (fun heq => ?_)
    | refine idx_map (by omega) (fun x hx => ?_)
    | refine live_i rfl (fun h => by cases h) ?_
    | refine branch_s (fun hbb => ?_) (fun hbb => ?_)
    | refine ret_i ?_
    | refine retB_i ?_)
  refine loop_2 (A := List Sk) (B := List Sk) (fun D R => mkSt [(1, .box 1 0), (2, .box 2 0), (3, .box 3 0), (16, .sl (sk.map skV)), (17, I (sk.map skV).length), (18, I D.length)]
      [(1, [.sl (sk.map skV), .sl (pc.map pcV), .sl us, I r0, I r1, I s0, I s1]), (2, [.lit (.slice none 0 0), .lit (.slice none 0 0), .lit (.slice none 0 0), I 0, I 0, I 0, I 0]), (3, [.arr 26 D.length, .lit (.slice none 0 0), .sl us, I r0, I r1, I s0, I s1])]
      [(26, ⟨D.length, .own, 139, D.map skV⟩)])
    (fun D R => sk = D ++ R) (fun D R => R.length) [] sk ?_ rfl (fun D R hp => ?_)
  · refine le_mk ?_ ?_ ?_ ?_
    all_goals repeat' (first | exact trivial | refine And.intro ?_ ?_ | with_reducible rfl | exact Nat.le_refl _ | omega | exact rfl)
  · have e1 : sk = D ++ R := hp
    have hlen : sk.length = D.length + R.length := by rw [e1]; simp
    cases R with
    | nil =>
      have e : D = sk := by rw [e1]; simp
      subst e
      repeat' ((conv => whnf); first
        | (exfalso; omega)
        | refine seq_go ?_
        | refine draw_i (by kernel_rfl) ?_
        | refine arith_half (by omega) ?_
        | refine arith_in (by omega) ?_
        | refine arith_u (by omega) ?_
        | refine need_i (p := (T.row _).eq = true) (by kernel_rfl) ?_
        | refine need_i (by omega) ?_
        | refine br_not ?_
        | refine br_dec (fun hd => ?_) (fun hd => ?_)
        | refine br_lt (fun hlt => ?_) (fun hlt => ?_)
        | refine br_le (fun hle => ?_) (fun hle => ?_)
        | refine br_eq (fun heq => ?_) (fun heq => ?_)
        | refine idx_map (by omega) (fun x hx => ?_)
        | refine live_i rfl (fun h => by cases h) ?_
        | refine branch_s (fun hbb => ?_) (fun hbb => ?_)
        | refine ret_i ?_
        | refine retB_i ?_)
      refine loop_2 (A := List Pc) (B := List Pc) (fun D2 R2 => mkSt [(1, .box 1 0), (2, .box 2 0), (3, .box 3 0), (30, .sl (pc.map pcV)), (31, I (pc.map pcV).length), (32, I D2.length)]
      [(1, [.sl (D.map skV), .sl (pc.map pcV), .sl us, I r0, I r1, I s0, I s1]), (2, [.lit (.slice none 0 0), .lit (.slice none 0 0), .lit (.slice none 0 0), I 0, I 0, I 0, I 0]), (3, [.arr 26 D.length, .arr 40 D2.length, .sl us, I r0, I r1, I s0, I s1])]
      [(26, ⟨D.length, .own, 139, D.map skV⟩), (40, ⟨D2.length, .own, 90, D2.map pcV⟩)])
        (fun D2 R2 => pc = D2 ++ R2) (fun D2 R2 => R2.length) [] pc ?_ rfl (fun D2 R2 hp2 => ?_)
      · refine le_mk ?_ ?_ ?_ ?_
        all_goals repeat' (first | exact trivial | refine And.intro ?_ ?_ | with_reducible rfl | exact Nat.le_refl _ | omega | exact rfl)
      · have e2 : pc = D2 ++ R2 := hp2
        have hlen2 : pc.length = D2.length + R2.length := by rw [e2]; simp
        cases R2 with
        | nil =>
          have e : D2 = pc := by rw [e2]; simp
          subst e
          repeat' ((conv => whnf); first
            | (exfalso; omega)
            | refine seq_go ?_
            | refine draw_i (by kernel_rfl) ?_
            | refine arith_half (by omega) ?_
            | refine arith_in (by omega) ?_
            | refine arith_u (by omega) ?_
            | refine need_i (p := (T.row _).eq = true) (by kernel_rfl) ?_
            | refine need_i (by omega) ?_
            | refine br_not ?_
            | refine br_dec (fun hd => ?_) (fun hd => ?_)
            | refine br_lt (fun hlt => ?_) (fun hlt => ?_)
            | refine br_le (fun hle => ?_) (fun hle => ?_)
            | refine br_eq (fun heq => ?_) (fun heq => ?_)
            | refine idx_map (by omega) (fun x hx => ?_)
            | refine live_i rfl (fun h => by cases h) ?_
            | refine branch_s (fun hbb => ?_) (fun hbb => ?_)
            | refine ret_i ?_
            | refine retB_i ?_)
          all_goals (conv => whnf)
          refine ⟨?_, rfl, fun rs h => by unfold lsV at h; cases h⟩
          (repeat' (first | exact trivial | refine And.intro ?_ ?_ | with_reducible rfl | exact (fun h => by cases h) | exact rfl))
        | cons x R2 =>
          rw [List.length_cons] at hlen2
          repeat' ((conv => whnf); first
            | (exfalso; omega)
            | refine idx_mid (l := pc) (A := D2) (x := x) (B := R2) e2 (by omega) ?_
            | refine need_app rfl (.inl rfl) rfl (of_decide_eq_true rfl) (one_cells rfl) (by show (List.map pcV D2).length + 1 ≤ _; rw [List.length_map]; omega) ?_
            | refine seq_go ?_
            | refine draw_i (by kernel_rfl) ?_
            | refine arith_half (by omega) ?_
            | refine arith_in (by omega) ?_
            | refine arith_u (by omega) ?_
            | refine need_i (p := (T.row _).eq = true) (by kernel_rfl) ?_
            | refine need_i (by omega) ?_
            | refine br_not ?_
            | refine br_dec (fun hd => ?_) (fun hd => ?_)
            | refine br_lt (fun hlt => ?_) (fun hlt => ?_)
            | refine br_le (fun hle => ?_) (fun hle => ?_)
            | refine br_eq (fun heq => ?_) (fun heq => ?_)
            | refine idx_map (by omega) (fun x hx => ?_)
            | refine live_i rfl (fun h => by cases h) ?_
            | refine branch_s (fun hbb => ?_) (fun hbb => ?_)
            | refine ret_i ?_
            | refine retB_i ?_)
          refine ⟨(D2 ++ [x], R2), ?_, by rw [e2]; simp, by simp⟩
          show Le T _ (mkSt [(1, .box 1 0), (2, .box 2 0), (3, .box 3 0), (30, .sl (pc.map pcV)), (31, I (pc.map pcV).length), (32, I (D2 ++ [x]).length)] [(1, _), (2, _), (3, [.arr 26 D.length, .arr 40 (D2 ++ [x]).length, .sl us, I r0, I r1, I s0, I s1])] [(26, ⟨D.length, .own, 139, D.map skV⟩), (40, ⟨(D2 ++ [x]).length, .own, 90, (D2 ++ [x]).map pcV⟩)])
          rw [List.length_append, List.map_append]
          refine le_mk ?_ ?_ ?_ ?_
          all_goals repeat' (first | exact trivial | refine And.intro ?_ ?_ | with_reducible rfl | exact Nat.le_refl _ | omega | exact rfl)
    | cons x R =>
      rw [List.length_cons] at hlen
      repeat' ((conv => whnf); first
        | (exfalso; omega)
        | refine idx_mid (l := sk) (A := D) (x := x) (B := R) e1 (by omega) ?_
        | refine need_app rfl (.inl rfl) rfl (of_decide_eq_true rfl) (one_cells rfl) (by show (List.map skV D).length + 1 ≤ _; rw [List.length_map]; omega) ?_
        | refine seq_go ?_
        | refine draw_i (by kernel_rfl) ?_
        | refine arith_half (by omega) ?_
        | refine arith_in (by omega) ?_
        | refine arith_u (by omega) ?_
        | refine need_i (p := (T.row _).eq = true) (by kernel_rfl) ?_
        | refine need_i (by omega) ?_
        | refine br_not ?_
        | refine br_dec (fun hd => ?_) (fun hd => ?_)
        | refine br_lt (fun hlt => ?_) (fun hlt => ?_)
        | refine br_le (fun hle => ?_) (fun hle => ?_)
        | refine br_eq (fun heq => ?_) (fun heq => ?_)
        | refine idx_map (by omega) (fun x hx => ?_)
        | refine live_i rfl (fun h => by cases h) ?_
        | refine branch_s (fun hbb => ?_) (fun hbb => ?_)
        | refine ret_i ?_
        | refine retB_i ?_)
      refine ⟨(D ++ [x], R), ?_, by rw [e1]; simp, by simp⟩
      show Le T _ (mkSt [(1, .box 1 0), (2, .box 2 0), (3, .box 3 0), (16, .sl (sk.map skV)), (17, I (sk.map skV).length), (18, I (D ++ [x]).length)] [(1, _), (2, _), (3, [.arr 26 (D ++ [x]).length, .lit (.slice none 0 0), .sl us, I r0, I r1, I s0, I s1])] [(26, ⟨(D ++ [x]).length, .own, 139, (D ++ [x]).map skV⟩)])
      rw [List.length_append, List.map_append]
      refine le_mk ?_ ?_ ?_ ?_
      all_goals repeat' (first | exact trivial | refine And.intro ?_ ?_ | with_reducible rfl | exact Nat.le_refl _ | omega | exact rfl)
theorem state_spec (s : Ls) (hs : fewP s) : Sp 27 [lsV s] (lsV s) := sp_of Tryd.func27 (by kernel_rfl) (by kernel_rfl) (state_vc s hs)
end Go.Proofs.Cost58
