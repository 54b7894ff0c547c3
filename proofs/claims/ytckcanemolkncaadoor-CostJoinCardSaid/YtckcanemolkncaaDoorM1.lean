/-
  Vectors, moves and their summaries, walked.
  Summaries of programs, walked.
-/
import Derived.Test.YtckcanemolkncaaDoorN3
set_option linter.unusedVariables false
set_option linter.unusedSimpArgs false
namespace Go.Proofs.Cost58
open Go Go.Proofs Go.Ab
set_option maxRecDepth 100000

theorem ret_agg {ar : Nat → Option AE} {xs ys : List V} (h : viewL ar ys xs) (hk : keysOk [.agg xs] [.agg ys] = true := by rfl) : giveL T ar [.agg ys] [.agg xs] ∧ keysOk [.agg xs] [.agg ys] = true ∧ (∀ rs, (V.agg ys) ≠ .tup rs) := ⟨⟨h, trivial⟩, hk, fun _ h => by cases h⟩
abbrev Vc := Int × Int
def vcV (v : Vc) : V := .agg [I v.1, I v.2]
/-- a move: its kind, its point -/
abbrev Mv := Int × Vc
def mvV (m : Mv) : V := .agg [I m.1, I m.2.1, I m.2.2]

def absI (n : Int) : Int := if 0 ≤ n then n else 0 - n
noncomputable def normV (v : Vc) : Int := maxI (absI v.1) (absI v.2)
def subV (a b : Vc) : Vc := (a.1 - b.1, a.2 - b.2)
def smallV (B : Int) (v : Vc) : Prop := (-B ≤ v.1 ∧ v.1 ≤ B) ∧ (-B ≤ v.2 ∧ v.2 ≤ B)
def within (v : Vc) (B : Int) : Prop := -B ≤ v.1 ∧ v.1 ≤ B ∧ -B ≤ v.2 ∧ v.2 ≤ B
theorem absB {B n : Int} (h : -B ≤ n ∧ n ≤ B) : 0 ≤ absI n ∧ absI n ≤ B := by unfold absI; split <;> omega
theorem normB {B : Int} {v : Vc} (h : smallV B v) : 0 ≤ normV v ∧ normV v ≤ B := by
  have h1 := absB h.1
  have h2 := absB h.2
  unfold normV
  rw [maxI_eq]; omega

theorem pabs_vc (n : Int) (h : -1000000 ≤ n ∧ n ≤ 1000000) : fnVC T Tryd.prog Tryd.f105 [I n] (I (absI n)) := by
  repeat' ((conv => whnf); first
    | refine seq_go ?_
    | refine draw_i (by kernel_rfl) ?_
    | refine arith_half (by omega) ?_
    | refine arith_in (by omega) ?_
    | refine arith_u (by omega) ?_
    | refine need_i (p := (T.row _).eq = true) (by kernel_rfl) ?_
    | refine need_i (by omega) ?_
    | refine br_not ?_
    | refine br_dec (fun hd => ?_) (fun hd => ?_)
    | refine br_lt (fun hlt => ?_) (fun hlt => ?_)
    | refine br_le (fun hle => ?_) (fun hle => ?_)
    | refine br_eq (fun heq => ?_) (fun heq => ?_)
    | refine idx_map (by omega) (fun x hx => ?_)
    | refine live_i rfl (fun h => by cases h) ?_
    | refine branch_s (fun hbb => ?_) (fun hbb => ?_)
    | refine ret_i ?_)
  all_goals (conv => whnf)
  all_goals refine ret_int ?_
  · unfold absI; rw [if_pos hle]
  · unfold absI; rw [if_neg (by omega)]
theorem pabs_spec (n : Int) (h : -1000000 ≤ n ∧ n ≤ 1000000) : Sp 105 [I n] (I (absI n)) := sp_of Tryd.func105 (by kernel_rfl) (by kernel_rfl) (pabs_vc n h)
theorem rabs_vc (n : Int) (h : -1000000 ≤ n ∧ n ≤ 1000000) : fnVC T Tryd.prog Tryd.f106 [I n] (I (absI n)) := by
  repeat' ((conv => whnf); first
    | refine seq_go ?_
    | refine draw_i (by kernel_rfl) ?_
    | refine arith_half (by omega) ?_
    | refine arith_in (by omega) ?_
    | refine arith_u (by omega) ?_
    | refine need_i (p := (T.row _).eq = true) (by kernel_rfl) ?_
    | refine need_i (by omega) ?_
    | refine br_not ?_
    | refine br_dec (fun hd => ?_) (fun hd => ?_)
    | refine br_lt (fun hlt => ?_) (fun hlt => ?_)
    | refine br_le (fun hle => ?_) (fun hle => ?_)
    | refine br_eq (fun heq => ?_) (fun heq => ?_)
    | refine idx_map (by omega) (fun x hx => ?_)
    | refine live_i rfl (fun h => by cases h) ?_
    | refine branch_s (fun hbb => ?_) (fun hbb => ?_)
    | refine ret_i ?_)
  all_goals (conv => whnf)
  all_goals refine ret_int ?_
  · unfold absI; rw [if_pos hle]
  · unfold absI; rw [if_neg (by omega)]
theorem rabs_spec (n : Int) (h : -1000000 ≤ n ∧ n ≤ 1000000) : Sp 106 [I n] (I (absI n)) := sp_of Tryd.func106 (by kernel_rfl) (by kernel_rfl) (rabs_vc n h)
theorem pnorm_vc (v : Vc) (h : smallV 1000000 v) : fnVC T Tryd.prog Tryd.f77 [vcV v] (I (normV v)) := by
  repeat' ((conv => whnf); first
    | (refine call_i (pabs_spec v.1 h.1) false ?_ rfl ?_; focus ((repeat' (first | exact trivial | refine And.intro ?_ ?_ | with_reducible rfl | exact (fun h => by cases h) | exact rfl)); done))
    | (refine call_i (pabs_spec v.2 h.2) false ?_ rfl ?_; focus ((repeat' (first | exact trivial | refine And.intro ?_ ?_ | with_reducible rfl | exact (fun h => by cases h) | exact rfl)); done))
    | refine seq_go ?_
    | refine draw_i (by kernel_rfl) ?_
    | refine arith_half (by omega) ?_
    | refine arith_in (by omega) ?_
    | refine arith_u (by omega) ?_
    | refine need_i (p := (T.row _).eq = true) (by kernel_rfl) ?_
    | refine need_i (by omega) ?_
    | refine br_not ?_
    | refine br_dec (fun hd => ?_) (fun hd => ?_)
    | refine br_lt (fun hlt => ?_) (fun hlt => ?_)
    | refine br_le (fun hle => ?_) (fun hle => ?_)
    | refine br_eq (fun heq => ?_) (fun heq => ?_)
    | refine idx_map (by omega) (fun x hx => ?_)
    | refine live_i rfl (fun h => by cases h) ?_
    | refine branch_s (fun hbb => ?_) (fun hbb => ?_)
    | refine ret_i ?_)
  conv => whnf
  exact ret_int rfl
theorem pnorm_spec (v : Vc) (h : smallV 1000000 v) : Sp 77 [vcV v] (I (normV v)) := sp_of Tryd.func77 (by kernel_rfl) (by kernel_rfl) (pnorm_vc v h)
theorem rnorm_vc (v : Vc) (h : smallV 1000000 v) : fnVC T Tryd.prog Tryd.f80 [vcV v] (I (normV v)) := by
  repeat' ((conv => whnf); first
    | (refine call_i (rabs_spec v.1 h.1) false ?_ rfl ?_; focus ((repeat' (first | exact trivial | refine And.intro ?_ ?_ | with_reducible rfl | exact (fun h => by cases h) | exact rfl)); done))
    | (refine call_i (rabs_spec v.2 h.2) false ?_ rfl ?_; focus ((repeat' (first | exact trivial | refine And.intro ?_ ?_ | with_reducible rfl | exact (fun h => by cases h) | exact rfl)); done))
    | refine seq_go ?_
    | refine draw_i (by kernel_rfl) ?_
    | refine arith_half (by omega) ?_
    | refine arith_in (by omega) ?_
    | refine arith_u (by omega) ?_
    | refine need_i (p := (T.row _).eq = true) (by kernel_rfl) ?_
    | refine need_i (by omega) ?_
    | refine br_not ?_
    | refine br_dec (fun hd => ?_) (fun hd => ?_)
    | refine br_lt (fun hlt => ?_) (fun hlt => ?_)
    | refine br_le (fun hle => ?_) (fun hle => ?_)
    | refine br_eq (fun heq => ?_) (fun heq => ?_)
    | refine idx_map (by omega) (fun x hx => ?_)
    | refine live_i rfl (fun h => by cases h) ?_
    | refine branch_s (fun hbb => ?_) (fun hbb => ?_)
    | refine ret_i ?_)
  conv => whnf
  exact ret_int rfl
theorem rnorm_spec (v : Vc) (h : smallV 1000000 v) : Sp 80 [vcV v] (I (normV v)) := sp_of Tryd.func80 (by kernel_rfl) (by kernel_rfl) (rnorm_vc v h)
theorem psub_vc (a b : Vc) (ha : smallV 10000 a) (hb : smallV 10000 b) : fnVC T Tryd.prog Tryd.f78 [vcV a, vcV b] (vcV (subV a b)) := by
  obtain ⟨a1, a2⟩ := ha
  obtain ⟨b1, b2⟩ := hb
  repeat' ((conv => whnf); first
    | refine seq_go ?_
    | refine draw_i (by kernel_rfl) ?_
    | refine arith_half (by omega) ?_
    | refine arith_in (by omega) ?_
    | refine arith_u (by omega) ?_
    | refine need_i (p := (T.row _).eq = true) (by kernel_rfl) ?_
    | refine need_i (by omega) ?_
    | refine br_not ?_
    | refine br_dec (fun hd => ?_) (fun hd => ?_)
    | refine br_lt (fun hlt => ?_) (fun hlt => ?_)
    | refine br_le (fun hle => ?_) (fun hle => ?_)
    | refine br_eq (fun heq => ?_) (fun heq => ?_)
    | refine idx_map (by omega) (fun x hx => ?_)
    | refine live_i rfl (fun h => by cases h) ?_
    | refine branch_s (fun hbb => ?_) (fun hbb => ?_)
    | refine ret_i ?_)
  conv => whnf
  exact ret_agg ⟨rfl, rfl, trivial⟩
theorem psub_spec (a b : Vc) (ha : smallV 10000 a) (hb : smallV 10000 b) : Sp 78 [vcV a, vcV b] (vcV (subV a b)) := sp_of Tryd.func78 (by kernel_rfl) (by kernel_rfl) (psub_vc a b ha hb)
theorem rsub_vc (a b : Vc) (ha : smallV 10000 a) (hb : smallV 10000 b) : fnVC T Tryd.prog Tryd.f81 [vcV a, vcV b] (vcV (subV a b)) := by
  obtain ⟨a1, a2⟩ := ha
  obtain ⟨b1, b2⟩ := hb
  repeat' ((conv => whnf); first
    | refine seq_go ?_
    | refine draw_i (by kernel_rfl) ?_
    | refine arith_half (by omega) ?_
    | refine arith_in (by omega) ?_
    | refine arith_u (by omega) ?_
    | refine need_i (p := (T.row _).eq = true) (by kernel_rfl) ?_
    | refine need_i (by omega) ?_
    | refine br_not ?_
    | refine br_dec (fun hd => ?_) (fun hd => ?_)
    | refine br_lt (fun hlt => ?_) (fun hlt => ?_)
    | refine br_le (fun hle => ?_) (fun hle => ?_)
    | refine br_eq (fun heq => ?_) (fun heq => ?_)
    | refine idx_map (by omega) (fun x hx => ?_)
    | refine live_i rfl (fun h => by cases h) ?_
    | refine branch_s (fun hbb => ?_) (fun hbb => ?_)
    | refine ret_i ?_)
  conv => whnf
  exact ret_agg ⟨rfl, rfl, trivial⟩
theorem rsub_spec (a b : Vc) (ha : smallV 10000 a) (hb : smallV 10000 b) : Sp 81 [vcV a, vcV b] (vcV (subV a b)) := sp_of Tryd.func81 (by kernel_rfl) (by kernel_rfl) (rsub_vc a b ha hb)
theorem pwithin_vc (v : Vc) (B : Int) (hB : 0 ≤ B ∧ B ≤ 1000000) : fnVC T Tryd.prog Tryd.f108 [vcV v, I B] (.lit (.bool (decB (within v B)))) := by
  repeat' ((conv => whnf); first
    | refine seq_go ?_
    | refine draw_i (by kernel_rfl) ?_
    | refine arith_half (by omega) ?_
    | refine arith_in (by omega) ?_
    | refine arith_u (by omega) ?_
    | refine need_i (p := (T.row _).eq = true) (by kernel_rfl) ?_
    | refine need_i (by omega) ?_
    | refine br_not ?_
    | refine br_dec (fun hd => ?_) (fun hd => ?_)
    | refine br_lt (fun hlt => ?_) (fun hlt => ?_)
    | refine br_le (fun hle => ?_) (fun hle => ?_)
    | refine br_eq (fun heq => ?_) (fun heq => ?_)
    | refine idx_map (by omega) (fun x hx => ?_)
    | refine live_i rfl (fun h => by cases h) ?_
    | refine branch_s (fun hbb => ?_) (fun hbb => ?_)
    | refine ret_i ?_)
  all_goals (conv => whnf)
  all_goals refine ret_boolD ?_
  all_goals first
    | (refine le_dec ?_; unfold within; omega)
    | (exact dec_retf (by unfold within; omega))
theorem pwithin_spec (v : Vc) (B : Int) (hB : 0 ≤ B ∧ B ≤ 1000000) : Sp 108 [vcV v, I B] (.lit (.bool (decB (within v B)))) := sp_of Tryd.func108 (by kernel_rfl) (by kernel_rfl) (pwithin_vc v B hB)
theorem rwithin_vc (v : Vc) (B : Int) (hB : 0 ≤ B ∧ B ≤ 1000000) : fnVC T Tryd.prog Tryd.f49 [vcV v, I B] (.lit (.bool (decB (within v B)))) := by
  repeat' ((conv => whnf); first
    | refine seq_go ?_
    | refine draw_i (by kernel_rfl) ?_
    | refine arith_half (by omega) ?_
    | refine arith_in (by omega) ?_
    | refine arith_u (by omega) ?_
    | refine need_i (p := (T.row _).eq = true) (by kernel_rfl) ?_
    | refine need_i (by omega) ?_
    | refine br_not ?_
    | refine br_dec (fun hd => ?_) (fun hd => ?_)
    | refine br_lt (fun hlt => ?_) (fun hlt => ?_)
    | refine br_le (fun hle => ?_) (fun hle => ?_)
    | refine br_eq (fun heq => ?_) (fun heq => ?_)
    | refine idx_map (by omega) (fun x hx => ?_)
    | refine live_i rfl (fun h => by cases h) ?_
    | refine branch_s (fun hbb => ?_) (fun hbb => ?_)
    | refine ret_i ?_)
  all_goals (conv => whnf)
  all_goals refine ret_boolD ?_
  all_goals first
    | (refine le_dec ?_; unfold within; omega)
    | (exact dec_retf (by unfold within; omega))
theorem rwithin_spec (v : Vc) (B : Int) (hB : 0 ≤ B ∧ B ≤ 1000000) : Sp 49 [vcV v, I B] (.lit (.bool (decB (within v B)))) := sp_of Tryd.func49 (by kernel_rfl) (by kernel_rfl) (rwithin_vc v B hB)
def goes (k : Int) : Prop := k = 1 ∨ k = 2 ∨ k = 5
theorem pgoes_vc (k : Int) : fnVC T Tryd.prog Tryd.f107 [I k] (.lit (.bool (decB (goes k)))) := by
  repeat' ((conv => whnf); first
    | refine seq_go ?_
    | refine draw_i (by kernel_rfl) ?_
    | refine arith_half (by omega) ?_
    | refine arith_in (by omega) ?_
    | refine arith_u (by omega) ?_
    | refine need_i (p := (T.row _).eq = true) (by kernel_rfl) ?_
    | refine need_i (by omega) ?_
    | refine br_not ?_
    | refine br_dec (fun hd => ?_) (fun hd => ?_)
    | refine br_lt (fun hlt => ?_) (fun hlt => ?_)
    | refine br_le (fun hle => ?_) (fun hle => ?_)
    | refine br_eq (fun heq => ?_) (fun heq => ?_)
    | refine idx_map (by omega) (fun x hx => ?_)
    | refine live_i rfl (fun h => by cases h) ?_
    | refine branch_s (fun hbb => ?_) (fun hbb => ?_)
    | refine ret_i ?_)
  all_goals (conv => whnf)
  all_goals refine ret_boolD ?_
  all_goals first
    | (refine eq_dec ?_; unfold goes; omega)
    | (exact dec_ret (by unfold goes; omega))
theorem pgoes_spec (k : Int) : Sp 107 [I k] (.lit (.bool (decB (goes k)))) := sp_of Tryd.func107 (by kernel_rfl) (by kernel_rfl) (pgoes_vc k)
theorem rgoes_vc (k : Int) : fnVC T Tryd.prog Tryd.f50 [I k] (.lit (.bool (decB (goes k)))) := by
  repeat' ((conv => whnf); first
    | refine seq_go ?_
    | refine draw_i (by kernel_rfl) ?_
    | refine arith_half (by omega) ?_
    | refine arith_in (by omega) ?_
    | refine arith_u (by omega) ?_
    | refine need_i (p := (T.row _).eq = true) (by kernel_rfl) ?_
    | refine need_i (by omega) ?_
    | refine br_not ?_
    | refine br_dec (fun hd => ?_) (fun hd => ?_)
    | refine br_lt (fun hlt => ?_) (fun hlt => ?_)
    | refine br_le (fun hle => ?_) (fun hle => ?_)
    | refine br_eq (fun heq => ?_) (fun heq => ?_)
    | refine idx_map (by omega) (fun x hx => ?_)
    | refine live_i rfl (fun h => by cases h) ?_
    | refine branch_s (fun hbb => ?_) (fun hbb => ?_)
    | refine ret_i ?_)
  all_goals (conv => whnf)
  all_goals refine ret_boolD ?_
  all_goals first
    | (refine eq_dec ?_; unfold goes; omega)
    | (exact dec_ret (by unfold goes; omega))
theorem rgoes_spec (k : Int) : Sp 50 [I k] (.lit (.bool (decB (goes k)))) := sp_of Tryd.func50 (by kernel_rfl) (by kernel_rfl) (rgoes_vc k)
/-- a valid move -/
def mvOk (m : Mv) : Prop := (goes m.1 ∧ within m.2 2000) ∨ ((m.1 = 3 ∨ m.1 = 4 ∨ m.1 = 6) ∧ m.2.1 = 0 ∧ m.2.2 = 0)
theorem mv_vc (m : Mv) : fnVC T Tryd.prog Tryd.f85 [mvV m] (.lit (.bool (decB (mvOk m)))) := by
  repeat' ((conv => whnf); first
    | (refine call_i (pgoes_spec m.1) false ?_ rfl ?_; focus ((repeat' (first | exact trivial | refine And.intro ?_ ?_ | with_reducible rfl | exact (fun h => by cases h) | exact rfl)); done))
    | (refine call_i (pwithin_spec m.2 2000 (by decide)) false ?_ rfl ?_; focus ((repeat' (first | exact trivial | refine And.intro ?_ ?_ | with_reducible rfl | exact (fun h => by cases h) | exact rfl)); done))
    | refine seq_go ?_
    | refine draw_i (by kernel_rfl) ?_
    | refine arith_half (by omega) ?_
    | refine arith_in (by omega) ?_
    | refine arith_u (by omega) ?_
    | refine need_i (p := (T.row _).eq = true) (by kernel_rfl) ?_
    | refine need_i (by omega) ?_
    | refine br_not ?_
    | refine br_dec (fun hd => ?_) (fun hd => ?_)
    | refine br_lt (fun hlt => ?_) (fun hlt => ?_)
    | refine br_le (fun hle => ?_) (fun hle => ?_)
    | refine br_eq (fun heq => ?_) (fun heq => ?_)
    | refine idx_map (by omega) (fun x hx => ?_)
    | refine live_i rfl (fun h => by cases h) ?_
    | refine branch_s (fun hbb => ?_) (fun hbb => ?_)
    | refine ret_i ?_)
  all_goals (conv => whnf)
  all_goals refine ret_boolD ?_
  · refine dec_dec ⟨fun h => .inl ⟨hd, h⟩, fun h => ?_⟩
    rcases h with ⟨_, h⟩ | ⟨h, _⟩
    · exact h
    · unfold goes at hd; omega
  all_goals first
    | (rw [andB_eq, andB_eq]; refine Bool.eq_iff_iff.2 ?_; rw [Bool.and_eq_true, Bool.and_eq_true, eqB_t, eqB_t, decB_t]; exact ⟨fun h => .inr ⟨by omega, h.1, h.2.1⟩, fun h => h.elim (fun h => (hd h.1).elim) (fun h => ⟨h.2.1, h.2.2, rfl⟩)⟩)
    | exact dec_retf (fun h => h.elim (fun h => hd h.1) (fun h => by omega))
theorem mv_spec (m : Mv) : Sp 85 [mvV m] (.lit (.bool (decB (mvOk m)))) := sp_of Tryd.func85 (by kernel_rfl) (by kernel_rfl) (mv_vc m)
theorem mvNot_vc (m : Mv) : fnVC T Tryd.prog Tryd.f84 [mvV m] (.lit (.bool (decB (¬ mvOk m)))) := by
  repeat' ((conv => whnf); first
    | (refine call_i (mv_spec m) false ?_ rfl ?_; focus ((repeat' (first | exact trivial | refine And.intro ?_ ?_ | with_reducible rfl | exact (fun h => by cases h) | exact rfl)); done))
    | refine seq_go ?_
    | refine draw_i (by kernel_rfl) ?_
    | refine arith_half (by omega) ?_
    | refine arith_in (by omega) ?_
    | refine arith_u (by omega) ?_
    | refine need_i (p := (T.row _).eq = true) (by kernel_rfl) ?_
    | refine need_i (by omega) ?_
    | refine br_not ?_
    | refine br_dec (fun hd => ?_) (fun hd => ?_)
    | refine br_lt (fun hlt => ?_) (fun hlt => ?_)
    | refine br_le (fun hle => ?_) (fun hle => ?_)
    | refine br_eq (fun heq => ?_) (fun heq => ?_)
    | refine idx_map (by omega) (fun x hx => ?_)
    | refine live_i rfl (fun h => by cases h) ?_
    | refine branch_s (fun hbb => ?_) (fun hbb => ?_)
    | refine ret_i ?_)
  conv => whnf
  refine ret_boolD ?_
  exact not_dec decB_f
theorem mvNot_spec (m : Mv) : Sp 84 [mvV m] (.lit (.bool (decB (¬ mvOk m)))) := sp_of Tryd.func84 (by kernel_rfl) (by kernel_rfl) (mvNot_vc m)

/-- the first one of a kind -/
noncomputable def fst (Q : Mv → Prop) (l : List Mv) : Nat := (l.takeWhile fun m => !decB (Q m)).length
noncomputable def fstI (Q : Mv → Prop) (l : List Mv) : Int := if fst Q l < l.length then fst Q l else -1
theorem tw_stop {α : Type} {p : α → Bool} {D R : List α} {x : α} (h : ∀ y ∈ D, p y = true) (hx : p x = false) : ((D ++ x :: R).takeWhile p).length = D.length := by
  induction D with
  | nil => simp [List.takeWhile, hx]
  | cons d D ih => rw [List.cons_append, List.takeWhile_cons, if_pos (h d (by simp)), List.length_cons, ih (fun y hy => h y (by simp [hy])), List.length_cons]
theorem tw_all {α : Type} {p : α → Bool} {D : List α} (h : ∀ y ∈ D, p y = true) : (D.takeWhile p).length = D.length := by
  induction D with
  | nil => rfl
  | cons d D ih => rw [List.takeWhile_cons, if_pos (h d (by simp)), List.length_cons, ih (fun y hy => h y (by simp [hy])), List.length_cons]
theorem fst_none {Q : Mv → Prop} {l : List Mv} : ¬ fst Q l < l.length ↔ ∀ m ∈ l, ¬ Q m := by
  unfold fst
  constructor
  · intro h m hm hq
    apply h
    clear h
    induction l with
    | nil => simp at hm
    | cons x l ih =>
      rw [List.takeWhile_cons]
      split
      · rename_i hx
        rcases List.mem_cons.1 hm with rfl | hm
        · rw [decB_t.2 hq] at hx; simp at hx
        · have := ih hm
          rw [List.length_cons, List.length_cons]; omega
      · simp
  · intro h
    rw [tw_all (fun y hy => by rw [decB_f.2 (h y hy)]; rfl)]
    omega
theorem need_at {α : Type} {f : α → V} {l : List α} {z : Int} {K : Prop} (h : 0 ≤ z ∧ z < l.length) (hk : K) : need (0 ≤ z ∧ z < (l.map f).length) K := need_len h hk
theorem index_vc {g : FuncId} {Q : Mv → Prop} (hg : ∀ m, Sp g [mvV m] (.lit (.bool (decB (Q m))))) (l : List Mv) (hl : l.length ≤ 1000000) : fnVC T Tryd.prog Tryd.f52 [.sl (l.map mvV), .fn g []] (I (fstI Q l)) := by
  have hll : (l.map mvV).length = l.length := by simp
  repeat' ((conv => whnf); first
    | refine seq_go ?_
    | refine draw_i (by kernel_rfl) ?_
    | refine arith_half (by omega) ?_
    | refine arith_in (by omega) ?_
    | refine arith_u (by omega) ?_
    | refine need_i (p := (T.row _).eq = true) (by kernel_rfl) ?_
    | refine need_i (by omega) ?_
    | refine br_not ?_
    | refine br_dec (fun hd => ?_) (fun hd => ?_)
    | refine br_lt (fun hlt => ?_) (fun hlt => ?_)
    | refine br_le (fun hle => ?_) (fun hle => ?_)
    | refine br_eq (fun heq => ?_) (fun heq => ?_)
    | refine idx_map (by omega) (fun x hx => ?_)
    | refine live_i rfl (fun h => by cases h) ?_
    | refine branch_s (fun hbb => ?_) (fun hbb => ?_)
    | refine ret_i ?_)
  refine loop_2 (A := List Mv) (B := List Mv) (fun D R => mkSt [(0, .sl (l.map mvV)), (1, .fn g []), (7, I l.length), (8, I D.length)] [] [])
    (fun D R => l = D ++ R ∧ ∀ m ∈ D, ¬ Q m) (fun D R => R.length) [] l ?_ ⟨rfl, by simp⟩ (fun D R hp => ?_)
  · refine le_mk ?_ ?_ ?_ ?_
    all_goals repeat' (first | exact trivial | refine And.intro ?_ ?_ | with_reducible rfl | exact Nat.le_refl _ | omega | exact rfl)
  · obtain ⟨h1, h2⟩ := hp
    have hlen : l.length = D.length + R.length := by rw [h1]; simp
    have hD : ∀ y ∈ D, (!decB (Q y)) = true := fun y hy => by rw [decB_f.2 (h2 y hy)]; rfl
    cases R with
    | nil =>
      have e : l = D := by rw [h1]; simp
      simp at hlen
      repeat' ((conv => whnf); first
        | (exfalso; omega)
        | refine seq_go ?_
        | refine draw_i (by kernel_rfl) ?_
        | refine arith_half (by omega) ?_
        | refine arith_in (by omega) ?_
        | refine arith_u (by omega) ?_
        | refine need_i (p := (T.row _).eq = true) (by kernel_rfl) ?_
        | refine need_i (by omega) ?_
        | refine br_not ?_
        | refine br_dec (fun hd => ?_) (fun hd => ?_)
        | refine br_lt (fun hlt => ?_) (fun hlt => ?_)
        | refine br_le (fun hle => ?_) (fun hle => ?_)
        | refine br_eq (fun heq => ?_) (fun heq => ?_)
        | refine idx_map (by omega) (fun x hx => ?_)
        | refine live_i rfl (fun h => by cases h) ?_
        | refine branch_s (fun hbb => ?_) (fun hbb => ?_)
        | refine ret_i ?_)
      conv => whnf
      refine ret_int ?_
      unfold fstI
      rw [if_neg (fst_none.2 (by rw [e]; exact h2))]
    | cons x R =>
      rw [List.length_cons] at hlen
      repeat' ((conv => whnf); first
        | (exfalso; omega)
        | refine idx_mid (l := l) (A := D) (x := x) (B := R) h1 (by omega) ?_
        | (refine call_i (hg x) false ?_ rfl ?_; focus ((repeat' (first | exact trivial | refine And.intro ?_ ?_ | with_reducible rfl | exact (fun h => by cases h) | exact rfl)); done))
        | refine seq_go ?_
        | refine draw_i (by kernel_rfl) ?_
        | refine arith_half (by omega) ?_
        | refine arith_in (by omega) ?_
        | refine arith_u (by omega) ?_
        | refine need_i (p := (T.row _).eq = true) (by kernel_rfl) ?_
        | refine need_i (by omega) ?_
        | refine br_not ?_
        | refine br_dec (fun hd => ?_) (fun hd => ?_)
        | refine br_lt (fun hlt => ?_) (fun hlt => ?_)
        | refine br_le (fun hle => ?_) (fun hle => ?_)
        | refine br_eq (fun heq => ?_) (fun heq => ?_)
        | refine idx_map (by omega) (fun x hx => ?_)
        | refine live_i rfl (fun h => by cases h) ?_
        | refine branch_s (fun hbb => ?_) (fun hbb => ?_)
        | refine ret_i ?_)
      · conv => whnf
        refine ret_int ?_
        have e : fst Q l = D.length := by unfold fst; rw [h1]; exact tw_stop hD (by rw [decB_t.2 hd]; rfl)
        unfold fstI
        rw [e, if_pos (by omega)]
      · conv => whnf
        refine ⟨(D ++ [x], R), ?_, ⟨?_, ?_⟩, ?_⟩
        · refine le_mk ?_ ?_ ?_ ?_
          all_goals repeat' (first | exact trivial | refine And.intro ?_ ?_ | with_reducible rfl | exact Nat.le_refl _ | omega | exact rfl)
          · show (D.length : Int) + 1 = (D ++ [x]).length
            simp
        · show l = D ++ [x] ++ R
          rw [h1]; simp
        · intro m hm
          rcases List.mem_append.1 hm with hm | hm
          · exact h2 m hm
          · rw [List.mem_singleton.1 hm]; exact hd
        · show R.length < (x :: R).length
          simp
theorem index_spec {g : FuncId} {Q : Mv → Prop} (hg : ∀ m, Sp g [mvV m] (.lit (.bool (decB (Q m))))) (l : List Mv) (hl : l.length ≤ 1000000) : Sp 52 [.sl (l.map mvV), .fn g []] (I (fstI Q l)) := sp_of Tryd.func52 (by kernel_rfl) (by kernel_rfl) (index_vc hg l hl)
theorem contains_vc {g : FuncId} {Q : Mv → Prop} (hg : ∀ m, Sp g [mvV m] (.lit (.bool (decB (Q m))))) (l : List Mv) (hl : l.length ≤ 1000000) : fnVC T Tryd.prog Tryd.f83 [.sl (l.map mvV), .fn g []] (.lit (.bool (decB (∃ m ∈ l, Q m)))) := by
  repeat' ((conv => whnf); first
    | (refine call_i (index_spec hg l hl) false ?_ rfl ?_; focus ((repeat' (first | exact trivial | refine And.intro ?_ ?_ | with_reducible rfl | exact (fun h => by cases h) | exact rfl)); done))
    | refine seq_go ?_
    | refine draw_i (by kernel_rfl) ?_
    | refine arith_half (by omega) ?_
    | refine arith_in (by omega) ?_
    | refine arith_u (by omega) ?_
    | refine need_i (p := (T.row _).eq = true) (by kernel_rfl) ?_
    | refine need_i (by omega) ?_
    | refine br_not ?_
    | refine br_dec (fun hd => ?_) (fun hd => ?_)
    | refine br_lt (fun hlt => ?_) (fun hlt => ?_)
    | refine br_le (fun hle => ?_) (fun hle => ?_)
    | refine br_eq (fun heq => ?_) (fun heq => ?_)
    | refine idx_map (by omega) (fun x hx => ?_)
    | refine live_i rfl (fun h => by cases h) ?_
    | refine branch_s (fun hbb => ?_) (fun hbb => ?_)
    | refine ret_i ?_)
  conv => whnf
  refine ret_boolD (le_dec ?_)
  have h := fst_none (Q := Q) (l := l)
  unfold fstI
  constructor
  · intro h0
    split at h0
    · rename_i hlt
      exact Classical.byContradiction fun hn => (h.2 (fun m hm hq => hn ⟨m, hm, hq⟩)) hlt
    · omega
  · rintro ⟨m, hm, hq⟩
    split
    · omega
    · rename_i hlt
      exact (h.1 hlt m hm hq).elim
theorem contains_spec {g : FuncId} {Q : Mv → Prop} (hg : ∀ m, Sp g [mvV m] (.lit (.bool (decB (Q m))))) (l : List Mv) (hl : l.length ≤ 1000000) : Sp 83 [.sl (l.map mvV), .fn g []] (.lit (.bool (decB (∃ m ∈ l, Q m)))) := sp_of Tryd.func83 (by kernel_rfl) (by kernel_rfl) (contains_vc hg l hl)
/-- a valid program -/
def prOk (l : List Mv) : Prop := l.length ≤ 2000 ∧ ∀ m ∈ l, mvOk m
theorem valid49_vc (l : List Mv) (hl : l.length ≤ 1000000) : fnVC T Tryd.prog Tryd.f51 [.sl (l.map mvV)] (.lit (.bool (decB (prOk l)))) := by
  have hll : (l.map mvV).length = l.length := by simp
  repeat' ((conv => whnf); first
    | (refine call_i (contains_spec mvNot_spec l hl) false ?_ rfl ?_; focus ((repeat' (first | exact trivial | refine And.intro ?_ ?_ | with_reducible rfl | exact (fun h => by cases h) | exact rfl)); done))
    | refine seq_go ?_
    | refine draw_i (by kernel_rfl) ?_
    | refine arith_half (by omega) ?_
    | refine arith_in (by omega) ?_
    | refine arith_u (by omega) ?_
    | refine need_i (p := (T.row _).eq = true) (by kernel_rfl) ?_
    | refine need_i (by omega) ?_
    | refine br_not ?_
    | refine br_dec (fun hd => ?_) (fun hd => ?_)
    | refine br_lt (fun hlt => ?_) (fun hlt => ?_)
    | refine br_le (fun hle => ?_) (fun hle => ?_)
    | refine br_eq (fun heq => ?_) (fun heq => ?_)
    | refine idx_map (by omega) (fun x hx => ?_)
    | refine live_i rfl (fun h => by cases h) ?_
    | refine branch_s (fun hbb => ?_) (fun hbb => ?_)
    | refine ret_i ?_)
  · conv => whnf
    refine ret_boolD (not_dec ?_)
    rw [decB_f]
    constructor
    · intro h
      exact ⟨by omega, fun m hm => Classical.byContradiction fun hn => h ⟨m, hm, hn⟩⟩
    · rintro ⟨_, h⟩ ⟨m, hm, hn⟩
      exact hn (h m hm)
  · conv => whnf
    exact ret_boolD (dec_retf (fun h => by have := h.1; omega))
theorem valid49_spec (l : List Mv) (hl : l.length ≤ 1000000) : Sp 51 [.sl (l.map mvV)] (.lit (.bool (decB (prOk l)))) := sp_of Tryd.func51 (by kernel_rfl) (by kernel_rfl) (valid49_vc l hl)
end Go.Proofs.Cost58
namespace Go.Proofs.Cost58
open Go Go.Proofs Go.Ab
set_option maxRecDepth 100000

theorem rvalid49_vc (l : List Mv) (hl : l.length ≤ 1000000) : fnVC T Tryd.prog Tryd.f22 [.sl (l.map mvV)] (.lit (.bool (decB (prOk l)))) := by
  have hll : (l.map mvV).length = l.length := by simp
  repeat' ((conv => whnf); first
    | refine seq_go ?_
    | refine draw_i (by kernel_rfl) ?_
    | refine arith_half (by omega) ?_
    | refine arith_in (by omega) ?_
    | refine arith_u (by omega) ?_
    | refine need_i (p := (T.row _).eq = true) (by kernel_rfl) ?_
    | refine need_i (by omega) ?_
    | refine br_not ?_
    | refine br_dec (fun hd => ?_) (fun hd => ?_)
    | refine br_lt (fun hlt => ?_) (fun hlt => ?_)
    | refine br_le (fun hle => ?_) (fun hle => ?_)
    | refine br_eq (fun heq => ?_) (fun heq => ?_)
    | refine idx_map (by omega) (fun x hx => ?_)
    | refine live_i rfl (fun h => by cases h) ?_
    | refine branch_s (fun hbb => ?_) (fun hbb => ?_)
    | refine ret_i ?_)
  refine loop_2 (A := List Mv) (B := List Mv) (fun D R => mkSt [(0, .sl (l.map mvV)), (3, I D.length)] [] [])
    (fun D R => l = D ++ R ∧ ∀ m ∈ D, mvOk m) (fun D R => R.length) [] l ?_ ⟨rfl, by simp⟩ (fun D R hp => ?_)
  · refine le_mk ?_ ?_ ?_ ?_
    all_goals repeat' (first | exact trivial | refine And.intro ?_ ?_ | with_reducible rfl | exact Nat.le_refl _ | omega | exact rfl)
  · obtain ⟨h1, h2⟩ := hp
    have hlen : l.length = D.length + R.length := by rw [h1]; simp
    cases R with
    | nil =>
      have e : l = D := by rw [h1]; simp
      simp at hlen
      repeat' ((conv => whnf); first
        | (exfalso; omega)
        | refine seq_go ?_
        | refine draw_i (by kernel_rfl) ?_
        | refine arith_half (by omega) ?_
        | refine arith_in (by omega) ?_
        | refine arith_u (by omega) ?_
        | refine need_i (p := (T.row _).eq = true) (by kernel_rfl) ?_
        | refine need_i (by omega) ?_
        | refine br_not ?_
        | refine br_dec (fun hd => ?_) (fun hd => ?_)
        | refine br_lt (fun hlt => ?_) (fun hlt => ?_)
        | refine br_le (fun hle => ?_) (fun hle => ?_)
        | refine br_eq (fun heq => ?_) (fun heq => ?_)
        | refine idx_map (by omega) (fun x hx => ?_)
        | refine live_i rfl (fun h => by cases h) ?_
        | refine branch_s (fun hbb => ?_) (fun hbb => ?_)
        | refine ret_i ?_)
      conv => whnf
      refine ret_boolD (le_dec ?_)
      rw [hll]
      exact ⟨fun h => ⟨by omega, by rw [e]; exact h2⟩, fun h => by have := h.1; omega⟩
    | cons x R =>
      rw [List.length_cons] at hlen
      have step : mvOk x → (l = (D ++ [x]) ++ R ∧ ∀ m ∈ D ++ [x], mvOk m) := fun hx => ⟨by rw [h1]; simp, fun m hm => by
        rcases List.mem_append.1 hm with hm | hm
        · exact h2 m hm
        · rw [List.mem_singleton.1 hm]; exact hx⟩
      have bad : ¬ mvOk x → ¬ prOk l := fun hn h => hn (h.2 x (by rw [h1]; simp))
      repeat' ((conv => whnf); first
        | (exfalso; omega)
        | refine idx_mid (l := l) (A := D) (x := x) (B := R) h1 (by omega) ?_
        | (refine call_i (rwithin_spec x.2 2000 (by decide)) false ?_ rfl ?_; focus ((repeat' (first | exact trivial | refine And.intro ?_ ?_ | with_reducible rfl | exact (fun h => by cases h) | exact rfl)); done))
        | (refine call_i (rgoes_spec x.1) false ?_ rfl ?_; focus ((repeat' (first | exact trivial | refine And.intro ?_ ?_ | with_reducible rfl | exact (fun h => by cases h) | exact rfl)); done))
        | refine seq_go ?_
        | refine draw_i (by kernel_rfl) ?_
        | refine arith_half (by omega) ?_
        | refine arith_in (by omega) ?_
        | refine arith_u (by omega) ?_
        | refine need_i (p := (T.row _).eq = true) (by kernel_rfl) ?_
        | refine need_i (by omega) ?_
        | refine br_not ?_
        | refine br_dec (fun hd => ?_) (fun hd => ?_)
        | refine br_lt (fun hlt => ?_) (fun hlt => ?_)
        | refine br_le (fun hle => ?_) (fun hle => ?_)
        | refine br_eq (fun heq => ?_) (fun heq => ?_)
        | refine idx_map (by omega) (fun x hx => ?_)
        | refine live_i rfl (fun h => by cases h) ?_
        | refine branch_s (fun hbb => ?_) (fun hbb => ?_)
        | refine ret_i ?_)
      · conv => whnf
        exact ret_boolD (dec_retf (bad (by unfold mvOk goes; omega)))
      · conv => whnf
        exact ret_boolD (dec_retf (bad (by unfold mvOk goes; omega)))
      · rename_i hw
        conv => whnf
        refine ⟨(D ++ [x], R), ?_, step (.inl ⟨hd, hw⟩), ?_⟩
        · refine le_mk ?_ ?_ ?_ ?_
          all_goals repeat' (first | exact trivial | refine And.intro ?_ ?_ | with_reducible rfl | exact Nat.le_refl _ | omega | exact rfl)
          · show (D.length : Int) + 1 = (D ++ [x]).length
            simp
        · show R.length < (x :: R).length
          simp
      · rw [andB_eq, andB_eq, Bool.and_eq_true, Bool.and_eq_true, eqB_t, eqB_t] at hbb
        conv => whnf
        refine ⟨(D ++ [x], R), ?_, step (.inr ⟨by unfold goes at hd; omega, hbb.1, hbb.2.1⟩), ?_⟩
        · refine le_mk ?_ ?_ ?_ ?_
          all_goals repeat' (first | exact trivial | refine And.intro ?_ ?_ | with_reducible rfl | exact Nat.le_refl _ | omega | exact rfl)
          · show (D.length : Int) + 1 = (D ++ [x]).length
            simp
        · show R.length < (x :: R).length
          simp
      · conv => whnf
        refine ret_boolD (dec_retf (bad (fun h => ?_)))
        rcases h with ⟨h, _⟩ | ⟨_, h⟩
        · exact hd h
        · rw [andB_eq, andB_eq, eqB_t.2 h.1, eqB_t.2 h.2] at hbb
          cases hbb
      · conv => whnf
        refine ret_boolD (dec_retf (bad (fun h => ?_)))
        rcases h with ⟨_, h⟩ | ⟨_, h⟩
        · exact hd h
        · exact hd (by unfold within; omega)
theorem rvalid49_spec (l : List Mv) (hl : l.length ≤ 1000000) : Sp 22 [.sl (l.map mvV)] (.lit (.bool (decB (prOk l)))) := sp_of Tryd.func22 (by kernel_rfl) (by kernel_rfl) (rvalid49_vc l hl)

/-- boxes -/
abbrev Bx := Vc × Vc
noncomputable def boxF (b : Bx) (v : Vc) : Bx := ((minI b.1.1 v.1, minI b.1.2 v.2), (maxI b.2.1 v.1, maxI b.2.2 v.2))
noncomputable def boxP (l : List Vc) : Bx := match l with
  | [] => ((0, 0), (0, 0))
  | x :: r => (x :: r).foldl boxF (x, x)
def bxV (b : Bx) : V := .agg [I b.1.1, I b.1.2, I b.2.1, I b.2.2]
theorem pbox_vc (l : List Vc) (hl : l.length ≤ 1000000) : fnVC T Tryd.prog Tryd.f79 [.sl (l.map vcV)] (.tup [bxV (boxP l), .lit (.bool (decB (l ≠ [])))]) := by
  have hll : (l.map vcV).length = l.length := by simp
  cases hl0 : l with
  | nil =>
    repeat' ((conv => whnf); first
      | (exfalso; exact heq rfl)
      | refine seq_go ?_
      | refine draw_i (by kernel_rfl) ?_
      | refine arith_half (by omega) ?_
      | refine arith_in (by omega) ?_
      | refine arith_u (by omega) ?_
      | refine need_i (p := (T.row _).eq = true) (by kernel_rfl) ?_
      | refine need_i (by omega) ?_
      | refine br_not ?_
      | refine br_dec (fun hd => ?_) (fun hd => ?_)
      | refine br_lt (fun hlt => ?_) (fun hlt => ?_)
      | refine br_le (fun hle => ?_) (fun hle => ?_)
      | refine br_eq (fun heq => ?_) (fun heq => ?_)
      | refine idx_map (by omega) (fun x hx => ?_)
      | refine live_i rfl (fun h => by cases h) ?_
      | refine branch_s (fun hbb => ?_) (fun hbb => ?_)
      | refine ret_i ?_)
    conv => whnf
    refine ret_two ⟨rfl, rfl, rfl, rfl, trivial⟩ ?_ rfl
    show Value.bool false = Value.bool _
    rw [decB_f.2 (by simp)]
  | cons x r =>
    rw [← hl0]
    have hlen : l.length = r.length + 1 := by rw [hl0]; rfl
    have hne : l ≠ [] := by rw [hl0]; simp
    repeat' ((conv => whnf); first
      | (exfalso; omega)
      | refine need_len (l := l) (by omega) ?_
      | refine idx_mid (l := l) (A := []) (x := x) (B := r) hl0 rfl ?_
      | refine seq_go ?_
      | refine draw_i (by kernel_rfl) ?_
      | refine arith_half (by omega) ?_
      | refine arith_in (by omega) ?_
      | refine arith_u (by omega) ?_
      | refine need_i (p := (T.row _).eq = true) (by kernel_rfl) ?_
      | refine need_i (by omega) ?_
      | refine br_not ?_
      | refine br_dec (fun hd => ?_) (fun hd => ?_)
      | refine br_lt (fun hlt => ?_) (fun hlt => ?_)
      | refine br_le (fun hle => ?_) (fun hle => ?_)
      | refine br_eq (fun heq => ?_) (fun heq => ?_)
      | refine idx_map (by omega) (fun x hx => ?_)
      | refine live_i rfl (fun h => by cases h) ?_
      | refine branch_s (fun hbb => ?_) (fun hbb => ?_)
      | refine ret_i ?_)
    refine loop_2 (A := List Vc) (B := List Vc) (fun D R => mkSt [(0, .sl (l.map vcV)), (2, .box 2 0), (4, .box 4 0), (18, I l.length), (19, I D.length)] [(2, [I 0, I 0, I 0, I 0]), (4, [I (D.foldl boxF (x, x)).1.1, I (D.foldl boxF (x, x)).1.2, I (D.foldl boxF (x, x)).2.1, I (D.foldl boxF (x, x)).2.2])] [])
      (fun D R => l = D ++ R) (fun D R => R.length) [] l ?_ rfl (fun D R hp => ?_)
    · refine le_mk ?_ ?_ ?_ ?_
      all_goals repeat' (first | exact trivial | refine And.intro ?_ ?_ | with_reducible rfl | exact Nat.le_refl _ | omega | exact rfl)
    · have hlen' : l.length = D.length + R.length := by rw [show l = D ++ R from hp]; simp
      cases R with
      | nil =>
        have e : l = D := by rw [show l = D ++ [] from hp]; simp
        simp at hlen'
        have eb : boxP l = D.foldl boxF (x, x) := by rw [← e, hl0]; rfl
        rw [eb]
        repeat' ((conv => whnf); first
          | (exfalso; omega)
          | refine seq_go ?_
          | refine draw_i (by kernel_rfl) ?_
          | refine arith_half (by omega) ?_
          | refine arith_in (by omega) ?_
          | refine arith_u (by omega) ?_
          | refine need_i (p := (T.row _).eq = true) (by kernel_rfl) ?_
          | refine need_i (by omega) ?_
          | refine br_not ?_
          | refine br_dec (fun hd => ?_) (fun hd => ?_)
          | refine br_lt (fun hlt => ?_) (fun hlt => ?_)
          | refine br_le (fun hle => ?_) (fun hle => ?_)
          | refine br_eq (fun heq => ?_) (fun heq => ?_)
          | refine idx_map (by omega) (fun x hx => ?_)
          | refine live_i rfl (fun h => by cases h) ?_
          | refine branch_s (fun hbb => ?_) (fun hbb => ?_)
          | refine ret_i ?_)
        conv => whnf
        refine ret_two ⟨rfl, rfl, rfl, rfl, trivial⟩ ?_ rfl
        show Value.bool true = Value.bool _
        rw [decB_t.2 hne]
      | cons y R =>
        rw [List.length_cons] at hlen'
        have es : (D ++ [y]).foldl boxF (x, x) = boxF (D.foldl boxF (x, x)) y := by rw [List.foldl_append]; rfl
        generalize D.foldl boxF (x, x) = b at es
        repeat' ((conv => whnf); first
          | (exfalso; omega)
          | refine need_len (l := l) (by omega) ?_
          | refine idx_mid (l := l) (A := D) (x := y) (B := R) hp (by omega) ?_
          | refine draw_c [(4, 4), (40, 4), (41, 4), (62, 4), (63, 4), (0, 999), (5, 999), (34, 999), (35, 999), (36, 999), (37, 999), (56, 999), (57, 999), (58, 999), (59, 999)] (by repeat' (first | exact trivial | exact rfl | refine And.intro ?_ ?_)) (by kernel_rfl) ?_
          | refine seq_go ?_
          | refine draw_i (by kernel_rfl) ?_
          | refine arith_half (by omega) ?_
          | refine arith_in (by omega) ?_
          | refine arith_u (by omega) ?_
          | refine need_i (p := (T.row _).eq = true) (by kernel_rfl) ?_
          | refine need_i (by omega) ?_
          | refine br_not ?_
          | refine br_dec (fun hd => ?_) (fun hd => ?_)
          | refine br_lt (fun hlt => ?_) (fun hlt => ?_)
          | refine br_le (fun hle => ?_) (fun hle => ?_)
          | refine br_eq (fun heq => ?_) (fun heq => ?_)
          | refine idx_map (by omega) (fun x hx => ?_)
          | refine live_i rfl (fun h => by cases h) ?_
          | refine branch_s (fun hbb => ?_) (fun hbb => ?_)
          | refine ret_i ?_)
        conv => whnf
        refine ⟨(D ++ [y], R), ?_, ?_, ?_⟩
        · show Le T _ (mkSt [(0, .sl (l.map vcV)), (2, .box 2 0), (4, .box 4 0), (18, I l.length), (19, I (D ++ [y]).length)] [(2, [I 0, I 0, I 0, I 0]), (4, [I ((D ++ [y]).foldl boxF (x, x)).1.1, I ((D ++ [y]).foldl boxF (x, x)).1.2, I ((D ++ [y]).foldl boxF (x, x)).2.1, I ((D ++ [y]).foldl boxF (x, x)).2.2])] [])
          rw [es]
          refine le_mk ?_ ?_ ?_ ?_
          all_goals repeat' (first | exact trivial | refine And.intro ?_ ?_ | with_reducible rfl | exact Nat.le_refl _ | omega | exact rfl)
          · show (D.length : Int) + 1 = (D ++ [y]).length
            simp
        · show l = D ++ [y] ++ R
          rw [show l = D ++ y :: R from hp]; simp
        · show R.length < (y :: R).length
          simp
theorem pbox_spec (l : List Vc) (hl : l.length ≤ 1000000) : Sp 79 [.sl (l.map vcV)] (.tup [bxV (boxP l), .lit (.bool (decB (l ≠ [])))]) := sp_of Tryd.func79 (by kernel_rfl) (by kernel_rfl) (pbox_vc l hl)
theorem rbox_vc (l : List Vc) (hl : l.length ≤ 1000000) : fnVC T Tryd.prog Tryd.f82 [.sl (l.map vcV)] (.tup [bxV (boxP l), .lit (.bool (decB (l ≠ [])))]) := by
  have hll : (l.map vcV).length = l.length := by simp
  cases hl0 : l with
  | nil =>
    repeat' ((conv => whnf); first
      | (exfalso; exact heq rfl)
      | refine seq_go ?_
      | refine draw_i (by kernel_rfl) ?_
      | refine arith_half (by omega) ?_
      | refine arith_in (by omega) ?_
      | refine arith_u (by omega) ?_
      | refine need_i (p := (T.row _).eq = true) (by kernel_rfl) ?_
      | refine need_i (by omega) ?_
      | refine br_not ?_
      | refine br_dec (fun hd => ?_) (fun hd => ?_)
      | refine br_lt (fun hlt => ?_) (fun hlt => ?_)
      | refine br_le (fun hle => ?_) (fun hle => ?_)
      | refine br_eq (fun heq => ?_) (fun heq => ?_)
      | refine idx_map (by omega) (fun x hx => ?_)
      | refine live_i rfl (fun h => by cases h) ?_
      | refine branch_s (fun hbb => ?_) (fun hbb => ?_)
      | refine ret_i ?_)
    conv => whnf
    refine ret_two ⟨rfl, rfl, rfl, rfl, trivial⟩ ?_ rfl
    show Value.bool false = Value.bool _
    rw [decB_f.2 (by simp)]
  | cons x r =>
    rw [← hl0]
    have hlen : l.length = r.length + 1 := by rw [hl0]; rfl
    have hne : l ≠ [] := by rw [hl0]; simp
    repeat' ((conv => whnf); first
      | (exfalso; omega)
      | refine need_len (l := l) (by omega) ?_
      | refine idx_mid (l := l) (A := []) (x := x) (B := r) hl0 rfl ?_
      | refine seq_go ?_
      | refine draw_i (by kernel_rfl) ?_
      | refine arith_half (by omega) ?_
      | refine arith_in (by omega) ?_
      | refine arith_u (by omega) ?_
      | refine need_i (p := (T.row _).eq = true) (by kernel_rfl) ?_
      | refine need_i (by omega) ?_
      | refine br_not ?_
      | refine br_dec (fun hd => ?_) (fun hd => ?_)
      | refine br_lt (fun hlt => ?_) (fun hlt => ?_)
      | refine br_le (fun hle => ?_) (fun hle => ?_)
      | refine br_eq (fun heq => ?_) (fun heq => ?_)
      | refine idx_map (by omega) (fun x hx => ?_)
      | refine live_i rfl (fun h => by cases h) ?_
      | refine branch_s (fun hbb => ?_) (fun hbb => ?_)
      | refine ret_i ?_)
    refine loop_2 (A := List Vc) (B := List Vc) (fun D R => mkSt [(0, .sl (l.map vcV)), (2, .box 2 0), (4, .box 4 0), (5, I D.length)] [(2, [I 0, I 0, I 0, I 0]), (4, [I (D.foldl boxF (x, x)).1.1, I (D.foldl boxF (x, x)).1.2, I (D.foldl boxF (x, x)).2.1, I (D.foldl boxF (x, x)).2.2])] [])
      (fun D R => l = D ++ R) (fun D R => R.length) [] l ?_ rfl (fun D R hp => ?_)
    · refine le_mk ?_ ?_ ?_ ?_
      all_goals repeat' (first | exact trivial | refine And.intro ?_ ?_ | with_reducible rfl | exact Nat.le_refl _ | omega | exact rfl)
    · have hlen' : l.length = D.length + R.length := by rw [show l = D ++ R from hp]; simp
      cases R with
      | nil =>
        have e : l = D := by rw [show l = D ++ [] from hp]; simp
        simp at hlen'
        have eb : boxP l = D.foldl boxF (x, x) := by rw [← e, hl0]; rfl
        rw [eb]
        repeat' ((conv => whnf); first
          | (exfalso; omega)
          | refine seq_go ?_
          | refine draw_i (by kernel_rfl) ?_
          | refine arith_half (by omega) ?_
          | refine arith_in (by omega) ?_
          | refine arith_u (by omega) ?_
          | refine need_i (p := (T.row _).eq = true) (by kernel_rfl) ?_
          | refine need_i (by omega) ?_
          | refine br_not ?_
          | refine br_dec (fun hd => ?_) (fun hd => ?_)
          | refine br_lt (fun hlt => ?_) (fun hlt => ?_)
          | refine br_le (fun hle => ?_) (fun hle => ?_)
          | refine br_eq (fun heq => ?_) (fun heq => ?_)
          | refine idx_map (by omega) (fun x hx => ?_)
          | refine live_i rfl (fun h => by cases h) ?_
          | refine branch_s (fun hbb => ?_) (fun hbb => ?_)
          | refine ret_i ?_)
        conv => whnf
        refine ret_two ⟨rfl, rfl, rfl, rfl, trivial⟩ ?_ rfl
        show Value.bool true = Value.bool _
        rw [decB_t.2 hne]
      | cons y R =>
        rw [List.length_cons] at hlen'
        have es : (D ++ [y]).foldl boxF (x, x) = boxF (D.foldl boxF (x, x)) y := by rw [List.foldl_append]; rfl
        generalize D.foldl boxF (x, x) = b at es
        repeat' ((conv => whnf); first
          | (exfalso; omega)
          | refine need_len (l := l) (by omega) ?_
          | refine idx_mid (l := l) (A := D) (x := y) (B := R) hp (by omega) ?_
          | refine seq_go ?_
          | refine draw_i (by kernel_rfl) ?_
          | refine arith_half (by omega) ?_
          | refine arith_in (by omega) ?_
          | refine arith_u (by omega) ?_
          | refine need_i (p := (T.row _).eq = true) (by kernel_rfl) ?_
          | refine need_i (by omega) ?_
          | refine br_not ?_
          | refine br_dec (fun hd => ?_) (fun hd => ?_)
          | refine br_lt (fun hlt => ?_) (fun hlt => ?_)
          | refine br_le (fun hle => ?_) (fun hle => ?_)
          | refine br_eq (fun heq => ?_) (fun heq => ?_)
          | refine idx_map (by omega) (fun x hx => ?_)
          | refine live_i rfl (fun h => by cases h) ?_
          | refine branch_s (fun hbb => ?_) (fun hbb => ?_)
          | refine ret_i ?_)
        conv => whnf
        refine ⟨(D ++ [y], R), ?_, ?_, ?_⟩
        · show Le T _ (mkSt [(0, .sl (l.map vcV)), (2, .box 2 0), (4, .box 4 0), (5, I (D ++ [y]).length)] [(2, [I 0, I 0, I 0, I 0]), (4, [I ((D ++ [y]).foldl boxF (x, x)).1.1, I ((D ++ [y]).foldl boxF (x, x)).1.2, I ((D ++ [y]).foldl boxF (x, x)).2.1, I ((D ++ [y]).foldl boxF (x, x)).2.2])] [])
          rw [es]
          refine le_mk ?_ ?_ ?_ ?_
          all_goals repeat' (first | exact trivial | refine And.intro ?_ ?_ | with_reducible rfl | exact Nat.le_refl _ | omega | exact rfl)
          · show (D.length : Int) + 1 = (D ++ [y]).length
            simp
        · show l = D ++ [y] ++ R
          rw [show l = D ++ y :: R from hp]; simp
        · show R.length < (y :: R).length
          simp
theorem rbox_spec (l : List Vc) (hl : l.length ≤ 1000000) : Sp 82 [.sl (l.map vcV)] (.tup [bxV (boxP l), .lit (.bool (decB (l ≠ [])))]) := sp_of Tryd.func82 (by kernel_rfl) (by kernel_rfl) (rbox_vc l hl)

/-- the summary -/
structure Sm where
  ra : Int
  cu : Int
  pi : Int
  jo : Int
  pos : Vc
  pts : List Vc
noncomputable def stepS (s : Sm) (m : Mv) : Sm :=
  if m.1 = 1 then { s with ra := s.ra + normV (subV m.2 s.pos), pos := m.2 }
  else if m.1 = 2 then { s with cu := s.cu + normV (subV m.2 s.pos), pts := s.pts ++ [s.pos, m.2], pos := m.2 }
  else if m.1 = 3 then { s with pi := s.pi + 1 }
  else if m.1 = 5 then { s with jo := s.jo + 1 }
  else s
def sm0 : Sm := ⟨0, 0, 0, 0, (0, 0), []⟩
noncomputable def sumS (l : List Mv) : Sm := l.foldl stepS sm0
theorem sumS_snoc (l : List Mv) (m : Mv) : sumS (l ++ [m]) = stepS (sumS l) m := by unfold sumS; rw [List.foldl_append]; rfl
/-- what a summary of k moves can be -/
def SmB (s : Sm) (k : Nat) : Prop := (0 ≤ s.ra ∧ s.ra ≤ 4000 * k) ∧ (0 ≤ s.cu ∧ s.cu ≤ 4000 * k) ∧ (0 ≤ s.pi ∧ s.pi ≤ k) ∧ (0 ≤ s.jo ∧ s.jo ≤ k) ∧ smallV 2000 s.pos ∧ s.pts.length ≤ 2 * k
theorem subB {a b : Vc} (ha : smallV 2000 a) (hb : smallV 2000 b) : smallV 4000 (subV a b) := by
  obtain ⟨a1, a2⟩ := ha
  obtain ⟨b1, b2⟩ := hb
  exact ⟨by show _ ≤ a.1 - b.1 ∧ a.1 - b.1 ≤ _; omega, by show _ ≤ a.2 - b.2 ∧ a.2 - b.2 ≤ _; omega⟩
theorem mv_small {m : Mv} (h : mvOk m) : smallV 2000 m.2 := by
  unfold mvOk within at h
  exact ⟨by omega, by omega⟩
theorem stepB {s : Sm} {k : Nat} {m : Mv} (h : SmB s k) (hm : mvOk m) : SmB (stepS s m) (k + 1) := by
  obtain ⟨h1, h2, h3, h4, h5, h6⟩ := h
  have hms := mv_small hm
  have hn := normB (subB hms h5)
  unfold stepS
  split
  · refine ⟨?_, ?_, ?_, ?_, hms, ?_⟩ <;> dsimp only <;> omega
  · split
    · refine ⟨?_, ?_, ?_, ?_, hms, ?_⟩ <;> dsimp only <;> first | omega | (rw [List.length_append, List.length_cons, List.length_singleton]; omega)
    · split
      · refine ⟨?_, ?_, ?_, ?_, h5, ?_⟩ <;> dsimp only <;> omega
      · split
        · refine ⟨?_, ?_, ?_, ?_, h5, ?_⟩ <;> dsimp only <;> omega
        · exact ⟨by omega, by omega, by omega, by omega, h5, by omega⟩
theorem sumB49 : ∀ (l : List Mv), (∀ m ∈ l, mvOk m) → SmB (sumS l) l.length := by
  intro l
  refine snoc_ind (p := fun l : List Mv => (∀ m ∈ l, mvOk m) → SmB (sumS l) l.length) ?_ ?_ l
  · intro _
    exact ⟨by decide, by decide, by decide, by decide, ⟨by decide, by decide⟩, by decide⟩
  · intro xs x ih h
    rw [sumS_snoc, List.length_append]
    exact stepB (ih (fun m hm => h m (by simp [hm]))) (h x (by simp))
end Go.Proofs.Cost58
