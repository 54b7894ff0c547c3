/-
  The functions of the envelopes, walked: values, tests, conversions.
-/
import Derived.Test.YtbmbfifobonfjaaAbUse
import Derived.Test.YtbmbfifobonfjaaP2
import Derived.Test.YtbmbfifobonfjaaProg
set_option linter.unusedVariables false
set_option linter.unusedSimpArgs false
namespace Go.Proofs.Env41
open Go Go.Proofs Go.Ab

noncomputable def T : Tab := tabOf Try.prog 113 [0, 35, 40, 45, 50, 52, 65, 69, 81]
theorem tabOk : TabOk T Try.prog := tabOf_ok (by kernel_rfl)
theorem mixed : Try.prog.follows .mixedOrders = true := by kernel_rfl
abbrev Sp (f : FuncId) (ys : List V) (r : V) : Prop := Go.Ab.Spec T Try.prog f ys r
theorem sp_of {f : FuncId} {fn : Func} {ys : List V} {r : V} (hf : Try.prog.funcs[f]? = some fn) (hc : callable Try.prog f = true) (hn : Nat.ble ys.length fn.ntmps = true) (h : fnVC T Try.prog fn ys r) : Sp f ys r :=
  fn_sound tabOk mixed hf hc (Nat.le_of_ble_eq_true hn) h

def stepV (s : Int × Int) : V := .agg [.lit (.int .i64 s.1), .lit (.int .i64 s.2)]
def envV (W : Int) (l : List (Int × Int)) : V := .agg [.lit (.int .i64 W), .sl (l.map stepV)]
def I (n : Int) : V := .lit (.int .i64 n)
@[irreducible] noncomputable def decB (p : Prop) : Bool := @decide p (Classical.propDecidable p)
theorem decB_t {p : Prop} : decB p = true ↔ p := by unfold decB; simp
theorem decB_f {p : Prop} : decB p = false ↔ ¬ p := by unfold decB; simp
theorem br_dec {p A B : Prop} (h1 : p → A) (h2 : ¬ p → B) : branch (decB p) A B := branch_s (fun h => h1 (decB_t.1 h)) (fun h => h2 (decB_f.1 h))
theorem dec_ret {p : Prop} (h : p) : true = decB p := (decB_t.2 h).symm
theorem dec_retf {p : Prop} (h : ¬ p) : false = decB p := (decB_f.2 h).symm
theorem lt_dec {a b : Int} {p : Prop} (h : a < b ↔ p) : ltB a b = decB p := Bool.eq_iff_iff.2 (by rw [ltB_t, decB_t]; exact h)
theorem le_dec {a b : Int} {p : Prop} (h : a ≤ b ↔ p) : leB a b = decB p := Bool.eq_iff_iff.2 (by rw [leB_t, decB_t]; exact h)
theorem eq_dec {a b : Int} {p : Prop} (h : a = b ↔ p) : eqB a b = decB p := Bool.eq_iff_iff.2 (by rw [eqB_t, decB_t]; exact h)
theorem not_dec {b : Bool} {p : Prop} (h : b = false ↔ p) : (!b) = decB p := Bool.eq_iff_iff.2 (by rw [decB_t, ← h]; cases b <;> simp)
theorem dec_dec {p q : Prop} (h : p ↔ q) : decB p = decB q := Bool.eq_iff_iff.2 (by rw [decB_t, decB_t]; exact h)

set_option maxRecDepth 100000

theorem in_vc (n lo hi : Int) : fnVC T Try.prog Try.f42 [I n, I lo, I hi] (B (decB (lo ≤ n ∧ n ≤ hi))) := by
  repeat' ((conv => whnf); first
    | refine seq_go ?_
    | refine draw_i (by kernel_rfl) ?_
    | refine arith_in (by omega) ?_
    | refine need_i (p := (T.row _).eq = true) (by kernel_rfl) ?_
    | refine need_i (by omega) ?_
    | refine br_not ?_
    | refine br_dec (fun hd => ?_) (fun hd => ?_)
    | refine br_lt (fun hlt => ?_) (fun hlt => ?_)
    | refine br_le (fun hle => ?_) (fun hle => ?_)
    | refine br_eq (fun heq => ?_) (fun heq => ?_)
    | refine idx_map (by omega) (fun x hx => ?_)
    | refine live_i rfl (fun h => by cases h) ?_
    | refine ret_i ?_)
  all_goals refine ret_bool ?_
  · exact le_dec (by omega)
  · exact dec_retf (by omega)
theorem in_spec (n lo hi : Int) : Sp 42 [I n, I lo, I hi] (B (decB (lo ≤ n ∧ n ≤ hi))) := sp_of Try.func42 (by kernel_rfl) (by kernel_rfl) (in_vc n lo hi)

theorem end_vc (W : Int) (i : Nat) (l : List (Int × Int)) (hl : l.length ≤ 100000) (hi : i < l.length) : fnVC T Try.prog Try.f46 [envV W l, I i] (I (endP W l i)) := by
  have hs : (l.map stepV).length = l.length := by simp
  repeat' ((conv => whnf); first
    | refine seq_go ?_
    | refine draw_i (by kernel_rfl) ?_
    | refine arith_in (by omega) ?_
    | refine need_i (p := (T.row _).eq = true) (by kernel_rfl) ?_
    | refine need_i (by omega) ?_
    | refine br_not ?_
    | refine br_dec (fun hd => ?_) (fun hd => ?_)
    | refine br_lt (fun hlt => ?_) (fun hlt => ?_)
    | refine br_le (fun hle => ?_) (fun hle => ?_)
    | refine br_eq (fun heq => ?_) (fun heq => ?_)
    | refine idx_map (by omega) (fun x hx => ?_)
    | refine live_i rfl (fun h => by cases h) ?_
    | refine ret_i ?_)
  all_goals refine ret_int ?_
  · have : ((i : Int) + 1).toNat = i + 1 := by omega
    rw [this] at hx
    simp [endP, hx]
  · have : l[i + 1]? = none := List.getElem?_eq_none (by omega)
    simp [endP, this]
theorem end_spec (W : Int) (i : Nat) (l : List (Int × Int)) (hl : l.length ≤ 100000) (hi : i < l.length) : Sp 46 [envV W l, I i] (I (endP W l i)) := sp_of Try.func46 (by kernel_rfl) (by kernel_rfl) (end_vc W i l hl hi)

theorem at_vc {W x : Int} {l : List (Int × Int)} (hl : l.length ≤ 100000) {i : Nat} (hi : i < l.length) (hx : x < endP W l i) (hj : ∀ j, j < i → endP W l j ≤ x) : fnVC T Try.prog Try.f43 [envV W l, I x] (I i) := by
  repeat' ((conv => whnf); first
    | refine seq_go ?_
    | refine draw_i (by kernel_rfl) ?_
    | refine arith_in (by omega) ?_
    | refine need_i (p := (T.row _).eq = true) (by kernel_rfl) ?_
    | refine need_i (by omega) ?_
    | refine br_not ?_
    | refine br_dec (fun hd => ?_) (fun hd => ?_)
    | refine br_lt (fun hlt => ?_) (fun hlt => ?_)
    | refine br_le (fun hle => ?_) (fun hle => ?_)
    | refine br_eq (fun heq => ?_) (fun heq => ?_)
    | refine idx_map (by omega) (fun x hx => ?_)
    | refine live_i rfl (fun h => by cases h) ?_
    | refine ret_i ?_)
  refine loop_i (A := Nat) (fun j => mkSt [(1, I x), (2, .box 2 0), (5, I j)] [(2, [I W, .sl (l.map stepV)])] []) (fun j => j ≤ i) (fun j => i - j) 0 ?_ (by omega) (fun j hj' => ?_)
  · refine le_mk ?_ ?_ ?_
    all_goals repeat' (first | exact trivial | refine And.intro ?_ ?_ | with_reducible rfl | exact Nat.le_refl _ | omega | exact rfl)
  · change j ≤ i at hj'
    repeat' ((conv => whnf); first
      | refine call_i (end_spec W j l hl (by omega)) false (by repeat' (first | exact trivial | refine And.intro ?_ ?_ | with_reducible rfl | exact rfl)) rfl ?_
      | refine seq_go ?_
      | refine draw_i (by kernel_rfl) ?_
      | refine arith_in (by omega) ?_
      | refine need_i (p := (T.row _).eq = true) (by kernel_rfl) ?_
      | refine need_i (by omega) ?_
      | refine br_not ?_
      | refine br_dec (fun hd => ?_) (fun hd => ?_)
      | refine br_lt (fun hlt => ?_) (fun hlt => ?_)
      | refine br_le (fun hle => ?_) (fun hle => ?_)
      | refine br_eq (fun heq => ?_) (fun heq => ?_)
      | refine idx_map (by omega) (fun x hx => ?_)
      | refine live_i rfl (fun h => by cases h) ?_
      | refine ret_i ?_)
    · have hji : j ≠ i := by intro e; subst e; omega
      refine ⟨j + 1, ?_, by omega, by omega⟩
      refine le_mk ?_ ?_ ?_
      all_goals repeat' (first | exact trivial | refine And.intro ?_ ?_ | with_reducible rfl | exact Nat.le_refl _ | omega | exact rfl)
    · refine ret_int ?_
      have : ¬ j < i := fun h' => by have := hj j h'; omega
      omega
theorem at_spec {W x : Int} {l : List (Int × Int)} (h : Val W l) (hl : l.length ≤ 100000) {i : Nat} (hi : i < l.length) (h1 : begP W l i ≤ x) (h2 : x < endP W l i) : Sp 43 [envV W l, I x] (I i) :=
  sp_of Try.func43 (by kernel_rfl) (by kernel_rfl) (at_vc hl hi h2 (fun j hj => by
    have := begP_mono h (i := j + 1) (j := i) (by omega)
    rw [endP_beg]; omega))

theorem few_vc (W : Int) (l : List (Int × Int)) : fnVC T Try.prog Try.f11 [envV W l] (B (decB (W ≤ 200 ∧ l.length ≤ 250))) := by
  have hs : (l.map stepV).length = l.length := by simp
  repeat' ((conv => whnf); first
    | refine seq_go ?_
    | refine draw_i (by kernel_rfl) ?_
    | refine arith_in (by omega) ?_
    | refine need_i (p := (T.row _).eq = true) (by kernel_rfl) ?_
    | refine need_i (by omega) ?_
    | refine br_not ?_
    | refine br_dec (fun hd => ?_) (fun hd => ?_)
    | refine br_lt (fun hlt => ?_) (fun hlt => ?_)
    | refine br_le (fun hle => ?_) (fun hle => ?_)
    | refine br_eq (fun heq => ?_) (fun heq => ?_)
    | refine idx_map (by omega) (fun x hx => ?_)
    | refine live_i rfl (fun h => by cases h) ?_
    | refine ret_i ?_)
  · refine ret_bool (le_dec ?_)
    rw [hs]; omega
  · exact ret_bool (dec_retf (by omega))
theorem few_spec (W : Int) (l : List (Int × Int)) : Sp 11 [envV W l] (B (decB (W ≤ 200 ∧ l.length ≤ 250))) := sp_of Try.func11 (by kernel_rfl) (by kernel_rfl) (few_vc W l)

theorem own_vc (W : Int) (l : List (Int × Int)) (hl : l.length ≤ 100000) : fnVC T Try.prog Try.f13 [envV W l] (envV W l) := by
  have hs : (l.map stepV).length = l.length := by simp
  repeat' ((conv => whnf); first
    | refine seq_go ?_
    | refine draw_i (by kernel_rfl) ?_
    | refine arith_in (by omega) ?_
    | refine need_i (p := (T.row _).eq = true) (by kernel_rfl) ?_
    | refine need_i (by omega) ?_
    | refine br_not ?_
    | refine br_dec (fun hd => ?_) (fun hd => ?_)
    | refine br_lt (fun hlt => ?_) (fun hlt => ?_)
    | refine br_le (fun hle => ?_) (fun hle => ?_)
    | refine br_eq (fun heq => ?_) (fun heq => ?_)
    | refine idx_map (by omega) (fun x hx => ?_)
    | refine live_i rfl (fun h => by cases h) ?_
    | refine ret_i ?_)
  refine loop_i (A := Nat) (fun j => mkSt [(2, .box 2 0), (3, .box 3 0), (10, .sl (l.map stepV)), (11, I l.length), (12, I j)] [(2, [I 0, .lit (.slice none 0 0)]), (3, [I W, .arr 20 j])] [(20, ⟨j, .own, 80, (l.take j).map stepV⟩)])
    (fun j => j ≤ l.length) (fun j => l.length - j) 0 ?_ (by omega) (fun j hj' => ?_)
  · refine le_mk ?_ ?_ ?_
    all_goals repeat' (first | exact trivial | refine And.intro ?_ ?_ | with_reducible rfl | exact Nat.le_refl _ | omega | exact rfl)
  · change j ≤ l.length at hj'
    repeat' ((conv => whnf); first
      | refine need_app rfl (.inl rfl) rfl (of_decide_eq_true rfl) (one_cells rfl) (by show (List.map stepV (l.take j)).length + 1 ≤ _; simp; omega) ?_
      | refine seq_go ?_
      | refine draw_i (by kernel_rfl) ?_
      | refine arith_in (by omega) ?_
      | refine need_i (p := (T.row _).eq = true) (by kernel_rfl) ?_
      | refine need_i (by omega) ?_
      | refine br_not ?_
      | refine br_dec (fun hd => ?_) (fun hd => ?_)
      | refine br_lt (fun hlt => ?_) (fun hlt => ?_)
      | refine br_le (fun hle => ?_) (fun hle => ?_)
      | refine br_eq (fun heq => ?_) (fun heq => ?_)
      | refine idx_map (by omega) (fun x hx => ?_)
      | refine live_i rfl (fun h => by cases h) ?_
      | refine ret_i ?_)
    · have hj2 : (j : Int).toNat = j := by omega
      rw [hj2] at hx
      refine ⟨j + 1, ?_, by omega, by omega⟩
      have ht : (l.take (j + 1)) = l.take j ++ [x] := by rw [List.take_add_one, hx]; rfl
      refine le_mk ?_ ?_ ?_
      all_goals repeat' (first | exact trivial | refine And.intro ?_ ?_ | with_reducible rfl | exact Nat.le_refl _ | omega | exact rfl)
      · show List.map stepV (l.take j) ++ [stepV x] = List.map stepV (l.take (j + 1))
        rw [ht]; simp
    · have : j = l.length := by omega
      subst this
      conv => whnf
      refine ⟨⟨⟨rfl, ⟨rfl, (fun h => by cases h), ?_⟩, trivial⟩, trivial⟩, rfl, fun _ h => by cases h⟩
      show List.map stepV (l.take l.length) = _
      rw [List.take_length]
theorem own_spec (W : Int) (l : List (Int × Int)) (hl : l.length ≤ 100000) : Sp 13 [envV W l] (envV W l) := sp_of Try.func13 (by kernel_rfl) (by kernel_rfl) (own_vc W l hl)
end Go.Proofs.Env41
